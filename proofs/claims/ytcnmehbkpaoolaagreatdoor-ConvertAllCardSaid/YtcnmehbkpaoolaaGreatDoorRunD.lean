/-
 Proof.
-/
import Derived.Test.YtcnmehbkpaoolaaGreatDoorRunC
import Derived.Test.YtcnmehbkpaoolaaGreatDoorRunB1
import Derived.Test.YtcnmehbkpaoolaaGreatDoorRunB2
import Derived.Laws.Externs
import Derived.KernelRfl
namespace Go.Den
open Go.Proofs
set_option maxRecDepth 100000
theorem Bh2{a:List AV}{h:H}{k:KV}(hg:cnd (Nat.beq (len a) 2) (oK (Ib (.Kx .i64) a h) k) False):zqs 106 a h k:=
 Gy (e:=(.Kx .i64)) (n:=2) rfl (fun args w=>run_callFunc_extern (e:=Sa (.Kx .i64)) Tryz.func106 (by kernel_rfl) (by kernel_rfl) (by kernel_rfl) (by kernel_rfl) args w) hg
theorem A8c{a:List AV}{h:H}{k:KV}(hg:cnd (Nat.beq (len a) 1) (oK (Ib .Jd a h) k) False):zqs 164 a h k:=
 Gy (e:=.Jd) (n:=1) rfl (fun args w=>run_callFunc_extern (e:=Sa .Jd) Tryz.func164 (by kernel_rfl) (by kernel_rfl) (by kernel_rfl) (by kernel_rfl) args w) hg
theorem A8b{a:List AV}{h:H}{k:KV}(hg:cnd (Nat.beq (len a) 1) (oK (Ib (.Nl .u32) a h) k) False):zqs 175 a h k:=
 Gy (e:=(.Nl .u32)) (n:=1) rfl (fun args w=>run_callFunc_extern (e:=Sa (.Nl .u32)) Tryz.func175 (by kernel_rfl) (by kernel_rfl) (by kernel_rfl) (by kernel_rfl) args w) hg
theorem Bh1{a:List AV}{h:H}{k:KV}(hg:cnd (Nat.beq (len a) 2) (oK (Ib (.Kx .u32) a h) k) False):zqs 229 a h k:=
 Gy (e:=(.Kx .u32)) (n:=2) rfl (fun args w=>run_callFunc_extern (e:=Sa (.Kx .u32)) Tryz.func229 (by kernel_rfl) (by kernel_rfl) (by kernel_rfl) (by kernel_rfl) args w) hg
theorem A8a{a:List AV}{h:H}{k:KV}(hg:cnd (Nat.beq (len a) 2) (oK (Ib .indexByte a h) k) False):zqs 257 a h k:=
 Gy (e:=.indexByte) (n:=2) rfl (fun args w=>run_callFunc_extern (e:=Sa .indexByte) Tryz.func257 (by kernel_rfl) (by kernel_rfl) (by kernel_rfl) (by kernel_rfl) args w) hg
theorem Bh0{a:List AV}{h:H}{k:KV}(hg:cnd (Nat.beq (len a) 0) (k .undef h) False):zqs 267 a h k:=
 Ah4 (run_call_mark0 Tryz.func267 (by kernel_rfl) (by kernel_rfl) (by kernel_rfl) .disable (by kernel_rfl)) hg
theorem Bhz{a:List AV}{h:H}{k:KV}(hg:cnd (Nat.beq (len a) 3) (oK (Ib (.Xv .i32) a h) k) False):zqs 268 a h k:=
 Gy (e:=(.Xv .i32)) (n:=3) rfl (fun args w=>run_callFunc_extern (e:=Sa (.Xv .i32)) Tryz.func268 (by kernel_rfl) (by kernel_rfl) (by kernel_rfl) (by kernel_rfl) args w) hg
theorem Bhy{a:List AV}{h:H}{k:KV}(hg:cnd (Nat.beq (len a) 0) (k .undef h) False):zqs 269 a h k:=
 Ah4 (run_call_mark0 Tryz.func269 (by kernel_rfl) (by kernel_rfl) (by kernel_rfl) .enable (by kernel_rfl)) hg
theorem Bhx{a:List AV}{h:H}{k:KV}(hg:asP (Lu a) fun _ _=>cnd (Nat.beq (len a) 1) (k .undef h) False):zqs 270 a h k:=
 Ah3 (run_call_marked Tryz.func270 (by kernel_rfl) (by kernel_rfl) (by kernel_rfl) .acquire (by kernel_rfl)) hg
theorem Bhw{a:List AV}{h:H}{k:KV}(hg:asP (Lu a) fun _ _=>cnd (Nat.beq (len a) 1) (k .undef h) False):zqs 272 a h k:=
 Ah3 (run_call_marked Tryz.func272 (by kernel_rfl) (by kernel_rfl) (by kernel_rfl) .releaseMerge (by kernel_rfl)) hg
theorem Bhv{a:List AV}{h:H}{k:KV}(hg:cnd (Nat.beq (len a) 2) (oK (Ib (.Ajm .i32) a h) k) False):zqs 273 a h k:=
 Gy (e:=(.Ajm .i32)) (n:=2) rfl (fun args w=>run_callFunc_extern (e:=Sa (.Ajm .i32)) Tryz.func273 (by kernel_rfl) (by kernel_rfl) (by kernel_rfl) (by kernel_rfl) args w) hg
theorem Bhu{a:List AV}{h:H}{k:KV}(hg:cnd (Nat.beq (len a) 1) (oK (Ib (.Nl .i64) a h) k) False):zqs 315 a h k:=
 Gy (e:=(.Nl .i64)) (n:=1) rfl (fun args w=>run_callFunc_extern (e:=Sa (.Nl .i64)) Tryz.func315 (by kernel_rfl) (by kernel_rfl) (by kernel_rfl) (by kernel_rfl) args w) hg
theorem Bht{a:List AV}{h:H}{k:KV}(hg:cnd (Nat.beq (len a) 3) (oK (Ib (.Xv .i64) a h) k) False):zqs 316 a h k:=
 Gy (e:=(.Xv .i64)) (n:=3) rfl (fun args w=>run_callFunc_extern (e:=Sa (.Xv .i64)) Tryz.func316 (by kernel_rfl) (by kernel_rfl) (by kernel_rfl) (by kernel_rfl) args w) hg
theorem A79{a:List AV}{h:H}{k:KV}(hg:cnd (Nat.beq (len a) 2) (oK (Ib .count a h) k) False):zqs 378 a h k:=
 Gy (e:=.count) (n:=2) rfl (fun args w=>run_callFunc_extern (e:=Sa .count) Tryz.func378 (by kernel_rfl) (by kernel_rfl) (by kernel_rfl) (by kernel_rfl) args w) hg
theorem Bio{c:CF}(hc:Fq Tryz.prog (CP env) G (fun p=>p) c){k:KV}{m:Nat}{a:List AV}{h:H}(hg:Atd env c (oc 0).toList (Ja 3 (oc 1).toList) (oc 2).toList (Ja 3 (oc 3).toList) (oc 4).toList (.tmp 10) (.tmp 15) (.tmp 18) (fun a h k=>f177 (Akc c k m) 0 (Ab a) h) (fun a h k=>f178 (Akb c k m) 0 (Ab a) h) (Ab a) h k):zqs 123 a h k:=
 Ayf (o0:=oc 0) (o1:=oc 1) (o2:=oc 2) (o3:=oc 3) (o4:=oc 4) (u1:=177) (u3:=178) (d1:=Afd (oc 1).toList 3) (d3:=Afd (oc 3).toList 3) (i0:=Aue (Wm d123 (.l .root))) (i1:=Aue (Wm d123 (.l (.r .root)))) (i2:=Aue (Wm d123 (.l (.r (.r .root))))) (i3:=Aue (Wm d123 (.l (.l (.r (.r (.r .root))))))) (i4:=Aue (Wm d123 (.r (.l (.r (.r (.r .root))))))) (a1:=A1m (Afd (oc 1).toList 3)) (a3:=A1m (Afd (oc 3).toList 3)) Ew hc Tryz.func123 (by kernel_rfl) (by kernel_rfl) (by kernel_rfl) (by kernel_rfl) (by kernel_rfl) ⟨by kernel_rfl,by kernel_rfl,by kernel_rfl⟩ ⟨by kernel_rfl,by kernel_rfl,by kernel_rfl⟩
  (by kernel_rfl) (by kernel_rfl) (by kernel_rfl) (by kernel_rfl) (by kernel_rfl) (by kernel_rfl) (by kernel_rfl) (by kernel_rfl) (fun _ _ _ hx=>A8f hc hx) (fun _ _ _ hx=>A8e hc hx) hg
theorem Azf{c:CF}(hc:Fq Tryz.prog (CP env) G (fun p=>p) c){m i:Nat}{a:List AV}{h:H}{k:KV}(hg:A7e c m i a h k):zqs i a h k:=
 (Cg
 (Cg
 (Cg
 (Cg
 (Cg
 (Cg
 (Cf (T:=fun q=>zqs q a h k) (fun hx=>w15 hc hx))
 (Cg
 (Cf (T:=fun q=>zqs q a h k) (fun hx=>w16 hc hx))
 (Cf (T:=fun q=>zqs q a h k) (fun hx=>w20 hc hx))))
 (Cg
 (Cf (T:=fun q=>zqs q a h k) (fun hx=>w22 hc hx))
 (Cg
 (Cf (T:=fun q=>zqs q a h k) (fun hx=>w34 hc hx))
 (Cf (T:=fun q=>zqs q a h k) (fun hx=>w35 hc hx)))))
 (Cg
 (Cg
 (Cf (T:=fun q=>zqs q a h k) (fun hx=>w36 hc hx))
 (Cg
 (Cf (T:=fun q=>zqs q a h k) (fun hx=>w43 hc hx))
 (Cf (T:=fun q=>zqs q a h k) (fun hx=>w46 hc hx))))
 (Cg
 (Cf (T:=fun q=>zqs q a h k) (fun hx=>w59 hc hx))
 (Cg
 (Cf (T:=fun q=>zqs q a h k) (fun hx=>w60 hc hx))
 (Cf (T:=fun q=>zqs q a h k) (fun hx=>w61 hc hx))))))
 (Cg
 (Cg
 (Cg
 (Cf (T:=fun q=>zqs q a h k) (fun hx=>w62 hc hx))
 (Cg
 (Cf (T:=fun q=>zqs q a h k) (fun hx=>w63 hc hx))
 (Cf (T:=fun q=>zqs q a h k) (fun hx=>w64 hc hx))))
 (Cg
 (Cf (T:=fun q=>zqs q a h k) (fun hx=>w65 hc hx))
 (Cg
 (Cf (T:=fun q=>zqs q a h k) (fun hx=>w66 hc hx))
 (Cf (T:=fun q=>zqs q a h k) (fun hx=>w67 hc hx)))))
 (Cg
 (Cg
 (Cf (T:=fun q=>zqs q a h k) (fun hx=>w74 hc hx))
 (Cg
 (Cf (T:=fun q=>zqs q a h k) (fun hx=>w75 hc hx))
 (Cf (T:=fun q=>zqs q a h k) (fun hx=>w76 hc hx))))
 (Cg
 (Cf (T:=fun q=>zqs q a h k) (fun hx=>w77 hc hx))
 (Cg
 (Cf (T:=fun q=>zqs q a h k) (fun hx=>w78 hc hx))
 (Cf (T:=fun q=>zqs q a h k) (fun hx=>w79 hc hx)))))))
 (Cg
 (Cg
 (Cg
 (Cg
 (Cf (T:=fun q=>zqs q a h k) (fun hx=>w80 hc hx))
 (Cg
 (Cf (T:=fun q=>zqs q a h k) (fun hx=>w81 hc hx))
 (Cf (T:=fun q=>zqs q a h k) (fun hx=>Bh2 hx))))
 (Cg
 (Cf (T:=fun q=>zqs q a h k) (fun hx=>A9e hc hx))
 (Cg
 (Cf (T:=fun q=>zqs q a h k) (fun hx=>A9d hc hx))
 (Cf (T:=fun q=>zqs q a h k) (fun hx=>A9c hc hx)))))
 (Cg
 (Cg
 (Cf (T:=fun q=>zqs q a h k) (fun hx=>A9b hc hx))
 (Cg
 (Cf (T:=fun q=>zqs q a h k) (fun hx=>A9a hc hx))
 (Cf (T:=fun q=>zqs q a h k) (fun hx=>A89 hc hx))))
 (Cg
 (Cf (T:=fun q=>zqs q a h k) (fun hx=>A88 hc hx))
 (Cg
 (Cf (T:=fun q=>zqs q a h k) (fun hx=>A87 hc hx))
 (Cf (T:=fun q=>zqs q a h k) (fun hx=>A86 hc hx))))))
 (Cg
 (Cg
 (Cg
 (Cf (T:=fun q=>zqs q a h k) (fun hx=>A85 hc hx))
 (Cg
 (Cf (T:=fun q=>zqs q a h k) (fun hx=>A84 hc hx))
 (Cf (T:=fun q=>zqs q a h k) (fun hx=>A83 hc hx))))
 (Cg
 (Cf (T:=fun q=>zqs q a h k) (fun hx=>A82 hc hx))
 (Cg
 (Cf (T:=fun q=>zqs q a h k) (fun hx=>A81 hc hx))
 (Cf (T:=fun q=>zqs q a h k) (fun hx=>A80 hc hx)))))
 (Cg
 (Cg
 (Cf (T:=fun q=>zqs q a h k) (fun hx=>Bio hc hx))
 (Cg
 (Cf (T:=fun q=>zqs q a h k) (fun hx=>Bin hc hx))
 (Cf (T:=fun q=>zqs q a h k) (fun hx=>Bim hc hx))))
 (Cg
 (Cf (T:=fun q=>zqs q a h k) (fun hx=>Bil hc hx))
 (Cg
 (Cf (T:=fun q=>zqs q a h k) (fun hx=>Bik hc hx))
 (Cf (T:=fun q=>zqs q a h k) (fun hx=>Bij hc hx))))))))
 (Cg
 (Cg
 (Cg
 (Cg
 (Cg
 (Cf (T:=fun q=>zqs q a h k) (fun hx=>Bii hc hx))
 (Cg
 (Cf (T:=fun q=>zqs q a h k) (fun hx=>Bih hc hx))
 (Cf (T:=fun q=>zqs q a h k) (fun hx=>Big hc hx))))
 (Cg
 (Cf (T:=fun q=>zqs q a h k) (fun hx=>Bif hc hx))
 (Cg
 (Cf (T:=fun q=>zqs q a h k) (fun hx=>Bie hc hx))
 (Cf (T:=fun q=>zqs q a h k) (fun hx=>A8z hc hx)))))
 (Cg
 (Cg
 (Cf (T:=fun q=>zqs q a h k) (fun hx=>A8y hc hx))
 (Cg
 (Cf (T:=fun q=>zqs q a h k) (fun hx=>A8x hc hx))
 (Cf (T:=fun q=>zqs q a h k) (fun hx=>A8w hc hx))))
 (Cg
 (Cf (T:=fun q=>zqs q a h k) (fun hx=>A8v hc hx))
 (Cg
 (Cf (T:=fun q=>zqs q a h k) (fun hx=>A8c hx))
 (Cf (T:=fun q=>zqs q a h k) (fun hx=>Bid hc hx))))))
 (Cg
 (Cg
 (Cg
 (Cf (T:=fun q=>zqs q a h k) (fun hx=>A8u hc hx))
 (Cg
 (Cf (T:=fun q=>zqs q a h k) (fun hx=>Bic hc hx))
 (Cf (T:=fun q=>zqs q a h k) (fun hx=>A8t hc hx))))
 (Cg
 (Cf (T:=fun q=>zqs q a h k) (fun hx=>A8s hc hx))
 (Cg
 (Cf (T:=fun q=>zqs q a h k) (fun hx=>A8r hc hx))
 (Cf (T:=fun q=>zqs q a h k) (fun hx=>A8q hc hx)))))
 (Cg
 (Cg
 (Cf (T:=fun q=>zqs q a h k) (fun hx=>A8b hx))
 (Cg
 (Cf (T:=fun q=>zqs q a h k) (fun hx=>Bib hc hx))
 (Cf (T:=fun q=>zqs q a h k) (fun hx=>Bia hc hx))))
 (Cg
 (Cf (T:=fun q=>zqs q a h k) (fun hx=>Bh9 hc hx))
 (Cg
 (Cf (T:=fun q=>zqs q a h k) (fun hx=>Bh8 hc hx))
 (Cf (T:=fun q=>zqs q a h k) (fun hx=>A8p hc hx)))))))
 (Cg
 (Cg
 (Cg
 (Cg
 (Cf (T:=fun q=>zqs q a h k) (fun hx=>A8o hc hx))
 (Cg
 (Cf (T:=fun q=>zqs q a h k) (fun hx=>Bh7 hc hx))
 (Cf (T:=fun q=>zqs q a h k) (fun hx=>A8n hc hx))))
 (Cg
 (Cf (T:=fun q=>zqs q a h k) (fun hx=>A8m hc hx))
 (Cg
 (Cf (T:=fun q=>zqs q a h k) (fun hx=>A8l hc hx))
 (Cf (T:=fun q=>zqs q a h k) (fun hx=>A8k hc hx)))))
 (Cg
 (Cg
 (Cf (T:=fun q=>zqs q a h k) (fun hx=>Bh6 hc hx))
 (Cg
 (Cf (T:=fun q=>zqs q a h k) (fun hx=>Bh5 hc hx))
 (Cf (T:=fun q=>zqs q a h k) (fun hx=>Bh1 hx))))
 (Cg
 (Cf (T:=fun q=>zqs q a h k) (fun hx=>Bh4 hc hx))
 (Cg
 (Cf (T:=fun q=>zqs q a h k) (fun hx=>A8a hx))
 (Cf (T:=fun q=>zqs q a h k) (fun hx=>A8j hc hx))))))
 (Cg
 (Cg
 (Cg
 (Cf (T:=fun q=>zqs q a h k) (fun hx=>Bh3 hc hx))
 (Cg
 (Cf (T:=fun q=>zqs q a h k) (fun hx=>A8i hc hx))
 (Cf (T:=fun q=>zqs q a h k) (fun hx=>Bh0 hx))))
 (Cg
 (Cf (T:=fun q=>zqs q a h k) (fun hx=>Bhz hx))
 (Cg
 (Cf (T:=fun q=>zqs q a h k) (fun hx=>Bhy hx))
 (Cf (T:=fun q=>zqs q a h k) (fun hx=>Bhx hx)))))
 (Cg
 (Cg
 (Cf (T:=fun q=>zqs q a h k) (fun hx=>Bhw hx))
 (Cg
 (Cf (T:=fun q=>zqs q a h k) (fun hx=>Bhv hx))
 (Cf (T:=fun q=>zqs q a h k) (fun hx=>Bhu hx))))
 (Cg
 (Cg
 (Cf (T:=fun q=>zqs q a h k) (fun hx=>Bht hx))
 (Cf (T:=fun q=>zqs q a h k) (fun hx=>A8h hc hx)))
 (Cg
 (Cf (T:=fun q=>zqs q a h k) (fun hx=>A8g hc hx))
 (Cf (T:=fun q=>zqs q a h k) (fun hx=>A79 hx))))))))) hg
theorem Km(m:Nat):∀n,Fq Tryz.prog (CP env) G (fun p=>p) (calls m n)
 |0=>fun _ _ _ _ _ _ _ _ _ _ _ _ hg=>hg.elim
 |n+1=>fun μ h w fn fn' args vargs k s gl hf hv hg=>by
  cases fn with
  |func i=>exact Azf (Km m n) (show A7e (calls m n) m i args h k from hg) μ w fn' vargs s gl hf hv
  |yield l=>exact Ark mixed Ew (Km m n) (show Ajr env (calls m n) (A32 Tryz.prog env G) l args h k from hg) μ w fn' vargs s gl hf hv
  |_=>exact hg.elim
end Go.Den
