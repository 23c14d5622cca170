/-
 Proof.
-/
import Derived.Test.YtcnmehbkpaoolaaGreatDoorRunC
import Derived.Test.YtcnmehbkpaoolaaGreatDoorRunB1
import Derived.Test.YtcnmehbkpaoolaaGreatDoorRunB2
import Derived.Laws.Externs
import Derived.KernelRfl
namespace Go.Den
open Go.Proofs
set_option maxRecDepth 100000
theorem Bih{a:List AV}{h:H}{k:KV}(hg:cnd (Nat.beq (len a) 2) (oK (Hf (.Kc .i64) a h) k) False):zqs 106 a h k:=
 Gk (e:=(.Kc .i64)) (n:=2) rfl (fun args w=>run_callFunc_extern (e:=Rv (.Kc .i64)) Tryz.func106 (by kernel_rfl) (by kernel_rfl) (by kernel_rfl) (by kernel_rfl) args w) hg
theorem A9j{a:List AV}{h:H}{k:KV}(hg:cnd (Nat.beq (len a) 1) (oK (Hf .Ih a h) k) False):zqs 164 a h k:=
 Gk (e:=.Ih) (n:=1) rfl (fun args w=>run_callFunc_extern (e:=Rv .Ih) Tryz.func164 (by kernel_rfl) (by kernel_rfl) (by kernel_rfl) (by kernel_rfl) args w) hg
theorem A9i{a:List AV}{h:H}{k:KV}(hg:cnd (Nat.beq (len a) 1) (oK (Hf (.Mt .u32) a h) k) False):zqs 175 a h k:=
 Gk (e:=(.Mt .u32)) (n:=1) rfl (fun args w=>run_callFunc_extern (e:=Rv (.Mt .u32)) Tryz.func175 (by kernel_rfl) (by kernel_rfl) (by kernel_rfl) (by kernel_rfl) args w) hg
theorem Big{a:List AV}{h:H}{k:KV}(hg:cnd (Nat.beq (len a) 2) (oK (Hf (.Kc .u32) a h) k) False):zqs 229 a h k:=
 Gk (e:=(.Kc .u32)) (n:=2) rfl (fun args w=>run_callFunc_extern (e:=Rv (.Kc .u32)) Tryz.func229 (by kernel_rfl) (by kernel_rfl) (by kernel_rfl) (by kernel_rfl) args w) hg
theorem A9h{a:List AV}{h:H}{k:KV}(hg:cnd (Nat.beq (len a) 2) (oK (Hf .indexByte a h) k) False):zqs 257 a h k:=
 Gk (e:=.indexByte) (n:=2) rfl (fun args w=>run_callFunc_extern (e:=Rv .indexByte) Tryz.func257 (by kernel_rfl) (by kernel_rfl) (by kernel_rfl) (by kernel_rfl) args w) hg
theorem Bif{a:List AV}{h:H}{k:KV}(hg:cnd (Nat.beq (len a) 0) (k .undef h) False):zqs 267 a h k:=
 Aic (run_call_mark0 Tryz.func267 (by kernel_rfl) (by kernel_rfl) (by kernel_rfl) .disable (by kernel_rfl)) hg
theorem Bie{a:List AV}{h:H}{k:KV}(hg:cnd (Nat.beq (len a) 3) (oK (Hf (.Xo .i32) a h) k) False):zqs 268 a h k:=
 Gk (e:=(.Xo .i32)) (n:=3) rfl (fun args w=>run_callFunc_extern (e:=Rv (.Xo .i32)) Tryz.func268 (by kernel_rfl) (by kernel_rfl) (by kernel_rfl) (by kernel_rfl) args w) hg
theorem Bid{a:List AV}{h:H}{k:KV}(hg:cnd (Nat.beq (len a) 0) (k .undef h) False):zqs 269 a h k:=
 Aic (run_call_mark0 Tryz.func269 (by kernel_rfl) (by kernel_rfl) (by kernel_rfl) .enable (by kernel_rfl)) hg
theorem Bic{a:List AV}{h:H}{k:KV}(hg:asP (La a) fun _ _=>cnd (Nat.beq (len a) 1) (k .undef h) False):zqs 270 a h k:=
 Aib (run_call_marked Tryz.func270 (by kernel_rfl) (by kernel_rfl) (by kernel_rfl) .acquire (by kernel_rfl)) hg
theorem Bib{a:List AV}{h:H}{k:KV}(hg:asP (La a) fun _ _=>cnd (Nat.beq (len a) 1) (k .undef h) False):zqs 272 a h k:=
 Aib (run_call_marked Tryz.func272 (by kernel_rfl) (by kernel_rfl) (by kernel_rfl) .releaseMerge (by kernel_rfl)) hg
theorem Bia{a:List AV}{h:H}{k:KV}(hg:cnd (Nat.beq (len a) 2) (oK (Hf (.Ajw .i32) a h) k) False):zqs 273 a h k:=
 Gk (e:=(.Ajw .i32)) (n:=2) rfl (fun args w=>run_callFunc_extern (e:=Rv (.Ajw .i32)) Tryz.func273 (by kernel_rfl) (by kernel_rfl) (by kernel_rfl) (by kernel_rfl) args w) hg
theorem Bh9{a:List AV}{h:H}{k:KV}(hg:cnd (Nat.beq (len a) 1) (oK (Hf (.Mt .i64) a h) k) False):zqs 315 a h k:=
 Gk (e:=(.Mt .i64)) (n:=1) rfl (fun args w=>run_callFunc_extern (e:=Rv (.Mt .i64)) Tryz.func315 (by kernel_rfl) (by kernel_rfl) (by kernel_rfl) (by kernel_rfl) args w) hg
theorem Bh8{a:List AV}{h:H}{k:KV}(hg:cnd (Nat.beq (len a) 3) (oK (Hf (.Xo .i64) a h) k) False):zqs 316 a h k:=
 Gk (e:=(.Xo .i64)) (n:=3) rfl (fun args w=>run_callFunc_extern (e:=Rv (.Xo .i64)) Tryz.func316 (by kernel_rfl) (by kernel_rfl) (by kernel_rfl) (by kernel_rfl) args w) hg
theorem A9g{a:List AV}{h:H}{k:KV}(hg:cnd (Nat.beq (len a) 2) (oK (Hf .count a h) k) False):zqs 378 a h k:=
 Gk (e:=.count) (n:=2) rfl (fun args w=>run_callFunc_extern (e:=Rv .count) Tryz.func378 (by kernel_rfl) (by kernel_rfl) (by kernel_rfl) (by kernel_rfl) args w) hg
theorem Bit{c:CF}(hc:Fc Tryz.prog (CP env) G (fun p=>p) c){k:KV}{m:Nat}{a:List AV}{h:H}(hg:As4 env c (oc 0).toList (Ie 3 (oc 1).toList) (oc 2).toList (Ie 3 (oc 3).toList) (oc 4).toList (.tmp 10) (.tmp 15) (.tmp 18) (fun a h k=>f177 (Akm c k m) 0 (Ac a) h) (fun a h k=>f178 (Akl c k m) 0 (Ac a) h) (Ac a) h k):zqs 123 a h k:=
 Ayv (o0:=oc 0) (o1:=oc 1) (o2:=oc 2) (o3:=oc 3) (o4:=oc 4) (u1:=177) (u3:=178) (d1:=Afn (oc 1).toList 3) (d3:=Afn (oc 3).toList 3) (i0:=Auf (Wk d123 (.l .root))) (i1:=Auf (Wk d123 (.l (.r .root)))) (i2:=Auf (Wk d123 (.l (.r (.r .root))))) (i3:=Auf (Wk d123 (.l (.l (.r (.r (.r .root))))))) (i4:=Auf (Wk d123 (.r (.l (.r (.r (.r .root))))))) (a1:=A16 (Afn (oc 1).toList 3)) (a3:=A16 (Afn (oc 3).toList 3)) Jm hc Tryz.func123 (by kernel_rfl) (by kernel_rfl) (by kernel_rfl) (by kernel_rfl) (by kernel_rfl) ⟨by kernel_rfl,by kernel_rfl,by kernel_rfl⟩ ⟨by kernel_rfl,by kernel_rfl,by kernel_rfl⟩
  (by kernel_rfl) (by kernel_rfl) (by kernel_rfl) (by kernel_rfl) (by kernel_rfl) (by kernel_rfl) (by kernel_rfl) (by kernel_rfl) (fun _ _ _ hx=>A9m hc hx) (fun _ _ _ hx=>A9l hc hx) hg
theorem Az0{c:CF}(hc:Fc Tryz.prog (CP env) G (fun p=>p) c){m i:Nat}{a:List AV}{h:H}{k:KV}(hg:A8e c m i a h k):zqs i a h k:=
 (Cb
 (Cb
 (Cb
 (Cb
 (Cb
 (Cb
 (Ca (T:=fun q=>zqs q a h k) (fun hx=>w15 hc hx))
 (Cb
 (Ca (T:=fun q=>zqs q a h k) (fun hx=>w16 hc hx))
 (Ca (T:=fun q=>zqs q a h k) (fun hx=>w20 hc hx))))
 (Cb
 (Ca (T:=fun q=>zqs q a h k) (fun hx=>w22 hc hx))
 (Cb
 (Ca (T:=fun q=>zqs q a h k) (fun hx=>w34 hc hx))
 (Ca (T:=fun q=>zqs q a h k) (fun hx=>w35 hc hx)))))
 (Cb
 (Cb
 (Ca (T:=fun q=>zqs q a h k) (fun hx=>w36 hc hx))
 (Cb
 (Ca (T:=fun q=>zqs q a h k) (fun hx=>w43 hc hx))
 (Ca (T:=fun q=>zqs q a h k) (fun hx=>w46 hc hx))))
 (Cb
 (Ca (T:=fun q=>zqs q a h k) (fun hx=>w59 hc hx))
 (Cb
 (Ca (T:=fun q=>zqs q a h k) (fun hx=>w60 hc hx))
 (Ca (T:=fun q=>zqs q a h k) (fun hx=>w61 hc hx))))))
 (Cb
 (Cb
 (Cb
 (Ca (T:=fun q=>zqs q a h k) (fun hx=>w62 hc hx))
 (Cb
 (Ca (T:=fun q=>zqs q a h k) (fun hx=>w63 hc hx))
 (Ca (T:=fun q=>zqs q a h k) (fun hx=>w64 hc hx))))
 (Cb
 (Ca (T:=fun q=>zqs q a h k) (fun hx=>w65 hc hx))
 (Cb
 (Ca (T:=fun q=>zqs q a h k) (fun hx=>w66 hc hx))
 (Ca (T:=fun q=>zqs q a h k) (fun hx=>w67 hc hx)))))
 (Cb
 (Cb
 (Ca (T:=fun q=>zqs q a h k) (fun hx=>w74 hc hx))
 (Cb
 (Ca (T:=fun q=>zqs q a h k) (fun hx=>w75 hc hx))
 (Ca (T:=fun q=>zqs q a h k) (fun hx=>w76 hc hx))))
 (Cb
 (Ca (T:=fun q=>zqs q a h k) (fun hx=>w77 hc hx))
 (Cb
 (Ca (T:=fun q=>zqs q a h k) (fun hx=>w78 hc hx))
 (Ca (T:=fun q=>zqs q a h k) (fun hx=>w79 hc hx)))))))
 (Cb
 (Cb
 (Cb
 (Cb
 (Ca (T:=fun q=>zqs q a h k) (fun hx=>w80 hc hx))
 (Cb
 (Ca (T:=fun q=>zqs q a h k) (fun hx=>w81 hc hx))
 (Ca (T:=fun q=>zqs q a h k) (fun hx=>Bih hx))))
 (Cb
 (Ca (T:=fun q=>zqs q a h k) (fun hx=>Baw hc hx))
 (Cb
 (Ca (T:=fun q=>zqs q a h k) (fun hx=>Bav hc hx))
 (Ca (T:=fun q=>zqs q a h k) (fun hx=>Bau hc hx)))))
 (Cb
 (Cb
 (Ca (T:=fun q=>zqs q a h k) (fun hx=>Bat hc hx))
 (Cb
 (Ca (T:=fun q=>zqs q a h k) (fun hx=>Bas hc hx))
 (Ca (T:=fun q=>zqs q a h k) (fun hx=>Bar hc hx))))
 (Cb
 (Ca (T:=fun q=>zqs q a h k) (fun hx=>Baq hc hx))
 (Cb
 (Ca (T:=fun q=>zqs q a h k) (fun hx=>Bap hc hx))
 (Ca (T:=fun q=>zqs q a h k) (fun hx=>Bao hc hx))))))
 (Cb
 (Cb
 (Cb
 (Ca (T:=fun q=>zqs q a h k) (fun hx=>Ban hc hx))
 (Cb
 (Ca (T:=fun q=>zqs q a h k) (fun hx=>Bam hc hx))
 (Ca (T:=fun q=>zqs q a h k) (fun hx=>Bal hc hx))))
 (Cb
 (Ca (T:=fun q=>zqs q a h k) (fun hx=>Bak hc hx))
 (Cb
 (Ca (T:=fun q=>zqs q a h k) (fun hx=>Baj hc hx))
 (Ca (T:=fun q=>zqs q a h k) (fun hx=>Bai hc hx)))))
 (Cb
 (Cb
 (Ca (T:=fun q=>zqs q a h k) (fun hx=>Bit hc hx))
 (Cb
 (Ca (T:=fun q=>zqs q a h k) (fun hx=>Bis hc hx))
 (Ca (T:=fun q=>zqs q a h k) (fun hx=>Bah hc hx))))
 (Cb
 (Cb
 (Ca (T:=fun q=>zqs q a h k) (fun hx=>Bag hc hx))
 (Ca (T:=fun q=>zqs q a h k) (fun hx=>Baf hc hx)))
 (Cb
 (Ca (T:=fun q=>zqs q a h k) (fun hx=>Bae hc hx))
 (Ca (T:=fun q=>zqs q a h k) (fun hx=>Bad hc hx))))))))
 (Cb
 (Cb
 (Cb
 (Cb
 (Cb
 (Ca (T:=fun q=>zqs q a h k) (fun hx=>Bac hc hx))
 (Cb
 (Ca (T:=fun q=>zqs q a h k) (fun hx=>Bab hc hx))
 (Ca (T:=fun q=>zqs q a h k) (fun hx=>Baa hc hx))))
 (Cb
 (Ca (T:=fun q=>zqs q a h k) (fun hx=>A99 hc hx))
 (Cb
 (Ca (T:=fun q=>zqs q a h k) (fun hx=>A98 hc hx))
 (Ca (T:=fun q=>zqs q a h k) (fun hx=>A97 hc hx)))))
 (Cb
 (Cb
 (Ca (T:=fun q=>zqs q a h k) (fun hx=>A96 hc hx))
 (Cb
 (Ca (T:=fun q=>zqs q a h k) (fun hx=>A95 hc hx))
 (Ca (T:=fun q=>zqs q a h k) (fun hx=>A94 hc hx))))
 (Cb
 (Ca (T:=fun q=>zqs q a h k) (fun hx=>A9j hx))
 (Cb
 (Ca (T:=fun q=>zqs q a h k) (fun hx=>Bir hc hx))
 (Ca (T:=fun q=>zqs q a h k) (fun hx=>A93 hc hx))))))
 (Cb
 (Cb
 (Cb
 (Ca (T:=fun q=>zqs q a h k) (fun hx=>Biq hc hx))
 (Cb
 (Ca (T:=fun q=>zqs q a h k) (fun hx=>A92 hc hx))
 (Ca (T:=fun q=>zqs q a h k) (fun hx=>A91 hc hx))))
 (Cb
 (Ca (T:=fun q=>zqs q a h k) (fun hx=>A90 hc hx))
 (Cb
 (Ca (T:=fun q=>zqs q a h k) (fun hx=>A9z hc hx))
 (Ca (T:=fun q=>zqs q a h k) (fun hx=>A9i hx)))))
 (Cb
 (Cb
 (Ca (T:=fun q=>zqs q a h k) (fun hx=>Bip hc hx))
 (Cb
 (Ca (T:=fun q=>zqs q a h k) (fun hx=>Bio hc hx))
 (Ca (T:=fun q=>zqs q a h k) (fun hx=>Bin hc hx))))
 (Cb
 (Ca (T:=fun q=>zqs q a h k) (fun hx=>A9y hc hx))
 (Cb
 (Ca (T:=fun q=>zqs q a h k) (fun hx=>A9x hc hx))
 (Ca (T:=fun q=>zqs q a h k) (fun hx=>A9w hc hx)))))))
 (Cb
 (Cb
 (Cb
 (Cb
 (Ca (T:=fun q=>zqs q a h k) (fun hx=>A9v hc hx))
 (Cb
 (Ca (T:=fun q=>zqs q a h k) (fun hx=>Bim hc hx))
 (Ca (T:=fun q=>zqs q a h k) (fun hx=>A9u hc hx))))
 (Cb
 (Ca (T:=fun q=>zqs q a h k) (fun hx=>A9t hc hx))
 (Cb
 (Ca (T:=fun q=>zqs q a h k) (fun hx=>A9s hc hx))
 (Ca (T:=fun q=>zqs q a h k) (fun hx=>A9r hc hx)))))
 (Cb
 (Cb
 (Ca (T:=fun q=>zqs q a h k) (fun hx=>Bil hc hx))
 (Cb
 (Ca (T:=fun q=>zqs q a h k) (fun hx=>Bik hc hx))
 (Ca (T:=fun q=>zqs q a h k) (fun hx=>Big hx))))
 (Cb
 (Ca (T:=fun q=>zqs q a h k) (fun hx=>Bij hc hx))
 (Cb
 (Ca (T:=fun q=>zqs q a h k) (fun hx=>A9h hx))
 (Ca (T:=fun q=>zqs q a h k) (fun hx=>A9q hc hx))))))
 (Cb
 (Cb
 (Cb
 (Ca (T:=fun q=>zqs q a h k) (fun hx=>Bii hc hx))
 (Cb
 (Ca (T:=fun q=>zqs q a h k) (fun hx=>A9p hc hx))
 (Ca (T:=fun q=>zqs q a h k) (fun hx=>Bif hx))))
 (Cb
 (Ca (T:=fun q=>zqs q a h k) (fun hx=>Bie hx))
 (Cb
 (Ca (T:=fun q=>zqs q a h k) (fun hx=>Bid hx))
 (Ca (T:=fun q=>zqs q a h k) (fun hx=>Bic hx)))))
 (Cb
 (Cb
 (Ca (T:=fun q=>zqs q a h k) (fun hx=>Bib hx))
 (Cb
 (Ca (T:=fun q=>zqs q a h k) (fun hx=>Bia hx))
 (Ca (T:=fun q=>zqs q a h k) (fun hx=>Bh9 hx))))
 (Cb
 (Cb
 (Ca (T:=fun q=>zqs q a h k) (fun hx=>Bh8 hx))
 (Ca (T:=fun q=>zqs q a h k) (fun hx=>A9o hc hx)))
 (Cb
 (Ca (T:=fun q=>zqs q a h k) (fun hx=>A9n hc hx))
 (Ca (T:=fun q=>zqs q a h k) (fun hx=>A9g hx))))))))) hg
theorem Kx(m:Nat):∀n,Fc Tryz.prog (CP env) G (fun p=>p) (calls m n)
 |0=>fun _ _ _ _ _ _ _ _ _ _ _ _ hg=>hg.elim
 |n+1=>fun μ h w fn fn' args vargs k s gl hf hv hg=>by
  cases fn with
  |func i=>exact Az0 (Kx m n) (show A8e (calls m n) m i args h k from hg) μ w fn' vargs s gl hf hv
  |yield l=>exact Aq4 mixed Jm (Kx m n) (show Aj0 env (calls m n) (A34 Tryz.prog env G) l args h k from hg) μ w fn' vargs s gl hf hv
  |_=>exact hg.elim
end Go.Den
