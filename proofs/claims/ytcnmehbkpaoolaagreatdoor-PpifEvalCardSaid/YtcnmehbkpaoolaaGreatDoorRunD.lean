/-
 Proof.
-/
import Derived.Test.YtcnmehbkpaoolaaGreatDoorRunC
import Derived.Test.YtcnmehbkpaoolaaGreatDoorRunB1
import Derived.Test.YtcnmehbkpaoolaaGreatDoorRunB2
import Derived.Laws.Externs
import Derived.KernelRfl
namespace Go.Den
open Go.Proofs
set_option maxRecDepth 100000
theorem Bg8{a:List AV}{h:H}{k:KV}(hg:cnd (Nat.beq (len a) 2) (oK (Ir (.Km .i64) a h) k) False):zqs 106 a h k:=
 Gf (e:=(.Km .i64)) (n:=2) rfl (fun args w=>run_callFunc_extern (e:=Sd (.Km .i64)) Tryz.func106 (by kernel_rfl) (by kernel_rfl) (by kernel_rfl) (by kernel_rfl) args w) hg
theorem A8y{a:List AV}{h:H}{k:KV}(hg:cnd (Nat.beq (len a) 1) (oK (Ir .Iw a h) k) False):zqs 164 a h k:=
 Gf (e:=.Iw) (n:=1) rfl (fun args w=>run_callFunc_extern (e:=Sd .Iw) Tryz.func164 (by kernel_rfl) (by kernel_rfl) (by kernel_rfl) (by kernel_rfl) args w) hg
theorem Bg7{a:List AV}{h:H}{k:KV}(hg:cnd (Nat.beq (len a) 1) (oK (Ir (.Pb .u32) a h) k) False):zqs 175 a h k:=
 Gf (e:=(.Pb .u32)) (n:=1) rfl (fun args w=>run_callFunc_extern (e:=Sd (.Pb .u32)) Tryz.func175 (by kernel_rfl) (by kernel_rfl) (by kernel_rfl) (by kernel_rfl) args w) hg
theorem Bg6{a:List AV}{h:H}{k:KV}(hg:cnd (Nat.beq (len a) 2) (oK (Ir (.Km .u32) a h) k) False):zqs 229 a h k:=
 Gf (e:=(.Km .u32)) (n:=2) rfl (fun args w=>run_callFunc_extern (e:=Sd (.Km .u32)) Tryz.func229 (by kernel_rfl) (by kernel_rfl) (by kernel_rfl) (by kernel_rfl) args w) hg
theorem A8x{a:List AV}{h:H}{k:KV}(hg:cnd (Nat.beq (len a) 2) (oK (Ir .indexByte a h) k) False):zqs 257 a h k:=
 Gf (e:=.indexByte) (n:=2) rfl (fun args w=>run_callFunc_extern (e:=Sd .indexByte) Tryz.func257 (by kernel_rfl) (by kernel_rfl) (by kernel_rfl) (by kernel_rfl) args w) hg
theorem Bg5{a:List AV}{h:H}{k:KV}(hg:cnd (Nat.beq (len a) 0) (k .undef h) False):zqs 267 a h k:=
 Ahs (run_call_mark0 Tryz.func267 (by kernel_rfl) (by kernel_rfl) (by kernel_rfl) .disable (by kernel_rfl)) hg
theorem Bg4{a:List AV}{h:H}{k:KV}(hg:cnd (Nat.beq (len a) 3) (oK (Ir (.Xd .i32) a h) k) False):zqs 268 a h k:=
 Gf (e:=(.Xd .i32)) (n:=3) rfl (fun args w=>run_callFunc_extern (e:=Sd (.Xd .i32)) Tryz.func268 (by kernel_rfl) (by kernel_rfl) (by kernel_rfl) (by kernel_rfl) args w) hg
theorem Bg3{a:List AV}{h:H}{k:KV}(hg:cnd (Nat.beq (len a) 0) (k .undef h) False):zqs 269 a h k:=
 Ahs (run_call_mark0 Tryz.func269 (by kernel_rfl) (by kernel_rfl) (by kernel_rfl) .enable (by kernel_rfl)) hg
theorem Bg2{a:List AV}{h:H}{k:KV}(hg:asP (Ln a) fun _ _=>cnd (Nat.beq (len a) 1) (k .undef h) False):zqs 270 a h k:=
 Ahr (run_call_marked Tryz.func270 (by kernel_rfl) (by kernel_rfl) (by kernel_rfl) .acquire (by kernel_rfl)) hg
theorem Bg1{a:List AV}{h:H}{k:KV}(hg:asP (Ln a) fun _ _=>cnd (Nat.beq (len a) 1) (k .undef h) False):zqs 272 a h k:=
 Ahr (run_call_marked Tryz.func272 (by kernel_rfl) (by kernel_rfl) (by kernel_rfl) .releaseMerge (by kernel_rfl)) hg
theorem Bg0{a:List AV}{h:H}{k:KV}(hg:cnd (Nat.beq (len a) 2) (oK (Ir (.Ai4 .i32) a h) k) False):zqs 273 a h k:=
 Gf (e:=(.Ai4 .i32)) (n:=2) rfl (fun args w=>run_callFunc_extern (e:=Sd (.Ai4 .i32)) Tryz.func273 (by kernel_rfl) (by kernel_rfl) (by kernel_rfl) (by kernel_rfl) args w) hg
theorem Bgz{a:List AV}{h:H}{k:KV}(hg:cnd (Nat.beq (len a) 1) (oK (Ir (.Pb .i64) a h) k) False):zqs 315 a h k:=
 Gf (e:=(.Pb .i64)) (n:=1) rfl (fun args w=>run_callFunc_extern (e:=Sd (.Pb .i64)) Tryz.func315 (by kernel_rfl) (by kernel_rfl) (by kernel_rfl) (by kernel_rfl) args w) hg
theorem Bgy{a:List AV}{h:H}{k:KV}(hg:cnd (Nat.beq (len a) 3) (oK (Ir (.Xd .i64) a h) k) False):zqs 316 a h k:=
 Gf (e:=(.Xd .i64)) (n:=3) rfl (fun args w=>run_callFunc_extern (e:=Sd (.Xd .i64)) Tryz.func316 (by kernel_rfl) (by kernel_rfl) (by kernel_rfl) (by kernel_rfl) args w) hg
theorem Bgx{a:List AV}{h:H}{k:KV}(hg:cnd (Nat.beq (len a) 2) (oK (Ir .count a h) k) False):zqs 378 a h k:=
 Gf (e:=.count) (n:=2) rfl (fun args w=>run_callFunc_extern (e:=Sd .count) Tryz.func378 (by kernel_rfl) (by kernel_rfl) (by kernel_rfl) (by kernel_rfl) args w) hg
theorem Axx{c:CF}(hc:Gm Tryz.prog (CP env) G (fun p=>p) c){m i:Nat}{a:List AV}{h:H}{k:KV}(hg:A71 c m i a h k):zqs i a h k:=
 (Bk
 (Bk
 (Bk
 (Bk
 (Bk
 (Bk
 (Bk
 (Bi (T:=fun q=>zqs q a h k) (fun hx=>w25 hc hx))
 (Bi (T:=fun q=>zqs q a h k) (fun hx=>w26 hc hx)))
 (Bk
 (Bi (T:=fun q=>zqs q a h k) (fun hx=>w29 hc hx))
 (Bi (T:=fun q=>zqs q a h k) (fun hx=>w30 hc hx))))
 (Bk
 (Bk
 (Bi (T:=fun q=>zqs q a h k) (fun hx=>w31 hc hx))
 (Bi (T:=fun q=>zqs q a h k) (fun hx=>w32 hc hx)))
 (Bk
 (Bi (T:=fun q=>zqs q a h k) (fun hx=>w46 hc hx))
 (Bi (T:=fun q=>zqs q a h k) (fun hx=>w47 hc hx)))))
 (Bk
 (Bk
 (Bk
 (Bi (T:=fun q=>zqs q a h k) (fun hx=>w48 hc hx))
 (Bi (T:=fun q=>zqs q a h k) (fun hx=>w49 hc hx)))
 (Bk
 (Bi (T:=fun q=>zqs q a h k) (fun hx=>w51 hc hx))
 (Bi (T:=fun q=>zqs q a h k) (fun hx=>w52 hc hx))))
 (Bk
 (Bk
 (Bi (T:=fun q=>zqs q a h k) (fun hx=>w53 hc hx))
 (Bi (T:=fun q=>zqs q a h k) (fun hx=>w54 hc hx)))
 (Bk
 (Bi (T:=fun q=>zqs q a h k) (fun hx=>w55 hc hx))
 (Bk
 (Bi (T:=fun q=>zqs q a h k) (fun hx=>w56 hc hx))
 (Bi (T:=fun q=>zqs q a h k) (fun hx=>w57 hc hx)))))))
 (Bk
 (Bk
 (Bk
 (Bk
 (Bi (T:=fun q=>zqs q a h k) (fun hx=>w58 hc hx))
 (Bi (T:=fun q=>zqs q a h k) (fun hx=>w59 hc hx)))
 (Bk
 (Bi (T:=fun q=>zqs q a h k) (fun hx=>w60 hc hx))
 (Bi (T:=fun q=>zqs q a h k) (fun hx=>w61 hc hx))))
 (Bk
 (Bk
 (Bi (T:=fun q=>zqs q a h k) (fun hx=>w63 hc hx))
 (Bi (T:=fun q=>zqs q a h k) (fun hx=>w64 hc hx)))
 (Bk
 (Bi (T:=fun q=>zqs q a h k) (fun hx=>w66 hc hx))
 (Bk
 (Bi (T:=fun q=>zqs q a h k) (fun hx=>w77 hc hx))
 (Bi (T:=fun q=>zqs q a h k) (fun hx=>w78 hc hx))))))
 (Bk
 (Bk
 (Bk
 (Bi (T:=fun q=>zqs q a h k) (fun hx=>w79 hc hx))
 (Bi (T:=fun q=>zqs q a h k) (fun hx=>w80 hc hx)))
 (Bk
 (Bi (T:=fun q=>zqs q a h k) (fun hx=>w81 hc hx))
 (Bi (T:=fun q=>zqs q a h k) (fun hx=>w82 hc hx))))
 (Bk
 (Bk
 (Bi (T:=fun q=>zqs q a h k) (fun hx=>w83 hc hx))
 (Bi (T:=fun q=>zqs q a h k) (fun hx=>w84 hc hx)))
 (Bk
 (Bi (T:=fun q=>zqs q a h k) (fun hx=>w85 hc hx))
 (Bk
 (Bi (T:=fun q=>zqs q a h k) (fun hx=>w86 hc hx))
 (Bi (T:=fun q=>zqs q a h k) (fun hx=>w87 hc hx))))))))
 (Bk
 (Bk
 (Bk
 (Bk
 (Bk
 (Bi (T:=fun q=>zqs q a h k) (fun hx=>w88 hc hx))
 (Bi (T:=fun q=>zqs q a h k) (fun hx=>w92 hc hx)))
 (Bk
 (Bi (T:=fun q=>zqs q a h k) (fun hx=>w93 hc hx))
 (Bi (T:=fun q=>zqs q a h k) (fun hx=>w95 hc hx))))
 (Bk
 (Bk
 (Bi (T:=fun q=>zqs q a h k) (fun hx=>w96 hc hx))
 (Bi (T:=fun q=>zqs q a h k) (fun hx=>w98 hc hx)))
 (Bk
 (Bi (T:=fun q=>zqs q a h k) (fun hx=>Bis hc hx))
 (Bk
 (Bi (T:=fun q=>zqs q a h k) (fun hx=>Bir hc hx))
 (Bi (T:=fun q=>zqs q a h k) (fun hx=>Biq hc hx))))))
 (Bk
 (Bk
 (Bk
 (Bi (T:=fun q=>zqs q a h k) (fun hx=>Bip hc hx))
 (Bi (T:=fun q=>zqs q a h k) (fun hx=>Bio hc hx)))
 (Bk
 (Bi (T:=fun q=>zqs q a h k) (fun hx=>Bin hc hx))
 (Bi (T:=fun q=>zqs q a h k) (fun hx=>Bg8 hx))))
 (Bk
 (Bk
 (Bi (T:=fun q=>zqs q a h k) (fun hx=>A93 hc hx))
 (Bi (T:=fun q=>zqs q a h k) (fun hx=>A92 hc hx)))
 (Bk
 (Bi (T:=fun q=>zqs q a h k) (fun hx=>A91 hc hx))
 (Bk
 (Bi (T:=fun q=>zqs q a h k) (fun hx=>A90 hc hx))
 (Bi (T:=fun q=>zqs q a h k) (fun hx=>A9z hc hx)))))))
 (Bk
 (Bk
 (Bk
 (Bk
 (Bi (T:=fun q=>zqs q a h k) (fun hx=>A9y hc hx))
 (Bi (T:=fun q=>zqs q a h k) (fun hx=>A9x hc hx)))
 (Bk
 (Bi (T:=fun q=>zqs q a h k) (fun hx=>A9w hc hx))
 (Bi (T:=fun q=>zqs q a h k) (fun hx=>A9v hc hx))))
 (Bk
 (Bk
 (Bi (T:=fun q=>zqs q a h k) (fun hx=>A9u hc hx))
 (Bi (T:=fun q=>zqs q a h k) (fun hx=>Bim hc hx)))
 (Bk
 (Bi (T:=fun q=>zqs q a h k) (fun hx=>Bik hc hx))
 (Bk
 (Bi (T:=fun q=>zqs q a h k) (fun hx=>Bij hc hx))
 (Bi (T:=fun q=>zqs q a h k) (fun hx=>Bii hc hx))))))
 (Bk
 (Bk
 (Bk
 (Bi (T:=fun q=>zqs q a h k) (fun hx=>Bih hc hx))
 (Bi (T:=fun q=>zqs q a h k) (fun hx=>Big hc hx)))
 (Bk
 (Bi (T:=fun q=>zqs q a h k) (fun hx=>Bif hc hx))
 (Bi (T:=fun q=>zqs q a h k) (fun hx=>Bie hc hx))))
 (Bk
 (Bk
 (Bi (T:=fun q=>zqs q a h k) (fun hx=>Bid hc hx))
 (Bi (T:=fun q=>zqs q a h k) (fun hx=>A9t hc hx)))
 (Bk
 (Bi (T:=fun q=>zqs q a h k) (fun hx=>Bic hc hx))
 (Bk
 (Bi (T:=fun q=>zqs q a h k) (fun hx=>Bib hc hx))
 (Bi (T:=fun q=>zqs q a h k) (fun hx=>A9s hc hx)))))))))
 (Bk
 (Bk
 (Bk
 (Bk
 (Bk
 (Bk
 (Bi (T:=fun q=>zqs q a h k) (fun hx=>A9r hc hx))
 (Bi (T:=fun q=>zqs q a h k) (fun hx=>Bia hc hx)))
 (Bk
 (Bi (T:=fun q=>zqs q a h k) (fun hx=>A9q hc hx))
 (Bi (T:=fun q=>zqs q a h k) (fun hx=>Bh7 hc hx))))
 (Bk
 (Bk
 (Bi (T:=fun q=>zqs q a h k) (fun hx=>Bh6 hc hx))
 (Bi (T:=fun q=>zqs q a h k) (fun hx=>Bh5 hc hx)))
 (Bk
 (Bi (T:=fun q=>zqs q a h k) (fun hx=>Bh4 hc hx))
 (Bi (T:=fun q=>zqs q a h k) (fun hx=>Bh3 hc hx)))))
 (Bk
 (Bk
 (Bk
 (Bi (T:=fun q=>zqs q a h k) (fun hx=>Bh2 hc hx))
 (Bi (T:=fun q=>zqs q a h k) (fun hx=>Bh1 hc hx)))
 (Bk
 (Bi (T:=fun q=>zqs q a h k) (fun hx=>Bh0 hc hx))
 (Bi (T:=fun q=>zqs q a h k) (fun hx=>A9o hc hx))))
 (Bk
 (Bk
 (Bi (T:=fun q=>zqs q a h k) (fun hx=>A9n hc hx))
 (Bi (T:=fun q=>zqs q a h k) (fun hx=>A9m hc hx)))
 (Bk
 (Bi (T:=fun q=>zqs q a h k) (fun hx=>A9l hc hx))
 (Bk
 (Bi (T:=fun q=>zqs q a h k) (fun hx=>A8y hx))
 (Bi (T:=fun q=>zqs q a h k) (fun hx=>Bhz hc hx)))))))
 (Bk
 (Bk
 (Bk
 (Bk
 (Bi (T:=fun q=>zqs q a h k) (fun hx=>A9k hc hx))
 (Bi (T:=fun q=>zqs q a h k) (fun hx=>A9j hc hx)))
 (Bk
 (Bi (T:=fun q=>zqs q a h k) (fun hx=>A9i hc hx))
 (Bi (T:=fun q=>zqs q a h k) (fun hx=>A9h hc hx))))
 (Bk
 (Bk
 (Bi (T:=fun q=>zqs q a h k) (fun hx=>Bg7 hx))
 (Bi (T:=fun q=>zqs q a h k) (fun hx=>Bhy hc hx)))
 (Bk
 (Bi (T:=fun q=>zqs q a h k) (fun hx=>Bhx hc hx))
 (Bk
 (Bi (T:=fun q=>zqs q a h k) (fun hx=>A9g hc hx))
 (Bi (T:=fun q=>zqs q a h k) (fun hx=>A9f hc hx))))))
 (Bk
 (Bk
 (Bk
 (Bi (T:=fun q=>zqs q a h k) (fun hx=>A9e hc hx))
 (Bi (T:=fun q=>zqs q a h k) (fun hx=>A9d hc hx)))
 (Bk
 (Bi (T:=fun q=>zqs q a h k) (fun hx=>A9c hc hx))
 (Bi (T:=fun q=>zqs q a h k) (fun hx=>Bhv hc hx))))
 (Bk
 (Bk
 (Bi (T:=fun q=>zqs q a h k) (fun hx=>Bhu hc hx))
 (Bi (T:=fun q=>zqs q a h k) (fun hx=>Bht hc hx)))
 (Bk
 (Bi (T:=fun q=>zqs q a h k) (fun hx=>Bhs hc hx))
 (Bk
 (Bi (T:=fun q=>zqs q a h k) (fun hx=>Bhr hc hx))
 (Bi (T:=fun q=>zqs q a h k) (fun hx=>Bhq hc hx))))))))
 (Bk
 (Bk
 (Bk
 (Bk
 (Bk
 (Bi (T:=fun q=>zqs q a h k) (fun hx=>Bhp hc hx))
 (Bi (T:=fun q=>zqs q a h k) (fun hx=>Bho hc hx)))
 (Bk
 (Bi (T:=fun q=>zqs q a h k) (fun hx=>A9b hc hx))
 (Bi (T:=fun q=>zqs q a h k) (fun hx=>A9a hc hx))))
 (Bk
 (Bk
 (Bi (T:=fun q=>zqs q a h k) (fun hx=>A89 hc hx))
 (Bi (T:=fun q=>zqs q a h k) (fun hx=>A88 hc hx)))
 (Bk
 (Bi (T:=fun q=>zqs q a h k) (fun hx=>A87 hc hx))
 (Bk
 (Bi (T:=fun q=>zqs q a h k) (fun hx=>A86 hc hx))
 (Bi (T:=fun q=>zqs q a h k) (fun hx=>Bg6 hx))))))
 (Bk
 (Bk
 (Bk
 (Bi (T:=fun q=>zqs q a h k) (fun hx=>A85 hc hx))
 (Bi (T:=fun q=>zqs q a h k) (fun hx=>Bhn hc hx)))
 (Bk
 (Bi (T:=fun q=>zqs q a h k) (fun hx=>Bhm hc hx))
 (Bi (T:=fun q=>zqs q a h k) (fun hx=>Bhl hc hx))))
 (Bk
 (Bk
 (Bi (T:=fun q=>zqs q a h k) (fun hx=>Bhk hc hx))
 (Bi (T:=fun q=>zqs q a h k) (fun hx=>Bhj hc hx)))
 (Bk
 (Bi (T:=fun q=>zqs q a h k) (fun hx=>Bhi hc hx))
 (Bk
 (Bi (T:=fun q=>zqs q a h k) (fun hx=>Bhh hc hx))
 (Bi (T:=fun q=>zqs q a h k) (fun hx=>A8x hx)))))))
 (Bk
 (Bk
 (Bk
 (Bk
 (Bi (T:=fun q=>zqs q a h k) (fun hx=>A84 hc hx))
 (Bi (T:=fun q=>zqs q a h k) (fun hx=>A83 hc hx)))
 (Bk
 (Bi (T:=fun q=>zqs q a h k) (fun hx=>Bg5 hx))
 (Bi (T:=fun q=>zqs q a h k) (fun hx=>Bg4 hx))))
 (Bk
 (Bk
 (Bi (T:=fun q=>zqs q a h k) (fun hx=>Bg3 hx))
 (Bi (T:=fun q=>zqs q a h k) (fun hx=>Bg2 hx)))
 (Bk
 (Bi (T:=fun q=>zqs q a h k) (fun hx=>Bg1 hx))
 (Bk
 (Bi (T:=fun q=>zqs q a h k) (fun hx=>Bg0 hx))
 (Bi (T:=fun q=>zqs q a h k) (fun hx=>Bhg hc hx))))))
 (Bk
 (Bk
 (Bk
 (Bi (T:=fun q=>zqs q a h k) (fun hx=>Bhf hc hx))
 (Bi (T:=fun q=>zqs q a h k) (fun hx=>Bhe hc hx)))
 (Bk
 (Bi (T:=fun q=>zqs q a h k) (fun hx=>Bhd hc hx))
 (Bi (T:=fun q=>zqs q a h k) (fun hx=>Bhc hc hx))))
 (Bk
 (Bk
 (Bi (T:=fun q=>zqs q a h k) (fun hx=>Bhb hc hx))
 (Bi (T:=fun q=>zqs q a h k) (fun hx=>Bha hc hx)))
 (Bk
 (Bi (T:=fun q=>zqs q a h k) (fun hx=>Bgz hx))
 (Bk
 (Bi (T:=fun q=>zqs q a h k) (fun hx=>Bgy hx))
 (Bi (T:=fun q=>zqs q a h k) (fun hx=>Bgx hx)))))))))) hg
theorem Ve(m:Nat):∀n,Gm Tryz.prog (CP env) G (fun p=>p) (calls m n)
 |0=>fun _ _ _ _ _ _ _ _ _ _ _ _ hg=>hg.elim
 |n+1=>fun μ h w fn fn' args vargs k s gl hf hv hg=>by
  cases fn with
  |func i=>exact Axx (Ve m n) (show A71 (calls m n) m i args h k from hg) μ w fn' vargs s gl hf hv
  |yield l=>exact Ap6 mixed Bn (Ve m n) (show Ai9 env (calls m n) (A4c Tryz.prog env G) l args h k from hg) μ w fn' vargs s gl hf hv
  |_=>exact hg.elim
end Go.Den
