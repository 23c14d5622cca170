/-
 Proof.
-/
import Derived.Test.YtcnmehbkpaoolaaGreatDoorRunC
import Derived.Test.YtcnmehbkpaoolaaGreatDoorRunB1
import Derived.Test.YtcnmehbkpaoolaaGreatDoorRunB2
import Derived.Laws.Externs
import Derived.KernelRfl
namespace Go.Den
open Go.Proofs
set_option maxRecDepth 100000
theorem Bi1 {a : List AV} {h : H} {k : KV} (hg : cnd (Nat.beq (len a) 2) (oK (Hq (.Kk .i64) a h) k) False) : zqs 106 a h k :=
 Gp (e := (.Kk .i64)) (n := 2) rfl (fun args w => run_callFunc_extern (e := Rz (.Kk .i64)) Tryz.func106 (by kernel_rfl) (by kernel_rfl) (by kernel_rfl) (by kernel_rfl) args w) hg
theorem A9o {a : List AV} {h : H} {k : KV} (hg : cnd (Nat.beq (len a) 1) (oK (Hq .Im a h) k) False) : zqs 164 a h k :=
 Gp (e := .Im) (n := 1) rfl (fun args w => run_callFunc_extern (e := Rz .Im) Tryz.func164 (by kernel_rfl) (by kernel_rfl) (by kernel_rfl) (by kernel_rfl) args w) hg
theorem A9n {a : List AV} {h : H} {k : KV} (hg : cnd (Nat.beq (len a) 1) (oK (Hq (.Nc .u32) a h) k) False) : zqs 175 a h k :=
 Gp (e := (.Nc .u32)) (n := 1) rfl (fun args w => run_callFunc_extern (e := Rz (.Nc .u32)) Tryz.func175 (by kernel_rfl) (by kernel_rfl) (by kernel_rfl) (by kernel_rfl) args w) hg
theorem Bi0 {a : List AV} {h : H} {k : KV} (hg : cnd (Nat.beq (len a) 2) (oK (Hq (.Kk .u32) a h) k) False) : zqs 229 a h k :=
 Gp (e := (.Kk .u32)) (n := 2) rfl (fun args w => run_callFunc_extern (e := Rz (.Kk .u32)) Tryz.func229 (by kernel_rfl) (by kernel_rfl) (by kernel_rfl) (by kernel_rfl) args w) hg
theorem A9m {a : List AV} {h : H} {k : KV} (hg : cnd (Nat.beq (len a) 2) (oK (Hq .indexByte a h) k) False) : zqs 257 a h k :=
 Gp (e := .indexByte) (n := 2) rfl (fun args w => run_callFunc_extern (e := Rz .indexByte) Tryz.func257 (by kernel_rfl) (by kernel_rfl) (by kernel_rfl) (by kernel_rfl) args w) hg
theorem Biz {a : List AV} {h : H} {k : KV} (hg : cnd (Nat.beq (len a) 0) (k .undef h) False) : zqs 267 a h k :=
 Aii (run_call_mark0 Tryz.func267 (by kernel_rfl) (by kernel_rfl) (by kernel_rfl) .disable (by kernel_rfl)) hg
theorem Biy {a : List AV} {h : H} {k : KV} (hg : cnd (Nat.beq (len a) 3) (oK (Hq (.Xr .i32) a h) k) False) : zqs 268 a h k :=
 Gp (e := (.Xr .i32)) (n := 3) rfl (fun args w => run_callFunc_extern (e := Rz (.Xr .i32)) Tryz.func268 (by kernel_rfl) (by kernel_rfl) (by kernel_rfl) (by kernel_rfl) args w) hg
theorem Bix {a : List AV} {h : H} {k : KV} (hg : cnd (Nat.beq (len a) 0) (k .undef h) False) : zqs 269 a h k :=
 Aii (run_call_mark0 Tryz.func269 (by kernel_rfl) (by kernel_rfl) (by kernel_rfl) .enable (by kernel_rfl)) hg
theorem Biw {a : List AV} {h : H} {k : KV} (hg : asP (Lg a) fun _ _ => cnd (Nat.beq (len a) 1) (k .undef h) False) : zqs 270 a h k :=
 Aih (run_call_marked Tryz.func270 (by kernel_rfl) (by kernel_rfl) (by kernel_rfl) .acquire (by kernel_rfl)) hg
theorem Biv {a : List AV} {h : H} {k : KV} (hg : asP (Lg a) fun _ _ => cnd (Nat.beq (len a) 1) (k .undef h) False) : zqs 272 a h k :=
 Aih (run_call_marked Tryz.func272 (by kernel_rfl) (by kernel_rfl) (by kernel_rfl) .releaseMerge (by kernel_rfl)) hg
theorem Biu {a : List AV} {h : H} {k : KV} (hg : cnd (Nat.beq (len a) 2) (oK (Hq (.Aj3 .i32) a h) k) False) : zqs 273 a h k :=
 Gp (e := (.Aj3 .i32)) (n := 2) rfl (fun args w => run_callFunc_extern (e := Rz (.Aj3 .i32)) Tryz.func273 (by kernel_rfl) (by kernel_rfl) (by kernel_rfl) (by kernel_rfl) args w) hg
theorem Bit {a : List AV} {h : H} {k : KV} (hg : cnd (Nat.beq (len a) 1) (oK (Hq (.Nc .i64) a h) k) False) : zqs 315 a h k :=
 Gp (e := (.Nc .i64)) (n := 1) rfl (fun args w => run_callFunc_extern (e := Rz (.Nc .i64)) Tryz.func315 (by kernel_rfl) (by kernel_rfl) (by kernel_rfl) (by kernel_rfl) args w) hg
theorem Bis {a : List AV} {h : H} {k : KV} (hg : cnd (Nat.beq (len a) 3) (oK (Hq (.Xr .i64) a h) k) False) : zqs 316 a h k :=
 Gp (e := (.Xr .i64)) (n := 3) rfl (fun args w => run_callFunc_extern (e := Rz (.Xr .i64)) Tryz.func316 (by kernel_rfl) (by kernel_rfl) (by kernel_rfl) (by kernel_rfl) args w) hg
theorem A9l {a : List AV} {h : H} {k : KV} (hg : cnd (Nat.beq (len a) 2) (oK (Hq .count a h) k) False) : zqs 378 a h k :=
 Gp (e := .count) (n := 2) rfl (fun args w => run_callFunc_extern (e := Rz .count) Tryz.func378 (by kernel_rfl) (by kernel_rfl) (by kernel_rfl) (by kernel_rfl) args w) hg
theorem Bjd {c : CF} (hc : Fb Tryz.prog (CP env) G (fun p => p) c) {k : KV} {m : Nat} {a : List AV} {h : H} (hg : As9 env c (oc 0).toList (Ik 3 (oc 1).toList) (oc 2).toList (Ik 3 (oc 3).toList) (oc 4).toList (.tmp 10) (.tmp 15) (.tmp 18) (fun a h k => f177 (Akv c k m) 0 (Ac a) h) (fun a h k => f178 (Aku c k m) 0 (Ac a) h) (Ac a) h k) : zqs 123 a h k :=
 Ayy (o0 := oc 0) (o1 := oc 1) (o2 := oc 2) (o3 := oc 3) (o4 := oc 4) (u1 := 177) (u3 := 178) (d1 := Aft (oc 1).toList 3) (d3 := Aft (oc 3).toList 3) (i0 := Aum (Wr d123 (.l .root))) (i1 := Aum (Wr d123 (.l (.r .root)))) (i2 := Aum (Wr d123 (.l (.r (.r .root))))) (i3 := Aum (Wr d123 (.l (.l (.r (.r (.r .root))))))) (i4 := Aum (Wr d123 (.r (.l (.r (.r (.r .root))))))) (a1 := A13 (Aft (oc 1).toList 3)) (a3 := A13 (Aft (oc 3).toList 3)) Ju hc Tryz.func123 (by kernel_rfl) (by kernel_rfl) (by kernel_rfl) (by kernel_rfl) (by kernel_rfl) ⟨by kernel_rfl, by kernel_rfl, by kernel_rfl⟩ ⟨by kernel_rfl, by kernel_rfl, by kernel_rfl⟩
  (by kernel_rfl) (by kernel_rfl) (by kernel_rfl) (by kernel_rfl) (by kernel_rfl) (by kernel_rfl) (by kernel_rfl) (by kernel_rfl) (fun _ _ _ hx => A9r hc hx) (fun _ _ _ hx => A9q hc hx) hg
theorem Az2 {c : CF} (hc : Fb Tryz.prog (CP env) G (fun p => p) c) {m i : Nat} {a : List AV} {h : H} {k : KV} (hg : A8h c m i a h k) : zqs i a h k :=
 (Cb
 (Cb
 (Cb
 (Cb
 (Cb
 (Cb
 (Bz (T := fun q => zqs q a h k) (fun hx => w7 hc hx))
 (Cb
 (Bz (T := fun q => zqs q a h k) (fun hx => w15 hc hx))
 (Bz (T := fun q => zqs q a h k) (fun hx => w16 hc hx))))
 (Cb
 (Bz (T := fun q => zqs q a h k) (fun hx => w20 hc hx))
 (Cb
 (Bz (T := fun q => zqs q a h k) (fun hx => w22 hc hx))
 (Bz (T := fun q => zqs q a h k) (fun hx => w23 hc hx)))))
 (Cb
 (Cb
 (Bz (T := fun q => zqs q a h k) (fun hx => w34 hc hx))
 (Cb
 (Bz (T := fun q => zqs q a h k) (fun hx => w35 hc hx))
 (Bz (T := fun q => zqs q a h k) (fun hx => w36 hc hx))))
 (Cb
 (Bz (T := fun q => zqs q a h k) (fun hx => w43 hc hx))
 (Cb
 (Bz (T := fun q => zqs q a h k) (fun hx => w46 hc hx))
 (Bz (T := fun q => zqs q a h k) (fun hx => w59 hc hx))))))
 (Cb
 (Cb
 (Cb
 (Bz (T := fun q => zqs q a h k) (fun hx => w60 hc hx))
 (Cb
 (Bz (T := fun q => zqs q a h k) (fun hx => w61 hc hx))
 (Bz (T := fun q => zqs q a h k) (fun hx => w62 hc hx))))
 (Cb
 (Bz (T := fun q => zqs q a h k) (fun hx => w63 hc hx))
 (Cb
 (Bz (T := fun q => zqs q a h k) (fun hx => w64 hc hx))
 (Bz (T := fun q => zqs q a h k) (fun hx => w65 hc hx)))))
 (Cb
 (Cb
 (Bz (T := fun q => zqs q a h k) (fun hx => w66 hc hx))
 (Cb
 (Bz (T := fun q => zqs q a h k) (fun hx => w67 hc hx))
 (Bz (T := fun q => zqs q a h k) (fun hx => w74 hc hx))))
 (Cb
 (Cb
 (Bz (T := fun q => zqs q a h k) (fun hx => w75 hc hx))
 (Bz (T := fun q => zqs q a h k) (fun hx => w76 hc hx)))
 (Cb
 (Bz (T := fun q => zqs q a h k) (fun hx => w77 hc hx))
 (Bz (T := fun q => zqs q a h k) (fun hx => w78 hc hx)))))))
 (Cb
 (Cb
 (Cb
 (Cb
 (Bz (T := fun q => zqs q a h k) (fun hx => w79 hc hx))
 (Cb
 (Bz (T := fun q => zqs q a h k) (fun hx => w80 hc hx))
 (Bz (T := fun q => zqs q a h k) (fun hx => w81 hc hx))))
 (Cb
 (Bz (T := fun q => zqs q a h k) (fun hx => Bi1 hx))
 (Cb
 (Bz (T := fun q => zqs q a h k) (fun hx => Ba1 hc hx))
 (Bz (T := fun q => zqs q a h k) (fun hx => Ba0 hc hx)))))
 (Cb
 (Cb
 (Bz (T := fun q => zqs q a h k) (fun hx => Baz hc hx))
 (Cb
 (Bz (T := fun q => zqs q a h k) (fun hx => Bay hc hx))
 (Bz (T := fun q => zqs q a h k) (fun hx => Bax hc hx))))
 (Cb
 (Bz (T := fun q => zqs q a h k) (fun hx => Baw hc hx))
 (Cb
 (Bz (T := fun q => zqs q a h k) (fun hx => Bav hc hx))
 (Bz (T := fun q => zqs q a h k) (fun hx => Bau hc hx))))))
 (Cb
 (Cb
 (Cb
 (Bz (T := fun q => zqs q a h k) (fun hx => Bat hc hx))
 (Cb
 (Bz (T := fun q => zqs q a h k) (fun hx => Bas hc hx))
 (Bz (T := fun q => zqs q a h k) (fun hx => Bar hc hx))))
 (Cb
 (Bz (T := fun q => zqs q a h k) (fun hx => Baq hc hx))
 (Cb
 (Bz (T := fun q => zqs q a h k) (fun hx => Bap hc hx))
 (Bz (T := fun q => zqs q a h k) (fun hx => Bao hc hx)))))
 (Cb
 (Cb
 (Bz (T := fun q => zqs q a h k) (fun hx => Ban hc hx))
 (Cb
 (Bz (T := fun q => zqs q a h k) (fun hx => Bjd hc hx))
 (Bz (T := fun q => zqs q a h k) (fun hx => Bjc hc hx))))
 (Cb
 (Cb
 (Bz (T := fun q => zqs q a h k) (fun hx => Bam hc hx))
 (Bz (T := fun q => zqs q a h k) (fun hx => Bal hc hx)))
 (Cb
 (Bz (T := fun q => zqs q a h k) (fun hx => Bak hc hx))
 (Bz (T := fun q => zqs q a h k) (fun hx => Baj hc hx))))))))
 (Cb
 (Cb
 (Cb
 (Cb
 (Cb
 (Bz (T := fun q => zqs q a h k) (fun hx => Bai hc hx))
 (Cb
 (Bz (T := fun q => zqs q a h k) (fun hx => Bah hc hx))
 (Bz (T := fun q => zqs q a h k) (fun hx => Bag hc hx))))
 (Cb
 (Bz (T := fun q => zqs q a h k) (fun hx => Baf hc hx))
 (Cb
 (Bz (T := fun q => zqs q a h k) (fun hx => Bae hc hx))
 (Bz (T := fun q => zqs q a h k) (fun hx => Bad hc hx)))))
 (Cb
 (Cb
 (Bz (T := fun q => zqs q a h k) (fun hx => Bac hc hx))
 (Cb
 (Bz (T := fun q => zqs q a h k) (fun hx => Bab hc hx))
 (Bz (T := fun q => zqs q a h k) (fun hx => Baa hc hx))))
 (Cb
 (Bz (T := fun q => zqs q a h k) (fun hx => A99 hc hx))
 (Cb
 (Bz (T := fun q => zqs q a h k) (fun hx => A9o hx))
 (Bz (T := fun q => zqs q a h k) (fun hx => Bjb hc hx))))))
 (Cb
 (Cb
 (Cb
 (Bz (T := fun q => zqs q a h k) (fun hx => A98 hc hx))
 (Cb
 (Bz (T := fun q => zqs q a h k) (fun hx => Bja hc hx))
 (Bz (T := fun q => zqs q a h k) (fun hx => A97 hc hx))))
 (Cb
 (Bz (T := fun q => zqs q a h k) (fun hx => A96 hc hx))
 (Cb
 (Bz (T := fun q => zqs q a h k) (fun hx => A95 hc hx))
 (Bz (T := fun q => zqs q a h k) (fun hx => A94 hc hx)))))
 (Cb
 (Cb
 (Bz (T := fun q => zqs q a h k) (fun hx => A9n hx))
 (Cb
 (Bz (T := fun q => zqs q a h k) (fun hx => Bi9 hc hx))
 (Bz (T := fun q => zqs q a h k) (fun hx => Bi8 hc hx))))
 (Cb
 (Cb
 (Bz (T := fun q => zqs q a h k) (fun hx => Bi7 hc hx))
 (Bz (T := fun q => zqs q a h k) (fun hx => A93 hc hx)))
 (Cb
 (Bz (T := fun q => zqs q a h k) (fun hx => A92 hc hx))
 (Bz (T := fun q => zqs q a h k) (fun hx => A91 hc hx)))))))
 (Cb
 (Cb
 (Cb
 (Cb
 (Bz (T := fun q => zqs q a h k) (fun hx => A90 hc hx))
 (Cb
 (Bz (T := fun q => zqs q a h k) (fun hx => Bi6 hc hx))
 (Bz (T := fun q => zqs q a h k) (fun hx => A9z hc hx))))
 (Cb
 (Bz (T := fun q => zqs q a h k) (fun hx => A9y hc hx))
 (Cb
 (Bz (T := fun q => zqs q a h k) (fun hx => A9x hc hx))
 (Bz (T := fun q => zqs q a h k) (fun hx => A9w hc hx)))))
 (Cb
 (Cb
 (Bz (T := fun q => zqs q a h k) (fun hx => Bi5 hc hx))
 (Cb
 (Bz (T := fun q => zqs q a h k) (fun hx => Bi4 hc hx))
 (Bz (T := fun q => zqs q a h k) (fun hx => Bi0 hx))))
 (Cb
 (Bz (T := fun q => zqs q a h k) (fun hx => Bi3 hc hx))
 (Cb
 (Bz (T := fun q => zqs q a h k) (fun hx => A9m hx))
 (Bz (T := fun q => zqs q a h k) (fun hx => A9v hc hx))))))
 (Cb
 (Cb
 (Cb
 (Bz (T := fun q => zqs q a h k) (fun hx => Bi2 hc hx))
 (Cb
 (Bz (T := fun q => zqs q a h k) (fun hx => A9u hc hx))
 (Bz (T := fun q => zqs q a h k) (fun hx => Biz hx))))
 (Cb
 (Bz (T := fun q => zqs q a h k) (fun hx => Biy hx))
 (Cb
 (Bz (T := fun q => zqs q a h k) (fun hx => Bix hx))
 (Bz (T := fun q => zqs q a h k) (fun hx => Biw hx)))))
 (Cb
 (Cb
 (Bz (T := fun q => zqs q a h k) (fun hx => Biv hx))
 (Cb
 (Bz (T := fun q => zqs q a h k) (fun hx => Biu hx))
 (Bz (T := fun q => zqs q a h k) (fun hx => Bit hx))))
 (Cb
 (Cb
 (Bz (T := fun q => zqs q a h k) (fun hx => Bis hx))
 (Bz (T := fun q => zqs q a h k) (fun hx => A9t hc hx)))
 (Cb
 (Bz (T := fun q => zqs q a h k) (fun hx => A9s hc hx))
 (Bz (T := fun q => zqs q a h k) (fun hx => A9l hx))))))))) hg
theorem Ld (m : Nat) : ∀ n, Fb Tryz.prog (CP env) G (fun p => p) (calls m n)
 | 0 => fun _ _ _ _ _ _ _ _ _ _ _ _ hg => hg.elim
 | n + 1 => fun μ h w fn fn' args vargs k s gl hf hv hg => by
  cases fn with
  | func i => exact Az2 (Ld m n) (show A8h (calls m n) m i args h k from hg) μ w fn' vargs s gl hf hv
  | yield l => exact Aq8 mixed Ju (Ld m n) (show Aj8 env (calls m n) (A32 Tryz.prog env G) l args h k from hg) μ w fn' vargs s gl hf hv
  | _ => exact hg.elim
end Go.Den
