/-
 Part of the proof.
-/
import Derived.Test.YtcnmehbkpaoolaaGreatDoorRunC
import Derived.Test.YtcnmehbkpaoolaaGreatDoorRunB1
import Derived.Test.YtcnmehbkpaoolaaGreatDoorRunB2
import Derived.Laws.Externs
import Derived.KernelRfl
namespace Go.Den
open Go.Proofs
set_option maxRecDepth 100000
theorem Bi3 {a : List AV} {h : H} {k : KV} (hg : cnd (Nat.beq (len a) 2) (oK (Ho (.Kj .i64) a h) k) False) : zqs 106 a h k :=
 Gl (e := (.Kj .i64)) (n := 2) rfl (fun args w => run_callFunc_extern (e := Rz (.Kj .i64)) Tryz.func106 (by kernel_rfl) (by kernel_rfl) (by kernel_rfl) (by kernel_rfl) args w) hg
theorem A9x {a : List AV} {h : H} {k : KV} (hg : cnd (Nat.beq (len a) 1) (oK (Ho .Il a h) k) False) : zqs 164 a h k :=
 Gl (e := .Il) (n := 1) rfl (fun args w => run_callFunc_extern (e := Rz .Il) Tryz.func164 (by kernel_rfl) (by kernel_rfl) (by kernel_rfl) (by kernel_rfl) args w) hg
theorem A9w {a : List AV} {h : H} {k : KV} (hg : cnd (Nat.beq (len a) 1) (oK (Ho (.Mz .u32) a h) k) False) : zqs 175 a h k :=
 Gl (e := (.Mz .u32)) (n := 1) rfl (fun args w => run_callFunc_extern (e := Rz (.Mz .u32)) Tryz.func175 (by kernel_rfl) (by kernel_rfl) (by kernel_rfl) (by kernel_rfl) args w) hg
theorem Bi2 {a : List AV} {h : H} {k : KV} (hg : cnd (Nat.beq (len a) 2) (oK (Ho (.Kj .u32) a h) k) False) : zqs 229 a h k :=
 Gl (e := (.Kj .u32)) (n := 2) rfl (fun args w => run_callFunc_extern (e := Rz (.Kj .u32)) Tryz.func229 (by kernel_rfl) (by kernel_rfl) (by kernel_rfl) (by kernel_rfl) args w) hg
theorem A9v {a : List AV} {h : H} {k : KV} (hg : cnd (Nat.beq (len a) 2) (oK (Ho .indexByte a h) k) False) : zqs 257 a h k :=
 Gl (e := .indexByte) (n := 2) rfl (fun args w => run_callFunc_extern (e := Rz .indexByte) Tryz.func257 (by kernel_rfl) (by kernel_rfl) (by kernel_rfl) (by kernel_rfl) args w) hg
theorem Bi1 {a : List AV} {h : H} {k : KV} (hg : cnd (Nat.beq (len a) 0) (k .undef h) False) : zqs 267 a h k :=
 Ail (run_call_mark0 Tryz.func267 (by kernel_rfl) (by kernel_rfl) (by kernel_rfl) .disable (by kernel_rfl)) hg
theorem Bi0 {a : List AV} {h : H} {k : KV} (hg : cnd (Nat.beq (len a) 3) (oK (Ho (.Xu .i32) a h) k) False) : zqs 268 a h k :=
 Gl (e := (.Xu .i32)) (n := 3) rfl (fun args w => run_callFunc_extern (e := Rz (.Xu .i32)) Tryz.func268 (by kernel_rfl) (by kernel_rfl) (by kernel_rfl) (by kernel_rfl) args w) hg
theorem Biz {a : List AV} {h : H} {k : KV} (hg : cnd (Nat.beq (len a) 0) (k .undef h) False) : zqs 269 a h k :=
 Ail (run_call_mark0 Tryz.func269 (by kernel_rfl) (by kernel_rfl) (by kernel_rfl) .enable (by kernel_rfl)) hg
theorem Biy {a : List AV} {h : H} {k : KV} (hg : asP (Lh a) fun _ _ => cnd (Nat.beq (len a) 1) (k .undef h) False) : zqs 270 a h k :=
 Aik (run_call_marked Tryz.func270 (by kernel_rfl) (by kernel_rfl) (by kernel_rfl) .acquire (by kernel_rfl)) hg
theorem Bix {a : List AV} {h : H} {k : KV} (hg : asP (Lh a) fun _ _ => cnd (Nat.beq (len a) 1) (k .undef h) False) : zqs 272 a h k :=
 Aik (run_call_marked Tryz.func272 (by kernel_rfl) (by kernel_rfl) (by kernel_rfl) .releaseMerge (by kernel_rfl)) hg
theorem Biw {a : List AV} {h : H} {k : KV} (hg : cnd (Nat.beq (len a) 2) (oK (Ho (.Aj4 .i32) a h) k) False) : zqs 273 a h k :=
 Gl (e := (.Aj4 .i32)) (n := 2) rfl (fun args w => run_callFunc_extern (e := Rz (.Aj4 .i32)) Tryz.func273 (by kernel_rfl) (by kernel_rfl) (by kernel_rfl) (by kernel_rfl) args w) hg
theorem Biv {a : List AV} {h : H} {k : KV} (hg : cnd (Nat.beq (len a) 1) (oK (Ho (.Mz .i64) a h) k) False) : zqs 315 a h k :=
 Gl (e := (.Mz .i64)) (n := 1) rfl (fun args w => run_callFunc_extern (e := Rz (.Mz .i64)) Tryz.func315 (by kernel_rfl) (by kernel_rfl) (by kernel_rfl) (by kernel_rfl) args w) hg
theorem Biu {a : List AV} {h : H} {k : KV} (hg : cnd (Nat.beq (len a) 3) (oK (Ho (.Xu .i64) a h) k) False) : zqs 316 a h k :=
 Gl (e := (.Xu .i64)) (n := 3) rfl (fun args w => run_callFunc_extern (e := Rz (.Xu .i64)) Tryz.func316 (by kernel_rfl) (by kernel_rfl) (by kernel_rfl) (by kernel_rfl) args w) hg
theorem A9u {a : List AV} {h : H} {k : KV} (hg : cnd (Nat.beq (len a) 2) (oK (Ho .count a h) k) False) : zqs 378 a h k :=
 Gl (e := .count) (n := 2) rfl (fun args w => run_callFunc_extern (e := Rz .count) Tryz.func378 (by kernel_rfl) (by kernel_rfl) (by kernel_rfl) (by kernel_rfl) args w) hg
theorem Bjf {c : CF} (hc : Fb Tryz.prog (CP env) G (fun p => p) c) {k : KV} {m : Nat} {a : List AV} {h : H} (hg : Atf env c (oc 0).toList (Ij 3 (oc 1).toList) (oc 2).toList (Ij 3 (oc 3).toList) (oc 4).toList (.tmp 10) (.tmp 15) (.tmp 18) (fun a h k => f177 (Akv c k m) 0 (Ac a) h) (fun a h k => f178 (Aku c k m) 0 (Ac a) h) (Ac a) h k) : zqs 123 a h k :=
 Ay8 (o0 := oc 0) (o1 := oc 1) (o2 := oc 2) (o3 := oc 3) (o4 := oc 4) (u1 := 177) (u3 := 178) (d1 := Afw (oc 1).toList 3) (d3 := Afw (oc 3).toList 3) (i0 := Auq (Wr d123 (.l .root))) (i1 := Auq (Wr d123 (.l (.r .root)))) (i2 := Auq (Wr d123 (.l (.r (.r .root))))) (i3 := Auq (Wr d123 (.l (.l (.r (.r (.r .root))))))) (i4 := Auq (Wr d123 (.r (.l (.r (.r (.r .root))))))) (a1 := A19 (Afw (oc 1).toList 3)) (a3 := A19 (Afw (oc 3).toList 3)) Js hc Tryz.func123 (by kernel_rfl) (by kernel_rfl) (by kernel_rfl) (by kernel_rfl) (by kernel_rfl) ⟨by kernel_rfl, by kernel_rfl, by kernel_rfl⟩ ⟨by kernel_rfl, by kernel_rfl, by kernel_rfl⟩
  (by kernel_rfl) (by kernel_rfl) (by kernel_rfl) (by kernel_rfl) (by kernel_rfl) (by kernel_rfl) (by kernel_rfl) (by kernel_rfl) (fun _ _ _ hx => A90 hc hx) (fun _ _ _ hx => A9z hc hx) hg
theorem A0c {c : CF} (hc : Fb Tryz.prog (CP env) G (fun p => p) c) {m i : Nat} {a : List AV} {h : H} {k : KV} (hg : A8n c m i a h k) : zqs i a h k :=
 (Cc
 (Cc
 (Cc
 (Cc
 (Cc
 (Cc
 (Bz (T := fun q => zqs q a h k) (fun hx => w5 hc hx))
 (Cc
 (Bz (T := fun q => zqs q a h k) (fun hx => w15 hc hx))
 (Bz (T := fun q => zqs q a h k) (fun hx => w16 hc hx))))
 (Cc
 (Bz (T := fun q => zqs q a h k) (fun hx => w20 hc hx))
 (Cc
 (Bz (T := fun q => zqs q a h k) (fun hx => w22 hc hx))
 (Bz (T := fun q => zqs q a h k) (fun hx => w23 hc hx)))))
 (Cc
 (Cc
 (Bz (T := fun q => zqs q a h k) (fun hx => w34 hc hx))
 (Cc
 (Bz (T := fun q => zqs q a h k) (fun hx => w35 hc hx))
 (Bz (T := fun q => zqs q a h k) (fun hx => w36 hc hx))))
 (Cc
 (Bz (T := fun q => zqs q a h k) (fun hx => w43 hc hx))
 (Cc
 (Bz (T := fun q => zqs q a h k) (fun hx => w46 hc hx))
 (Bz (T := fun q => zqs q a h k) (fun hx => w59 hc hx))))))
 (Cc
 (Cc
 (Cc
 (Bz (T := fun q => zqs q a h k) (fun hx => w60 hc hx))
 (Cc
 (Bz (T := fun q => zqs q a h k) (fun hx => w61 hc hx))
 (Bz (T := fun q => zqs q a h k) (fun hx => w62 hc hx))))
 (Cc
 (Bz (T := fun q => zqs q a h k) (fun hx => w63 hc hx))
 (Cc
 (Bz (T := fun q => zqs q a h k) (fun hx => w64 hc hx))
 (Bz (T := fun q => zqs q a h k) (fun hx => w65 hc hx)))))
 (Cc
 (Cc
 (Bz (T := fun q => zqs q a h k) (fun hx => w66 hc hx))
 (Cc
 (Bz (T := fun q => zqs q a h k) (fun hx => w67 hc hx))
 (Bz (T := fun q => zqs q a h k) (fun hx => w74 hc hx))))
 (Cc
 (Cc
 (Bz (T := fun q => zqs q a h k) (fun hx => w75 hc hx))
 (Bz (T := fun q => zqs q a h k) (fun hx => w76 hc hx)))
 (Cc
 (Bz (T := fun q => zqs q a h k) (fun hx => w77 hc hx))
 (Bz (T := fun q => zqs q a h k) (fun hx => w78 hc hx)))))))
 (Cc
 (Cc
 (Cc
 (Cc
 (Bz (T := fun q => zqs q a h k) (fun hx => w79 hc hx))
 (Cc
 (Bz (T := fun q => zqs q a h k) (fun hx => w80 hc hx))
 (Bz (T := fun q => zqs q a h k) (fun hx => w81 hc hx))))
 (Cc
 (Bz (T := fun q => zqs q a h k) (fun hx => Bi3 hx))
 (Cc
 (Bz (T := fun q => zqs q a h k) (fun hx => Bba hc hx))
 (Bz (T := fun q => zqs q a h k) (fun hx => Ba9 hc hx)))))
 (Cc
 (Cc
 (Bz (T := fun q => zqs q a h k) (fun hx => Ba8 hc hx))
 (Cc
 (Bz (T := fun q => zqs q a h k) (fun hx => Ba7 hc hx))
 (Bz (T := fun q => zqs q a h k) (fun hx => Ba6 hc hx))))
 (Cc
 (Bz (T := fun q => zqs q a h k) (fun hx => Ba5 hc hx))
 (Cc
 (Bz (T := fun q => zqs q a h k) (fun hx => Ba4 hc hx))
 (Bz (T := fun q => zqs q a h k) (fun hx => Ba3 hc hx))))))
 (Cc
 (Cc
 (Cc
 (Bz (T := fun q => zqs q a h k) (fun hx => Ba2 hc hx))
 (Cc
 (Bz (T := fun q => zqs q a h k) (fun hx => Ba1 hc hx))
 (Bz (T := fun q => zqs q a h k) (fun hx => Ba0 hc hx))))
 (Cc
 (Bz (T := fun q => zqs q a h k) (fun hx => Baz hc hx))
 (Cc
 (Bz (T := fun q => zqs q a h k) (fun hx => Bay hc hx))
 (Bz (T := fun q => zqs q a h k) (fun hx => Bax hc hx)))))
 (Cc
 (Cc
 (Bz (T := fun q => zqs q a h k) (fun hx => Baw hc hx))
 (Cc
 (Bz (T := fun q => zqs q a h k) (fun hx => Bjf hc hx))
 (Bz (T := fun q => zqs q a h k) (fun hx => Bje hc hx))))
 (Cc
 (Cc
 (Bz (T := fun q => zqs q a h k) (fun hx => Bav hc hx))
 (Bz (T := fun q => zqs q a h k) (fun hx => Bau hc hx)))
 (Cc
 (Bz (T := fun q => zqs q a h k) (fun hx => Bat hc hx))
 (Bz (T := fun q => zqs q a h k) (fun hx => Bas hc hx))))))))
 (Cc
 (Cc
 (Cc
 (Cc
 (Cc
 (Bz (T := fun q => zqs q a h k) (fun hx => Bar hc hx))
 (Cc
 (Bz (T := fun q => zqs q a h k) (fun hx => Baq hc hx))
 (Bz (T := fun q => zqs q a h k) (fun hx => Bap hc hx))))
 (Cc
 (Bz (T := fun q => zqs q a h k) (fun hx => Bao hc hx))
 (Cc
 (Bz (T := fun q => zqs q a h k) (fun hx => Ban hc hx))
 (Bz (T := fun q => zqs q a h k) (fun hx => Bam hc hx)))))
 (Cc
 (Cc
 (Bz (T := fun q => zqs q a h k) (fun hx => Bal hc hx))
 (Cc
 (Bz (T := fun q => zqs q a h k) (fun hx => Bak hc hx))
 (Bz (T := fun q => zqs q a h k) (fun hx => Baj hc hx))))
 (Cc
 (Bz (T := fun q => zqs q a h k) (fun hx => Bai hc hx))
 (Cc
 (Bz (T := fun q => zqs q a h k) (fun hx => A9x hx))
 (Bz (T := fun q => zqs q a h k) (fun hx => Bjd hc hx))))))
 (Cc
 (Cc
 (Cc
 (Bz (T := fun q => zqs q a h k) (fun hx => Bah hc hx))
 (Cc
 (Bz (T := fun q => zqs q a h k) (fun hx => Bjc hc hx))
 (Bz (T := fun q => zqs q a h k) (fun hx => Bag hc hx))))
 (Cc
 (Bz (T := fun q => zqs q a h k) (fun hx => Baf hc hx))
 (Cc
 (Bz (T := fun q => zqs q a h k) (fun hx => Bae hc hx))
 (Bz (T := fun q => zqs q a h k) (fun hx => Bad hc hx)))))
 (Cc
 (Cc
 (Bz (T := fun q => zqs q a h k) (fun hx => A9w hx))
 (Cc
 (Bz (T := fun q => zqs q a h k) (fun hx => Bjb hc hx))
 (Bz (T := fun q => zqs q a h k) (fun hx => Bja hc hx))))
 (Cc
 (Cc
 (Bz (T := fun q => zqs q a h k) (fun hx => Bi9 hc hx))
 (Bz (T := fun q => zqs q a h k) (fun hx => Bac hc hx)))
 (Cc
 (Bz (T := fun q => zqs q a h k) (fun hx => Bab hc hx))
 (Bz (T := fun q => zqs q a h k) (fun hx => Baa hc hx)))))))
 (Cc
 (Cc
 (Cc
 (Cc
 (Bz (T := fun q => zqs q a h k) (fun hx => A99 hc hx))
 (Cc
 (Bz (T := fun q => zqs q a h k) (fun hx => Bi8 hc hx))
 (Bz (T := fun q => zqs q a h k) (fun hx => A98 hc hx))))
 (Cc
 (Bz (T := fun q => zqs q a h k) (fun hx => A97 hc hx))
 (Cc
 (Bz (T := fun q => zqs q a h k) (fun hx => A96 hc hx))
 (Bz (T := fun q => zqs q a h k) (fun hx => A95 hc hx)))))
 (Cc
 (Cc
 (Bz (T := fun q => zqs q a h k) (fun hx => Bi7 hc hx))
 (Cc
 (Bz (T := fun q => zqs q a h k) (fun hx => Bi6 hc hx))
 (Bz (T := fun q => zqs q a h k) (fun hx => Bi2 hx))))
 (Cc
 (Bz (T := fun q => zqs q a h k) (fun hx => Bi5 hc hx))
 (Cc
 (Bz (T := fun q => zqs q a h k) (fun hx => A9v hx))
 (Bz (T := fun q => zqs q a h k) (fun hx => A94 hc hx))))))
 (Cc
 (Cc
 (Cc
 (Bz (T := fun q => zqs q a h k) (fun hx => Bi4 hc hx))
 (Cc
 (Bz (T := fun q => zqs q a h k) (fun hx => A93 hc hx))
 (Bz (T := fun q => zqs q a h k) (fun hx => Bi1 hx))))
 (Cc
 (Bz (T := fun q => zqs q a h k) (fun hx => Bi0 hx))
 (Cc
 (Bz (T := fun q => zqs q a h k) (fun hx => Biz hx))
 (Bz (T := fun q => zqs q a h k) (fun hx => Biy hx)))))
 (Cc
 (Cc
 (Bz (T := fun q => zqs q a h k) (fun hx => Bix hx))
 (Cc
 (Bz (T := fun q => zqs q a h k) (fun hx => Biw hx))
 (Bz (T := fun q => zqs q a h k) (fun hx => Biv hx))))
 (Cc
 (Cc
 (Bz (T := fun q => zqs q a h k) (fun hx => Biu hx))
 (Bz (T := fun q => zqs q a h k) (fun hx => A92 hc hx)))
 (Cc
 (Bz (T := fun q => zqs q a h k) (fun hx => A91 hc hx))
 (Bz (T := fun q => zqs q a h k) (fun hx => A9u hx))))))))) hg
theorem Le (m : Nat) : ∀ n, Fb Tryz.prog (CP env) G (fun p => p) (calls m n)
 | 0 => fun _ _ _ _ _ _ _ _ _ _ _ _ hg => hg.elim
 | n + 1 => fun μ h w fn fn' args vargs k s gl hf hv hg => by
  cases fn with
  | func i => exact A0c (Le m n) (show A8n (calls m n) m i args h k from hg) μ w fn' vargs s gl hf hv
  | yield l => exact Ard mixed Js (Le m n) (show Aj9 env (calls m n) (A37 Tryz.prog env G) l args h k from hg) μ w fn' vargs s gl hf hv
  | _ => exact hg.elim
end Go.Den
