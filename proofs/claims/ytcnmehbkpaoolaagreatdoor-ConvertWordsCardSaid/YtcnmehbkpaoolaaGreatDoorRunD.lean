/-
  A part of the proof: the table of calls is the program's.
-/
import Derived.Test.YtcnmehbkpaoolaaGreatDoorRunC
import Derived.Test.YtcnmehbkpaoolaaGreatDoorRunB1
import Derived.Test.YtcnmehbkpaoolaaGreatDoorRunB2
import Derived.Laws.Externs
import Derived.KernelRfl
namespace Go.Den
open Go.Proofs
set_option maxRecDepth 100000
theorem Bib {a : List AV} {h : H} {k : KV} (hg : cnd (Nat.beq (len a) 2) (oK (He (.Jx .i64) a h) k) False) : zqs 106 a h k :=
  Gh (e := (.Jx .i64)) (n := 2) rfl (fun args w => run_callFunc_extern (e := Ro (.Jx .i64)) Tryz.func106 (by kernel_rfl) (by kernel_rfl) (by kernel_rfl) (by kernel_rfl) args w) hg
theorem A84 {a : List AV} {h : H} {k : KV} (hg : cnd (Nat.beq (len a) 1) (oK (He .Ic a h) k) False) : zqs 164 a h k :=
  Gh (e := .Ic) (n := 1) rfl (fun args w => run_callFunc_extern (e := Ro .Ic) Tryz.func164 (by kernel_rfl) (by kernel_rfl) (by kernel_rfl) (by kernel_rfl) args w) hg
theorem A83 {a : List AV} {h : H} {k : KV} (hg : cnd (Nat.beq (len a) 1) (oK (He (.Mp .u32) a h) k) False) : zqs 175 a h k :=
  Gh (e := (.Mp .u32)) (n := 1) rfl (fun args w => run_callFunc_extern (e := Ro (.Mp .u32)) Tryz.func175 (by kernel_rfl) (by kernel_rfl) (by kernel_rfl) (by kernel_rfl) args w) hg
theorem Bia {a : List AV} {h : H} {k : KV} (hg : cnd (Nat.beq (len a) 2) (oK (He (.Jx .u32) a h) k) False) : zqs 229 a h k :=
  Gh (e := (.Jx .u32)) (n := 2) rfl (fun args w => run_callFunc_extern (e := Ro (.Jx .u32)) Tryz.func229 (by kernel_rfl) (by kernel_rfl) (by kernel_rfl) (by kernel_rfl) args w) hg
theorem A82 {a : List AV} {h : H} {k : KV} (hg : cnd (Nat.beq (len a) 2) (oK (He .indexByte a h) k) False) : zqs 257 a h k :=
  Gh (e := .indexByte) (n := 2) rfl (fun args w => run_callFunc_extern (e := Ro .indexByte) Tryz.func257 (by kernel_rfl) (by kernel_rfl) (by kernel_rfl) (by kernel_rfl) args w) hg
theorem Bh9 {a : List AV} {h : H} {k : KV} (hg : cnd (Nat.beq (len a) 0) (k .undef h) False) : zqs 267 a h k :=
  Ah9 (run_call_mark0 Tryz.func267 (by kernel_rfl) (by kernel_rfl) (by kernel_rfl) .disable (by kernel_rfl)) hg
theorem Bh8 {a : List AV} {h : H} {k : KV} (hg : cnd (Nat.beq (len a) 3) (oK (He (.Xm .i32) a h) k) False) : zqs 268 a h k :=
  Gh (e := (.Xm .i32)) (n := 3) rfl (fun args w => run_callFunc_extern (e := Ro (.Xm .i32)) Tryz.func268 (by kernel_rfl) (by kernel_rfl) (by kernel_rfl) (by kernel_rfl) args w) hg
theorem Bh7 {a : List AV} {h : H} {k : KV} (hg : cnd (Nat.beq (len a) 0) (k .undef h) False) : zqs 269 a h k :=
  Ah9 (run_call_mark0 Tryz.func269 (by kernel_rfl) (by kernel_rfl) (by kernel_rfl) .enable (by kernel_rfl)) hg
theorem Bh6 {a : List AV} {h : H} {k : KV} (hg : asP (Lc a) fun _ _ => cnd (Nat.beq (len a) 1) (k .undef h) False) : zqs 270 a h k :=
  Ah8 (run_call_marked Tryz.func270 (by kernel_rfl) (by kernel_rfl) (by kernel_rfl) .acquire (by kernel_rfl)) hg
theorem Bh5 {a : List AV} {h : H} {k : KV} (hg : asP (Lc a) fun _ _ => cnd (Nat.beq (len a) 1) (k .undef h) False) : zqs 272 a h k :=
  Ah8 (run_call_marked Tryz.func272 (by kernel_rfl) (by kernel_rfl) (by kernel_rfl) .releaseMerge (by kernel_rfl)) hg
theorem Bh4 {a : List AV} {h : H} {k : KV} (hg : cnd (Nat.beq (len a) 2) (oK (He (.Aju .i32) a h) k) False) : zqs 273 a h k :=
  Gh (e := (.Aju .i32)) (n := 2) rfl (fun args w => run_callFunc_extern (e := Ro (.Aju .i32)) Tryz.func273 (by kernel_rfl) (by kernel_rfl) (by kernel_rfl) (by kernel_rfl) args w) hg
theorem Bh3 {a : List AV} {h : H} {k : KV} (hg : cnd (Nat.beq (len a) 1) (oK (He (.Mp .i64) a h) k) False) : zqs 315 a h k :=
  Gh (e := (.Mp .i64)) (n := 1) rfl (fun args w => run_callFunc_extern (e := Ro (.Mp .i64)) Tryz.func315 (by kernel_rfl) (by kernel_rfl) (by kernel_rfl) (by kernel_rfl) args w) hg
theorem Bh2 {a : List AV} {h : H} {k : KV} (hg : cnd (Nat.beq (len a) 3) (oK (He (.Xm .i64) a h) k) False) : zqs 316 a h k :=
  Gh (e := (.Xm .i64)) (n := 3) rfl (fun args w => run_callFunc_extern (e := Ro (.Xm .i64)) Tryz.func316 (by kernel_rfl) (by kernel_rfl) (by kernel_rfl) (by kernel_rfl) args w) hg
theorem A81 {a : List AV} {h : H} {k : KV} (hg : cnd (Nat.beq (len a) 2) (oK (He .count a h) k) False) : zqs 378 a h k :=
  Gh (e := .count) (n := 2) rfl (fun args w => run_callFunc_extern (e := Ro .count) Tryz.func378 (by kernel_rfl) (by kernel_rfl) (by kernel_rfl) (by kernel_rfl) args w) hg
theorem Bil {c : CF} (hc : Fc Tryz.prog (CP env) G (fun p => p) c) {k : KV} {m : Nat} {a : List AV} {h : H} (hg : As1 env c (oc 0).toList (Ib 3 (oc 1).toList) (oc 2).toList (Ib 3 (oc 3).toList) (oc 4).toList (.tmp 10) (.tmp 15) (.tmp 18) (fun a h k => f177 (Bi2 c k m) 0 (Ac a) h) (fun a h k => f178 (Bi1 c k m) 0 (Ac a) h) (Ac a) h k) : zqs 123 a h k :=
  Ayk (o0 := oc 0) (o1 := oc 1) (o2 := oc 2) (o3 := oc 3) (o4 := oc 4) (u1 := 177) (u3 := 178) (d1 := Afj (oc 1).toList 3) (d3 := Afj (oc 3).toList 3) (i0 := Aud (Ta d123 (.l .root))) (i1 := Aud (Ta d123 (.l (.r .root)))) (i2 := Aud (Ta d123 (.l (.r (.r .root))))) (i3 := Aud (Ta d123 (.l (.l (.r (.r (.r .root))))))) (i4 := Aud (Ta d123 (.r (.l (.r (.r (.r .root))))))) (a1 := A1m (Afj (oc 1).toList 3)) (a3 := A1m (Afj (oc 3).toList 3)) Jy hc Tryz.func123 (by kernel_rfl) (by kernel_rfl) (by kernel_rfl) (by kernel_rfl) (by kernel_rfl) ⟨by kernel_rfl, by kernel_rfl, by kernel_rfl⟩ ⟨by kernel_rfl, by kernel_rfl, by kernel_rfl⟩
    (by kernel_rfl) (by kernel_rfl) (by kernel_rfl) (by kernel_rfl) (by kernel_rfl) (by kernel_rfl) (by kernel_rfl) (by kernel_rfl) (fun _ _ _ hx => Bme hc hx) (fun _ _ _ hx => Bmd hc hx) hg
theorem Azs {c : CF} (hc : Fc Tryz.prog (CP env) G (fun p => p) c) {m i : Nat} {a : List AV} {h : H} {k : KV} (hg : A7v c m i a h k) : zqs i a h k :=
  (Bz
  (Bz
  (Bz
  (Bz
  (Bz
  (Bz
  (Bx (T := fun q => zqs q a h k) (fun hx => w6 hc hx))
  (Bz
  (Bx (T := fun q => zqs q a h k) (fun hx => w15 hc hx))
  (Bx (T := fun q => zqs q a h k) (fun hx => w16 hc hx))))
  (Bz
  (Bx (T := fun q => zqs q a h k) (fun hx => w20 hc hx))
  (Bz
  (Bx (T := fun q => zqs q a h k) (fun hx => w22 hc hx))
  (Bx (T := fun q => zqs q a h k) (fun hx => w23 hc hx)))))
  (Bz
  (Bz
  (Bx (T := fun q => zqs q a h k) (fun hx => w34 hc hx))
  (Bz
  (Bx (T := fun q => zqs q a h k) (fun hx => w35 hc hx))
  (Bx (T := fun q => zqs q a h k) (fun hx => w36 hc hx))))
  (Bz
  (Bx (T := fun q => zqs q a h k) (fun hx => w43 hc hx))
  (Bz
  (Bx (T := fun q => zqs q a h k) (fun hx => w46 hc hx))
  (Bx (T := fun q => zqs q a h k) (fun hx => w59 hc hx))))))
  (Bz
  (Bz
  (Bz
  (Bx (T := fun q => zqs q a h k) (fun hx => w60 hc hx))
  (Bz
  (Bx (T := fun q => zqs q a h k) (fun hx => w61 hc hx))
  (Bx (T := fun q => zqs q a h k) (fun hx => w62 hc hx))))
  (Bz
  (Bx (T := fun q => zqs q a h k) (fun hx => w63 hc hx))
  (Bz
  (Bx (T := fun q => zqs q a h k) (fun hx => w64 hc hx))
  (Bx (T := fun q => zqs q a h k) (fun hx => w65 hc hx)))))
  (Bz
  (Bz
  (Bx (T := fun q => zqs q a h k) (fun hx => w66 hc hx))
  (Bz
  (Bx (T := fun q => zqs q a h k) (fun hx => w67 hc hx))
  (Bx (T := fun q => zqs q a h k) (fun hx => w74 hc hx))))
  (Bz
  (Bz
  (Bx (T := fun q => zqs q a h k) (fun hx => w75 hc hx))
  (Bx (T := fun q => zqs q a h k) (fun hx => w76 hc hx)))
  (Bz
  (Bx (T := fun q => zqs q a h k) (fun hx => w77 hc hx))
  (Bx (T := fun q => zqs q a h k) (fun hx => w78 hc hx)))))))
  (Bz
  (Bz
  (Bz
  (Bz
  (Bx (T := fun q => zqs q a h k) (fun hx => w79 hc hx))
  (Bz
  (Bx (T := fun q => zqs q a h k) (fun hx => w80 hc hx))
  (Bx (T := fun q => zqs q a h k) (fun hx => w81 hc hx))))
  (Bz
  (Bx (T := fun q => zqs q a h k) (fun hx => Bib hx))
  (Bz
  (Bx (T := fun q => zqs q a h k) (fun hx => Baf hc hx))
  (Bx (T := fun q => zqs q a h k) (fun hx => Bae hc hx)))))
  (Bz
  (Bz
  (Bx (T := fun q => zqs q a h k) (fun hx => Bad hc hx))
  (Bz
  (Bx (T := fun q => zqs q a h k) (fun hx => Bac hc hx))
  (Bx (T := fun q => zqs q a h k) (fun hx => Bab hc hx))))
  (Bz
  (Bx (T := fun q => zqs q a h k) (fun hx => Baa hc hx))
  (Bz
  (Bx (T := fun q => zqs q a h k) (fun hx => A99 hc hx))
  (Bx (T := fun q => zqs q a h k) (fun hx => A98 hc hx))))))
  (Bz
  (Bz
  (Bz
  (Bx (T := fun q => zqs q a h k) (fun hx => A97 hc hx))
  (Bz
  (Bx (T := fun q => zqs q a h k) (fun hx => A96 hc hx))
  (Bx (T := fun q => zqs q a h k) (fun hx => A95 hc hx))))
  (Bz
  (Bx (T := fun q => zqs q a h k) (fun hx => A94 hc hx))
  (Bz
  (Bx (T := fun q => zqs q a h k) (fun hx => A93 hc hx))
  (Bx (T := fun q => zqs q a h k) (fun hx => A92 hc hx)))))
  (Bz
  (Bz
  (Bx (T := fun q => zqs q a h k) (fun hx => A91 hc hx))
  (Bz
  (Bx (T := fun q => zqs q a h k) (fun hx => Bil hc hx))
  (Bx (T := fun q => zqs q a h k) (fun hx => Bik hc hx))))
  (Bz
  (Bz
  (Bx (T := fun q => zqs q a h k) (fun hx => A90 hc hx))
  (Bx (T := fun q => zqs q a h k) (fun hx => A9z hc hx)))
  (Bz
  (Bx (T := fun q => zqs q a h k) (fun hx => A9y hc hx))
  (Bx (T := fun q => zqs q a h k) (fun hx => A9x hc hx))))))))
  (Bz
  (Bz
  (Bz
  (Bz
  (Bz
  (Bx (T := fun q => zqs q a h k) (fun hx => A9w hc hx))
  (Bz
  (Bx (T := fun q => zqs q a h k) (fun hx => A9v hc hx))
  (Bx (T := fun q => zqs q a h k) (fun hx => A9u hc hx))))
  (Bz
  (Bx (T := fun q => zqs q a h k) (fun hx => A9t hc hx))
  (Bz
  (Bx (T := fun q => zqs q a h k) (fun hx => A9s hc hx))
  (Bx (T := fun q => zqs q a h k) (fun hx => A9r hc hx)))))
  (Bz
  (Bz
  (Bx (T := fun q => zqs q a h k) (fun hx => A9q hc hx))
  (Bz
  (Bx (T := fun q => zqs q a h k) (fun hx => A9p hc hx))
  (Bx (T := fun q => zqs q a h k) (fun hx => A9o hc hx))))
  (Bz
  (Bx (T := fun q => zqs q a h k) (fun hx => A9n hc hx))
  (Bz
  (Bx (T := fun q => zqs q a h k) (fun hx => A84 hx))
  (Bx (T := fun q => zqs q a h k) (fun hx => Bij hc hx))))))
  (Bz
  (Bz
  (Bz
  (Bx (T := fun q => zqs q a h k) (fun hx => A9m hc hx))
  (Bz
  (Bx (T := fun q => zqs q a h k) (fun hx => Bii hc hx))
  (Bx (T := fun q => zqs q a h k) (fun hx => A9l hc hx))))
  (Bz
  (Bx (T := fun q => zqs q a h k) (fun hx => A9k hc hx))
  (Bz
  (Bx (T := fun q => zqs q a h k) (fun hx => A9j hc hx))
  (Bx (T := fun q => zqs q a h k) (fun hx => A9i hc hx)))))
  (Bz
  (Bz
  (Bx (T := fun q => zqs q a h k) (fun hx => A83 hx))
  (Bz
  (Bx (T := fun q => zqs q a h k) (fun hx => Bih hc hx))
  (Bx (T := fun q => zqs q a h k) (fun hx => w177 hc hx))))
  (Bz
  (Bz
  (Bx (T := fun q => zqs q a h k) (fun hx => w178 hc hx))
  (Bx (T := fun q => zqs q a h k) (fun hx => A9h hc hx)))
  (Bz
  (Bx (T := fun q => zqs q a h k) (fun hx => A9g hc hx))
  (Bx (T := fun q => zqs q a h k) (fun hx => A9f hc hx)))))))
  (Bz
  (Bz
  (Bz
  (Bz
  (Bx (T := fun q => zqs q a h k) (fun hx => A9e hc hx))
  (Bz
  (Bx (T := fun q => zqs q a h k) (fun hx => Big hc hx))
  (Bx (T := fun q => zqs q a h k) (fun hx => A9d hc hx))))
  (Bz
  (Bx (T := fun q => zqs q a h k) (fun hx => A9c hc hx))
  (Bz
  (Bx (T := fun q => zqs q a h k) (fun hx => A9b hc hx))
  (Bx (T := fun q => zqs q a h k) (fun hx => A9a hc hx)))))
  (Bz
  (Bz
  (Bx (T := fun q => zqs q a h k) (fun hx => Bif hc hx))
  (Bz
  (Bx (T := fun q => zqs q a h k) (fun hx => Bie hc hx))
  (Bx (T := fun q => zqs q a h k) (fun hx => Bia hx))))
  (Bz
  (Bx (T := fun q => zqs q a h k) (fun hx => Bid hc hx))
  (Bz
  (Bx (T := fun q => zqs q a h k) (fun hx => A82 hx))
  (Bx (T := fun q => zqs q a h k) (fun hx => A89 hc hx))))))
  (Bz
  (Bz
  (Bz
  (Bx (T := fun q => zqs q a h k) (fun hx => Bic hc hx))
  (Bz
  (Bx (T := fun q => zqs q a h k) (fun hx => A88 hc hx))
  (Bx (T := fun q => zqs q a h k) (fun hx => Bh9 hx))))
  (Bz
  (Bx (T := fun q => zqs q a h k) (fun hx => Bh8 hx))
  (Bz
  (Bx (T := fun q => zqs q a h k) (fun hx => Bh7 hx))
  (Bx (T := fun q => zqs q a h k) (fun hx => Bh6 hx)))))
  (Bz
  (Bz
  (Bx (T := fun q => zqs q a h k) (fun hx => Bh5 hx))
  (Bz
  (Bx (T := fun q => zqs q a h k) (fun hx => Bh4 hx))
  (Bx (T := fun q => zqs q a h k) (fun hx => Bh3 hx))))
  (Bz
  (Bz
  (Bx (T := fun q => zqs q a h k) (fun hx => Bh2 hx))
  (Bx (T := fun q => zqs q a h k) (fun hx => A87 hc hx)))
  (Bz
  (Bx (T := fun q => zqs q a h k) (fun hx => A86 hc hx))
  (Bx (T := fun q => zqs q a h k) (fun hx => A81 hx))))))))) hg
theorem Jk (m : Nat) : ∀ n, Fc Tryz.prog (CP env) G (fun p => p) (calls m n)
  | 0 => fun _ _ _ _ _ _ _ _ _ _ _ _ hg => hg.elim
  | n + 1 => fun μ h w fn fn' args vargs k s gl hf hv hg => by
    cases fn with
    | func i => exact Azs (Jk m n) (show A7v (calls m n) m i args h k from hg) μ w fn' vargs s gl hf hv
    | yield l => exact Aq0 mixed Jy (Jk m n) (show Ajy env (calls m n) (A3f Tryz.prog env G) l args h k from hg) μ w fn' vargs s gl hf hv
    | _ => exact hg.elim
end Go.Den
