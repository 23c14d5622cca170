/-
  A part of the proof: the table of calls is the program's.
-/
import Derived.Test.YtcnmehbkpaoolaaGreatDoorRunC
import Derived.Test.YtcnmehbkpaoolaaGreatDoorRunB1
import Derived.Test.YtcnmehbkpaoolaaGreatDoorRunB2
import Derived.Laws.Externs
import Derived.KernelRfl
namespace Go.Den
open Go.Proofs
set_option maxRecDepth 100000
theorem Bei {a : List AV} {h : H} {k : KV} (hg : cnd (Nat.beq (len a) 2) (oK (Im (.Jz .i64) a h) k) False) : zqs 106 a h k :=
  Fw (e := (.Jz .i64)) (n := 2) rfl (fun args w => run_callFunc_extern (e := Rh (.Jz .i64)) Tryz.func106 (by kernel_rfl) (by kernel_rfl) (by kernel_rfl) (by kernel_rfl) args w) hg
theorem Beh {a : List AV} {h : H} {k : KV} (hg : cnd (Nat.beq (len a) 1) (oK (Im .Jd a h) k) False) : zqs 164 a h k :=
  Fw (e := .Jd) (n := 1) rfl (fun args w => run_callFunc_extern (e := Rh .Jd) Tryz.func164 (by kernel_rfl) (by kernel_rfl) (by kernel_rfl) (by kernel_rfl) args w) hg
theorem Beg {a : List AV} {h : H} {k : KV} (hg : cnd (Nat.beq (len a) 1) (oK (Im (.Ok .u32) a h) k) False) : zqs 175 a h k :=
  Fw (e := (.Ok .u32)) (n := 1) rfl (fun args w => run_callFunc_extern (e := Rh (.Ok .u32)) Tryz.func175 (by kernel_rfl) (by kernel_rfl) (by kernel_rfl) (by kernel_rfl) args w) hg
theorem Bef {a : List AV} {h : H} {k : KV} (hg : cnd (Nat.beq (len a) 2) (oK (Im (.Jz .u32) a h) k) False) : zqs 229 a h k :=
  Fw (e := (.Jz .u32)) (n := 2) rfl (fun args w => run_callFunc_extern (e := Rh (.Jz .u32)) Tryz.func229 (by kernel_rfl) (by kernel_rfl) (by kernel_rfl) (by kernel_rfl) args w) hg
theorem Bee {a : List AV} {h : H} {k : KV} (hg : cnd (Nat.beq (len a) 2) (oK (Im .indexByte a h) k) False) : zqs 257 a h k :=
  Fw (e := .indexByte) (n := 2) rfl (fun args w => run_callFunc_extern (e := Rh .indexByte) Tryz.func257 (by kernel_rfl) (by kernel_rfl) (by kernel_rfl) (by kernel_rfl) args w) hg
theorem Bed {a : List AV} {h : H} {k : KV} (hg : cnd (Nat.beq (len a) 0) (k .undef h) False) : zqs 267 a h k :=
  Agt (run_call_mark0 Tryz.func267 (by kernel_rfl) (by kernel_rfl) (by kernel_rfl) .disable (by kernel_rfl)) hg
theorem Bec {a : List AV} {h : H} {k : KV} (hg : cnd (Nat.beq (len a) 3) (oK (Im (.Wg .i32) a h) k) False) : zqs 268 a h k :=
  Fw (e := (.Wg .i32)) (n := 3) rfl (fun args w => run_callFunc_extern (e := Rh (.Wg .i32)) Tryz.func268 (by kernel_rfl) (by kernel_rfl) (by kernel_rfl) (by kernel_rfl) args w) hg
theorem Beb {a : List AV} {h : H} {k : KV} (hg : cnd (Nat.beq (len a) 0) (k .undef h) False) : zqs 269 a h k :=
  Agt (run_call_mark0 Tryz.func269 (by kernel_rfl) (by kernel_rfl) (by kernel_rfl) .enable (by kernel_rfl)) hg
theorem Bea {a : List AV} {h : H} {k : KV} (hg : asP (Kz a) fun _ _ => cnd (Nat.beq (len a) 1) (k .undef h) False) : zqs 270 a h k :=
  Ags (run_call_marked Tryz.func270 (by kernel_rfl) (by kernel_rfl) (by kernel_rfl) .acquire (by kernel_rfl)) hg
theorem Bd9 {a : List AV} {h : H} {k : KV} (hg : asP (Kz a) fun _ _ => cnd (Nat.beq (len a) 1) (k .undef h) False) : zqs 272 a h k :=
  Ags (run_call_marked Tryz.func272 (by kernel_rfl) (by kernel_rfl) (by kernel_rfl) .releaseMerge (by kernel_rfl)) hg
theorem Bd8 {a : List AV} {h : H} {k : KV} (hg : cnd (Nat.beq (len a) 2) (oK (Im (.Ah9 .i32) a h) k) False) : zqs 273 a h k :=
  Fw (e := (.Ah9 .i32)) (n := 2) rfl (fun args w => run_callFunc_extern (e := Rh (.Ah9 .i32)) Tryz.func273 (by kernel_rfl) (by kernel_rfl) (by kernel_rfl) (by kernel_rfl) args w) hg
theorem Bd7 {a : List AV} {h : H} {k : KV} (hg : cnd (Nat.beq (len a) 1) (oK (Im (.Ok .i64) a h) k) False) : zqs 315 a h k :=
  Fw (e := (.Ok .i64)) (n := 1) rfl (fun args w => run_callFunc_extern (e := Rh (.Ok .i64)) Tryz.func315 (by kernel_rfl) (by kernel_rfl) (by kernel_rfl) (by kernel_rfl) args w) hg
theorem Bd6 {a : List AV} {h : H} {k : KV} (hg : cnd (Nat.beq (len a) 3) (oK (Im (.Wg .i64) a h) k) False) : zqs 316 a h k :=
  Fw (e := (.Wg .i64)) (n := 3) rfl (fun args w => run_callFunc_extern (e := Rh (.Wg .i64)) Tryz.func316 (by kernel_rfl) (by kernel_rfl) (by kernel_rfl) (by kernel_rfl) args w) hg
theorem Bd5 {a : List AV} {h : H} {k : KV} (hg : cnd (Nat.beq (len a) 2) (oK (Im .count a h) k) False) : zqs 378 a h k :=
  Fw (e := .count) (n := 2) rfl (fun args w => run_callFunc_extern (e := Rh .count) Tryz.func378 (by kernel_rfl) (by kernel_rfl) (by kernel_rfl) (by kernel_rfl) args w) hg
theorem Awu {c : CF} (hc : Gb Tryz.prog (CP env) G (fun p => p) c) {m i : Nat} {a : List AV} {h : H} {k : KV} (hg : A53 c m i a h k) : zqs i a h k :=
  (Bd
  (Bd
  (Bd
  (Bd
  (Bd
  (Bd
  (Bd
  (Bc (T := fun q => zqs q a h k) (fun hx => w23 hc hx))
  (Bc (T := fun q => zqs q a h k) (fun hx => w25 hc hx)))
  (Bd
  (Bc (T := fun q => zqs q a h k) (fun hx => w26 hc hx))
  (Bc (T := fun q => zqs q a h k) (fun hx => w28 hc hx))))
  (Bd
  (Bd
  (Bc (T := fun q => zqs q a h k) (fun hx => w29 hc hx))
  (Bc (T := fun q => zqs q a h k) (fun hx => w30 hc hx)))
  (Bd
  (Bc (T := fun q => zqs q a h k) (fun hx => w31 hc hx))
  (Bc (T := fun q => zqs q a h k) (fun hx => w32 hc hx)))))
  (Bd
  (Bd
  (Bd
  (Bc (T := fun q => zqs q a h k) (fun hx => w46 hc hx))
  (Bc (T := fun q => zqs q a h k) (fun hx => w47 hc hx)))
  (Bd
  (Bc (T := fun q => zqs q a h k) (fun hx => w48 hc hx))
  (Bc (T := fun q => zqs q a h k) (fun hx => w49 hc hx))))
  (Bd
  (Bd
  (Bc (T := fun q => zqs q a h k) (fun hx => w51 hc hx))
  (Bc (T := fun q => zqs q a h k) (fun hx => w52 hc hx)))
  (Bd
  (Bc (T := fun q => zqs q a h k) (fun hx => w53 hc hx))
  (Bc (T := fun q => zqs q a h k) (fun hx => w54 hc hx))))))
  (Bd
  (Bd
  (Bd
  (Bd
  (Bc (T := fun q => zqs q a h k) (fun hx => w55 hc hx))
  (Bc (T := fun q => zqs q a h k) (fun hx => w56 hc hx)))
  (Bd
  (Bc (T := fun q => zqs q a h k) (fun hx => w57 hc hx))
  (Bc (T := fun q => zqs q a h k) (fun hx => w58 hc hx))))
  (Bd
  (Bd
  (Bc (T := fun q => zqs q a h k) (fun hx => w64 hc hx))
  (Bc (T := fun q => zqs q a h k) (fun hx => w77 hc hx)))
  (Bd
  (Bc (T := fun q => zqs q a h k) (fun hx => w78 hc hx))
  (Bc (T := fun q => zqs q a h k) (fun hx => w79 hc hx)))))
  (Bd
  (Bd
  (Bd
  (Bc (T := fun q => zqs q a h k) (fun hx => w80 hc hx))
  (Bc (T := fun q => zqs q a h k) (fun hx => w81 hc hx)))
  (Bd
  (Bc (T := fun q => zqs q a h k) (fun hx => w82 hc hx))
  (Bc (T := fun q => zqs q a h k) (fun hx => w83 hc hx))))
  (Bd
  (Bd
  (Bc (T := fun q => zqs q a h k) (fun hx => w84 hc hx))
  (Bc (T := fun q => zqs q a h k) (fun hx => w85 hc hx)))
  (Bd
  (Bc (T := fun q => zqs q a h k) (fun hx => w86 hc hx))
  (Bc (T := fun q => zqs q a h k) (fun hx => w87 hc hx)))))))
  (Bd
  (Bd
  (Bd
  (Bd
  (Bd
  (Bc (T := fun q => zqs q a h k) (fun hx => w88 hc hx))
  (Bc (T := fun q => zqs q a h k) (fun hx => w92 hc hx)))
  (Bd
  (Bc (T := fun q => zqs q a h k) (fun hx => w93 hc hx))
  (Bc (T := fun q => zqs q a h k) (fun hx => w95 hc hx))))
  (Bd
  (Bd
  (Bc (T := fun q => zqs q a h k) (fun hx => w96 hc hx))
  (Bc (T := fun q => zqs q a h k) (fun hx => w98 hc hx)))
  (Bd
  (Bc (T := fun q => zqs q a h k) (fun hx => Bfp hc hx))
  (Bc (T := fun q => zqs q a h k) (fun hx => Bfo hc hx)))))
  (Bd
  (Bd
  (Bd
  (Bc (T := fun q => zqs q a h k) (fun hx => Bfn hc hx))
  (Bc (T := fun q => zqs q a h k) (fun hx => Bfm hc hx)))
  (Bd
  (Bc (T := fun q => zqs q a h k) (fun hx => Bfl hc hx))
  (Bc (T := fun q => zqs q a h k) (fun hx => Bfk hc hx))))
  (Bd
  (Bd
  (Bc (T := fun q => zqs q a h k) (fun hx => Bei hx))
  (Bc (T := fun q => zqs q a h k) (fun hx => A76 hc hx)))
  (Bd
  (Bc (T := fun q => zqs q a h k) (fun hx => A75 hc hx))
  (Bc (T := fun q => zqs q a h k) (fun hx => A74 hc hx))))))
  (Bd
  (Bd
  (Bd
  (Bd
  (Bc (T := fun q => zqs q a h k) (fun hx => A73 hc hx))
  (Bc (T := fun q => zqs q a h k) (fun hx => A72 hc hx)))
  (Bd
  (Bc (T := fun q => zqs q a h k) (fun hx => A71 hc hx))
  (Bc (T := fun q => zqs q a h k) (fun hx => Bfj hc hx))))
  (Bd
  (Bd
  (Bc (T := fun q => zqs q a h k) (fun hx => A70 hc hx))
  (Bc (T := fun q => zqs q a h k) (fun hx => A7z hc hx)))
  (Bd
  (Bc (T := fun q => zqs q a h k) (fun hx => A7y hc hx))
  (Bc (T := fun q => zqs q a h k) (fun hx => A7x hc hx)))))
  (Bd
  (Bd
  (Bd
  (Bc (T := fun q => zqs q a h k) (fun hx => A7w hc hx))
  (Bc (T := fun q => zqs q a h k) (fun hx => A7v hc hx)))
  (Bd
  (Bc (T := fun q => zqs q a h k) (fun hx => A7u hc hx))
  (Bc (T := fun q => zqs q a h k) (fun hx => A7t hc hx))))
  (Bd
  (Bd
  (Bc (T := fun q => zqs q a h k) (fun hx => A7s hc hx))
  (Bc (T := fun q => zqs q a h k) (fun hx => A7r hc hx)))
  (Bd
  (Bc (T := fun q => zqs q a h k) (fun hx => Bfi hc hx))
  (Bd
  (Bc (T := fun q => zqs q a h k) (fun hx => Bfh hc hx))
  (Bc (T := fun q => zqs q a h k) (fun hx => A7q hc hx)))))))))
  (Bd
  (Bd
  (Bd
  (Bd
  (Bd
  (Bd
  (Bc (T := fun q => zqs q a h k) (fun hx => A7p hc hx))
  (Bc (T := fun q => zqs q a h k) (fun hx => Bfg hc hx)))
  (Bd
  (Bc (T := fun q => zqs q a h k) (fun hx => A7o hc hx))
  (Bc (T := fun q => zqs q a h k) (fun hx => Bff hc hx))))
  (Bd
  (Bd
  (Bc (T := fun q => zqs q a h k) (fun hx => Bfe hc hx))
  (Bc (T := fun q => zqs q a h k) (fun hx => Bfd hc hx)))
  (Bd
  (Bc (T := fun q => zqs q a h k) (fun hx => Bfc hc hx))
  (Bc (T := fun q => zqs q a h k) (fun hx => Bfb hc hx)))))
  (Bd
  (Bd
  (Bd
  (Bc (T := fun q => zqs q a h k) (fun hx => Bfa hc hx))
  (Bc (T := fun q => zqs q a h k) (fun hx => Be9 hc hx)))
  (Bd
  (Bc (T := fun q => zqs q a h k) (fun hx => Be8 hc hx))
  (Bc (T := fun q => zqs q a h k) (fun hx => Beh hx))))
  (Bd
  (Bd
  (Bc (T := fun q => zqs q a h k) (fun hx => Be7 hc hx))
  (Bc (T := fun q => zqs q a h k) (fun hx => A7n hc hx)))
  (Bd
  (Bc (T := fun q => zqs q a h k) (fun hx => A7m hc hx))
  (Bc (T := fun q => zqs q a h k) (fun hx => A7l hc hx))))))
  (Bd
  (Bd
  (Bd
  (Bd
  (Bc (T := fun q => zqs q a h k) (fun hx => A7k hc hx))
  (Bc (T := fun q => zqs q a h k) (fun hx => Beg hx)))
  (Bd
  (Bc (T := fun q => zqs q a h k) (fun hx => A7j hc hx))
  (Bc (T := fun q => zqs q a h k) (fun hx => A7i hc hx))))
  (Bd
  (Bd
  (Bc (T := fun q => zqs q a h k) (fun hx => Be6 hc hx))
  (Bc (T := fun q => zqs q a h k) (fun hx => A7h hc hx)))
  (Bd
  (Bc (T := fun q => zqs q a h k) (fun hx => A7g hc hx))
  (Bc (T := fun q => zqs q a h k) (fun hx => A7f hc hx)))))
  (Bd
  (Bd
  (Bd
  (Bc (T := fun q => zqs q a h k) (fun hx => A7e hc hx))
  (Bc (T := fun q => zqs q a h k) (fun hx => A7d hc hx)))
  (Bd
  (Bc (T := fun q => zqs q a h k) (fun hx => Be5 hc hx))
  (Bc (T := fun q => zqs q a h k) (fun hx => Be4 hc hx))))
  (Bd
  (Bd
  (Bc (T := fun q => zqs q a h k) (fun hx => Be3 hc hx))
  (Bc (T := fun q => zqs q a h k) (fun hx => Be2 hc hx)))
  (Bd
  (Bc (T := fun q => zqs q a h k) (fun hx => Be1 hc hx))
  (Bc (T := fun q => zqs q a h k) (fun hx => Be0 hc hx)))))))
  (Bd
  (Bd
  (Bd
  (Bd
  (Bd
  (Bc (T := fun q => zqs q a h k) (fun hx => Bez hc hx))
  (Bc (T := fun q => zqs q a h k) (fun hx => Bey hc hx)))
  (Bd
  (Bc (T := fun q => zqs q a h k) (fun hx => A7c hc hx))
  (Bc (T := fun q => zqs q a h k) (fun hx => A7b hc hx))))
  (Bd
  (Bd
  (Bc (T := fun q => zqs q a h k) (fun hx => A7a hc hx))
  (Bc (T := fun q => zqs q a h k) (fun hx => A69 hc hx)))
  (Bd
  (Bc (T := fun q => zqs q a h k) (fun hx => Bef hx))
  (Bc (T := fun q => zqs q a h k) (fun hx => A68 hc hx)))))
  (Bd
  (Bd
  (Bd
  (Bc (T := fun q => zqs q a h k) (fun hx => Bex hc hx))
  (Bc (T := fun q => zqs q a h k) (fun hx => Bew hc hx)))
  (Bd
  (Bc (T := fun q => zqs q a h k) (fun hx => Bev hc hx))
  (Bc (T := fun q => zqs q a h k) (fun hx => Beu hc hx))))
  (Bd
  (Bd
  (Bc (T := fun q => zqs q a h k) (fun hx => Bet hc hx))
  (Bc (T := fun q => zqs q a h k) (fun hx => Bes hc hx)))
  (Bd
  (Bc (T := fun q => zqs q a h k) (fun hx => Ber hc hx))
  (Bc (T := fun q => zqs q a h k) (fun hx => Bee hx))))))
  (Bd
  (Bd
  (Bd
  (Bd
  (Bc (T := fun q => zqs q a h k) (fun hx => A67 hc hx))
  (Bc (T := fun q => zqs q a h k) (fun hx => Bed hx)))
  (Bd
  (Bc (T := fun q => zqs q a h k) (fun hx => Bec hx))
  (Bc (T := fun q => zqs q a h k) (fun hx => Beb hx))))
  (Bd
  (Bd
  (Bc (T := fun q => zqs q a h k) (fun hx => Bea hx))
  (Bc (T := fun q => zqs q a h k) (fun hx => Bd9 hx)))
  (Bd
  (Bc (T := fun q => zqs q a h k) (fun hx => Bd8 hx))
  (Bc (T := fun q => zqs q a h k) (fun hx => Beq hc hx)))))
  (Bd
  (Bd
  (Bd
  (Bc (T := fun q => zqs q a h k) (fun hx => Bep hc hx))
  (Bc (T := fun q => zqs q a h k) (fun hx => Beo hc hx)))
  (Bd
  (Bc (T := fun q => zqs q a h k) (fun hx => Ben hc hx))
  (Bc (T := fun q => zqs q a h k) (fun hx => Bem hc hx))))
  (Bd
  (Bd
  (Bc (T := fun q => zqs q a h k) (fun hx => Bel hc hx))
  (Bc (T := fun q => zqs q a h k) (fun hx => Bek hc hx)))
  (Bd
  (Bc (T := fun q => zqs q a h k) (fun hx => Bd7 hx))
  (Bd
  (Bc (T := fun q => zqs q a h k) (fun hx => Bd6 hx))
  (Bc (T := fun q => zqs q a h k) (fun hx => Bd5 hx)))))))))) hg
theorem Um (m : Nat) : ∀ n, Gb Tryz.prog (CP env) G (fun p => p) (calls m n)
  | 0 => fun _ _ _ _ _ _ _ _ _ _ _ _ hg => hg.elim
  | n + 1 => fun μ h w fn fn' args vargs k s gl hf hv hg => by
    cases fn with
    | func i => exact Awu (Um m n) (show A53 (calls m n) m i args h k from hg) μ w fn' vargs s gl hf hv
    | yield l => exact Aoo mixed Br (Um m n) (show Aie env (calls m n) (A2i Tryz.prog env G) l args h k from hg) μ w fn' vargs s gl hf hv
    | _ => exact hg.elim
end Go.Den
