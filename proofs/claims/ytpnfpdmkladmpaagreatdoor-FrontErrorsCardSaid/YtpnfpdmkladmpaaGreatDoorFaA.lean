/-
  A part of the proof: the tables of the program.
-/
import Derived.Test.YtpnfpdmkladmpaaGreatDoorItp
import Derived.Test.YtpnfpdmkladmpaaGreatDoorProg
import Derived.KernelRfl
namespace Go.Den
set_option maxRecDepth 100000
theorem fset_self {f : FT} {d : Nat} {v : AV} (h : f d = v) : fset f d v = f := by
  funext u
  rw [fset_eq]
  by_cases e : u = d
  · rw [if_pos e, ← h, e]
  · rw [if_neg e]
noncomputable def env : Env := envOf Go.Proofs.Tryz.prog []
def G : Nat := 9
theorem mixed : Go.Proofs.Tryz.prog.follows .mixedOrders = true := by kernel_rfl
theorem envOk : EnvOk Go.Proofs.Tryz.prog env := envOk_of (by kernel_rfl)

noncomputable def ob4 : Ob FT := rowOf 4 [(.bool false)]
noncomputable def ob22 : Ob FT := rowOf 22 [.nils]
noncomputable def ob29 : Ob FT := rowOf 29 [.nils, .nils, .nils, .nils, (.bool false)]
noncomputable def ob33 : Ob FT := rowOf 33 [(.str 0 0), (.int .i64 (Int.ofNat 0)), (.int .i64 (Int.ofNat 0))]
noncomputable def ob35 : Ob FT := rowOf 35 [(.int .i64 (Int.ofNat 0)), (.str 0 0), (.int .i64 (Int.ofNat 0)), (.int .i64 (Int.ofNat 0))]
noncomputable def ob53 : Ob FT := rowOf 53 [(.int .i64 (Int.ofNat 0)), (.str 0 0), (.bool false), (.str 0 0), (.int .i64 (Int.ofNat 0)), (.int .i64 (Int.ofNat 0)), (.bool false), .nils]
noncomputable def ob55 : Ob FT := rowOf 55 [(.str 0 0), (.str 0 0), (.int .i64 (Int.ofNat 0)), (.int .i64 (Int.ofNat 0)), (.bool false)]
noncomputable def ob112 : Ob FT := rowOf 112 [.nils, .nils, .nils]
noncomputable def ob118 : Ob FT := rowOf 118 [.nils, .nils, (.bool false), .nils]
noncomputable def ob119 : Ob FT := rowOf 119 [.nilp]
noncomputable def ob131 : Ob FT := rowOf 131 [(.int .i64 (Int.ofNat 0)), (.str 0 0), (.bool false), (.str 0 0), (.int .i64 (Int.ofNat 0)), (.int .i64 (Int.ofNat 0)), (.bool false), .nils, .nils]
noncomputable def ob156 : Ob FT := rowOf 156 [.nils, (.int .i64 (Int.ofNat 0)), (.int .i64 (Int.ofNat 0)), (.bool false)]
noncomputable def ob172 : Ob FT := rowOf 172 [(.int .u8 (Int.ofNat 0)), (.int .i64 (Int.ofNat 0)), (.int .i64 (Int.ofNat 0))]
noncomputable def ob190 : Ob FT := rowOf 190 [.nilp, .nils]
noncomputable def ob224 : Ob FT := rowOf 224 [(.str 0 0), (.bool false), (.bool false), .nils, .nils, (.str 0 0), (.int .i64 (Int.ofNat 0)), (.int .i64 (Int.ofNat 0))]
noncomputable def ob262 : Ob FT := rowOf 262 [(.int .i64 (Int.ofNat 0)), (.int .i64 (Int.ofNat 0))]
noncomputable def ob311 : Ob FT := rowOf 311 [.nils, (.bool false), (.str 0 0), (.int .i64 (Int.ofNat 0)), (.int .i64 (Int.ofNat 0))]
noncomputable def ob327 : Ob FT := rowOf 327 [(.int .u64 (Int.ofNat 0)), (.bool false)]
noncomputable def ob331 : Ob FT := rowOf 331 [(.str 0 0), (.bool false)]
noncomputable def ob413 : Ob FT := rowOf 413 [(.bool false), (.bool false), (.bool false), (.bool false), (.bool false), (.bool false), (.bool false), (.bool false), (.bool false), (.bool false), (.bool false), (.bool false), (.bool false), (.bool false), (.bool false), (.bool false), (.bool false), (.bool false), (.bool false), (.bool false), (.bool false), (.bool false), (.bool false), (.bool false), (.bool false), (.bool false), (.bool false), (.bool false), (.bool false), (.bool false), (.bool false), (.bool false), (.bool false), (.bool false), (.bool false), (.bool false), (.bool false), (.bool false), (.bool false), (.bool false), (.bool false), (.bool false), (.bool false), (.bool false), (.bool false), (.bool false), (.bool false), (.bool false), (.bool false), (.bool false), (.bool false), (.bool false), (.bool false), (.bool false), (.bool false), (.bool false), (.bool false), (.bool false), (.bool false), (.bool false), (.bool false), (.bool false), (.bool false), (.bool false), (.bool false), (.bool false), (.bool false), (.bool false), (.bool false), (.bool false), (.bool false), (.bool false), (.bool false), (.bool false), (.bool false), (.bool false), (.bool false), (.bool false), (.bool false), (.bool false), (.bool false), (.bool false), (.bool false), (.bool false), (.bool false), (.bool false), (.bool false), (.bool false), (.bool false), (.bool false), (.bool false), (.bool false), (.bool false), (.bool false), (.bool false), (.bool false), (.bool false), (.bool false), (.bool false), (.bool false), (.bool false), (.bool false), (.bool false), (.bool false), (.bool false), (.bool false), (.bool false), (.bool false), (.bool false), (.bool false), (.bool false), (.bool false), (.bool false), (.bool false), (.bool false), (.bool false), (.bool false), (.bool false), (.bool false), (.bool false), (.bool false), (.bool false), (.bool false), (.bool false), (.bool false), (.bool false), (.bool false), (.bool false), (.bool false), (.bool false), (.bool false), (.bool false), (.bool false), (.bool false), (.bool false), (.bool false), (.bool false), (.bool false), (.bool false), (.bool false), (.bool false), (.bool false), (.bool false), (.bool false), (.bool false), (.bool false), (.bool false), (.bool false), (.bool false), (.bool false), (.bool false), (.bool false), (.bool false), (.bool false), (.bool false), (.bool false), (.bool false), (.bool false), (.bool false), (.bool false), (.bool false), (.bool false), (.bool false), (.bool false), (.bool false), (.bool false), (.bool false), (.bool false), (.bool false), (.bool false), (.bool false), (.bool false), (.bool false), (.bool false), (.bool false), (.bool false), (.bool false), (.bool false), (.bool false), (.bool false), (.bool false), (.bool false), (.bool false), (.bool false), (.bool false), (.bool false), (.bool false), (.bool false), (.bool false), (.bool false), (.bool false), (.bool false), (.bool false), (.bool false), (.bool false), (.bool false), (.bool false), (.bool false), (.bool false), (.bool false), (.bool false), (.bool false), (.bool false), (.bool false), (.bool false), (.bool false), (.bool false), (.bool false), (.bool false), (.bool false), (.bool false), (.bool false), (.bool false), (.bool false), (.bool false), (.bool false), (.bool false), (.bool false), (.bool false), (.bool false), (.bool false), (.bool false), (.bool false), (.bool false), (.bool false), (.bool false), (.bool false), (.bool false), (.bool false), (.bool false), (.bool false), (.bool false), (.bool false), (.bool false), (.bool false), (.bool false), (.bool false), (.bool false), (.bool false), (.bool false), (.bool false), (.bool false), (.bool false), (.bool false), (.bool false), (.bool false), (.bool false), (.bool false), (.bool false), (.bool false), (.bool false), (.bool false), (.bool false), (.bool false), (.bool false), (.bool false)]
end Go.Den
