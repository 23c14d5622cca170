/-
  A part of the proof: the law, in pieces.
-/
import Derived.Test.YtcnmehbkpaoolaaGreatDoorRunE
import Derived.KernelRfl
noncomputable section
namespace Go.Den
open Go.Proofs
set_option maxRecDepth 100000
def d10 : Code := Option.rec .skip (fun c => c) Tryz.f10.body
def q10 : An := []
structure J10 where
  a0 : Int → Int → H → Prop
  a1 : Int → Int → AV → Bool → AV → Bool → AV → Bool → Bool → H → Prop
def Alh (c : CF) (k : KV) (J : J10) (n_0 n_1 : Int) (h : H) : Prop :=
 Al (fun k1 => gate false (Cs n_0 (Int.ofNat 0))
 (k1 (Cs n_1 (Int.ofNat 0)) h)
 (k1 true h)) fun b3 h2 =>
 Al (fun k4 => gate false b3
 (k4 (Cs (Int.ofNat 1000) n_0) h2)
 (k4 true h2)) fun b6 h5 =>
 Al (fun k7 => gate false b6
 (k7 (Cs (Int.ofNat 1000) n_1) h5)
 (k7 true h5)) fun b9 h8 =>
 cnd b9
 (c (.func 25) [] h8 fun v10 h11 =>
 asB v10 fun b12 =>
 k (.bool b12) h11)
 (c (.func 28) [(.int .i64 n_0), (.bool false)] h8 fun v13 h14 =>
 asS v13 fun l15 c16 =>
 c (.func 28) [(.int .i64 n_1), (.bool false)] h14 fun v17 h18 =>
 asS v17 fun l19 c20 =>
 Dn l15 c16 4 539371040 fun l21 c22 =>
 Dn l21 c22 l19 c20 fun l23 c24 =>
 Dn l23 c24 4 807415584 fun l25 c26 =>
 c (.func 29) [(.str l25 c26)] h18 fun v27 h28 =>
 c (.func 26) [v27] h28 fun v29 h30 =>
 ext 0 v29 fun v31 =>
 ext 1 v29 fun v32 =>
 asB v32 fun b33 =>
 Hp.Dm h30 Dd fun p34 h35 =>
 stn 2 (.ptr p34 0) v31 h35 fun h36 =>
 Dn l15 c16 9 887760008516780981280 fun l37 c38 =>
 c (.func 29) [(.str l37 c38)] h36 fun v39 h40 =>
 c (.func 26) [v39] h40 fun v41 h42 =>
 ext 0 v41 fun v43 =>
 ext 1 v41 fun v44 =>
 asB v44 fun b45 =>
 Hp.Dm h42 Dd fun p46 h47 =>
 stn 2 (.ptr p46 0) v43 h47 fun h48 =>
 Dn l15 c16 3 2113312 fun l49 c50 =>
 Dn l49 c50 l19 c20 fun l51 c52 =>
 Dn l51 c52 8 3467823528384936480 fun l53 c54 =>
 c (.func 29) [(.str l53 c54)] h48 fun v55 h56 =>
 c (.func 26) [v55] h56 fun v57 h58 =>
 ext 0 v57 fun v59 =>
 ext 1 v57 fun v60 =>
 asB v60 fun b61 =>
 Hp.Dm h58 Dd fun p62 h63 =>
 stn 2 (.ptr p62 0) v59 h63 fun h64 =>
 Dn l15 c16 16 63969850296809337550253420645313429280 fun l65 c66 =>
 c (.func 29) [(.str l65 c66)] h64 fun v67 h68 =>
 c (.func 26) [v67] h68 fun v69 h70 =>
 ext 0 v69 fun v71 =>
 ext 1 v69 fun v72 =>
 asB v72 fun b73 =>
 Hp.Dm h70 Dd fun p74 h75 =>
 stn 2 (.ptr p74 0) v71 h75 fun h76 =>
 J.a1 n_0 n_1 (.ptr p34 0) b33 (.ptr p46 0) b45 (.ptr p62 0) b61 b73 h76)
def Alg (c : CF) (k : KV) (_J : J10) (n_0 n_1 : Int) (v_7 : AV) (b_8 : Bool) (v_9 : AV) (b_10 : Bool) (v_11 : AV) (b_12 b_14 : Bool) (h : H) : Prop :=
 oV (Hi env .eql 4 (.bool b_8) (.bool (Av n_0 (Int.ofNat 0)))) fun v77 =>
 asB v77 fun b78 =>
 Al (fun k79 => gate true b78
 (Ao 0 v_7 fun v82 =>
 ld1 v82 h fun v83 =>
 asI .u64 v83 fun n84 =>
 k79 (Av n84 (Int.ofNat 0)) h)
 (k79 false h)) fun b81 h80 =>
 Al (fun k85 => gate true b81
 (oV (Hi env .eql 4 (.bool b_10) (.bool (Ck (Av n_0 (Int.ofNat 0))))) fun v88 =>
 asB v88 fun b89 =>
 k85 b89 h80)
 (k85 false h80)) fun b87 h86 =>
 Al (fun k90 => gate true b87
 (Ao 0 v_9 fun v93 =>
 ld1 v93 h86 fun v94 =>
 asI .u64 v94 fun n95 =>
 oV (Hi env .eql 4 (.bool (Av n95 (Int.ofNat 1))) (.bool (Ck (Av n_0 (Int.ofNat 0))))) fun v96 =>
 asB v96 fun b97 =>
 k90 b97 h86)
 (k90 false h86)) fun b92 h91 =>
 Al (fun k98 => gate true b92
 (oV (Hi env .eql 4 (.bool b_12) (.bool (Ck (Av n_0 (Int.ofNat 0))))) fun v101 =>
 asB v101 fun b102 =>
 k98 b102 h91)
 (k98 false h91)) fun b100 h99 =>
 Al (fun k103 => gate true b100
 (Al (fun k106 => gate false (Av n_0 (Int.ofNat 0))
 (Ao 0 v_11 fun v109 =>
 ld1 v109 h99 fun v110 =>
 asI .u64 v110 fun n111 =>
 fI (wrap .u64 n_1) fun n112 =>
 k106 (Av n111 n112) h99)
 (k106 true h99)) fun b108 h107 =>
 k103 b108 h107)
 (k103 false h99)) fun b105 h104 =>
 Al (fun k113 => gate true b105
 (k113 (Ck b_14) h104)
 (k113 false h104)) fun b115 h114 =>
 Al (fun k116 => gate true b115
 (c (.func 25) [] h114 fun v119 h120 =>
 asB v119 fun b121 =>
 k116 b121 h120)
 (k116 false h114)) fun b118 h117 =>
 k (.bool b118) h117
def z10 : J10 := ⟨fun _ _ _ => False, fun _ _ _ _ _ _ _ _ _ _ => False⟩
def r10 (c : CF) (k : KV) (m : Nat) : J10 := Nat.rec z10 (fun _ J => ⟨Alh c k J, Alg c k J⟩) m
def f10 (J : J10) : Jump := fun L f h => match L with
  | 0 => asI .i64 (f 0) fun n_0 => asI .i64 (f 1) fun n_1 => J.a0 n_0 n_1 h
  | 1 => asI .i64 (f 0) fun n_0 => asI .i64 (f 1) fun n_1 => asB (f 8) fun b_8 => asB (f 10) fun b_10 => asB (f 12) fun b_12 => asB (f 14) fun b_14 => J.a1 n_0 n_1 (f 7) b_8 (f 9) b_10 (f 11) b_12 b_14 h
  | _ => False
def u10 : Ax := [(.root, 0), ((.r (.r (.r (.r (.r (.r (.r .root))))))), 1)]
section
variable {c : CF} {k : KV} {f : FT} {h : H}
theorem Bb9 (J : J10) (n_0 n_1 : Int) : zqe c k q10 u10 (f10 J) d10 Tryz.f10 .root (Af (Af f 0 (.int .i64 n_0)) 1 (.int .i64 n_1)) h = Alh c k J n_0 n_1 h := by kernel_rfl
theorem Bb8 (J : J10) (n_0 n_1 : Int) (b_8 b_10 : Bool) (b_12 b_14 : Bool) : zqe c k q10 u10 (f10 J) d10 Tryz.f10 (.r (.r (.r (.r (.r (.r (.r .root))))))) (Af (Af (Af (Af (Af (Af f 0 (.int .i64 n_0)) 1 (.int .i64 n_1)) 8 (.bool b_8)) 10 (.bool b_10)) 12 (.bool b_12)) 14 (.bool b_14)) h = Alg c k J n_0 n_1 (f 7) b_8 (f 9) b_10 (f 11) b_12 b_14 h := by kernel_rfl
theorem w10 (hc : Bg c) {n : Nat} {a : List AV} (hg : f10 (r10 c k n) 0 (Ab a) h) : zqs 10 a h k :=
 zqw hc q10 Tryz.func10 rfl (by kernel_rfl) (by kernel_rfl) k u10 (fun n => f10 (r10 c k n)) (fun L _ _ hl => match L, hl with
  | 0, hl => Bj hl fun _ hl => Bj hl fun _ hl => hl
  | 1, hl => Bj hl fun _ hl => Bj hl fun _ hl => Cy hl fun _ hl => Cy hl fun _ hl => Cy hl fun _ hl => Cy hl fun _ hl => hl
  | _ + 2, hl => hl) (fun n => ⟨
  fun f h hl => by
    refine Bi 0 hl fun _ hl => ?_; refine Bi 1 hl fun _ hl => ?_; exact Eq.mpr (Bb9 ..) hl,
  fun f h hl => by
    refine Bi 0 hl fun _ hl => ?_; refine Bi 1 hl fun _ hl => ?_; refine Cw 8 hl fun _ hl => ?_; refine Cw 10 hl fun _ hl => ?_; refine Cw 12 hl fun _ hl => ?_; refine Cw 14 hl fun _ hl => ?_; exact Eq.mpr (Bb8 ..) hl,
  trivial⟩) rfl hg
end
theorem g10 {c : CF} {k : KV} {n : Nat} {n_0 n_1 : Int} {h : H} (hg : Alh c k (r10 c k n) n_0 n_1 h) : f10 (r10 c k (n + 1)) 0 (Ab [.int .i64 n_0, .int .i64 n_1]) h := hg
theorem Bar {c : CF} {k : KV} {n : Nat} {x0 x1 : Int} {x2 : AV} {x3 : Bool} {x4 : AV} {x5 : Bool} {x6 : AV} {x7 x8 : Bool} {h : H} (hg : Alg c k (r10 c k n) x0 x1 x2 x3 x4 x5 x6 x7 x8 h) : (r10 c k (n + 1)).a1 x0 x1 x2 x3 x4 x5 x6 x7 x8 h := hg
end Go.Den
