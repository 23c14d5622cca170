/-
  A part of the proof: the law, in pieces.
-/
import Derived.Test.YtcnmehbkpaoolaaGreatDoorRunE
import Derived.KernelRfl
noncomputable section
namespace Go.Den
open Go.Proofs
set_option maxRecDepth 100000
def d11 : Code := Option.rec .skip (fun c => c) Tryz.f11.body
def q11 : An := [(7, [0, 1, 2, 3, 4, 5, 6, 7, 8, 9, 10, 11, 12, 13, 14, 15, 16, 17, 18, 24, 19, 20, 21, 22, 23, 25, 26]), (8, [0, 1, 2, 3, 4, 5, 6, 7, 8, 9, 10, 11, 12, 13, 14, 15, 16, 17]), (9, [0, 1, 2, 3, 4, 5, 6, 7, 8]), (10, [0, 1, 2, 3, 4, 5, 6, 7, 8, 9, 10, 11, 12, 13, 14, 15, 16, 17])]
structure J11 where
  a0 : Int → Int → Int → Int → Int → H → Prop
  a1 : AV → Bool → Nat → Nat → H → Prop
  a2 : Int → Int → AV → AV → Nat → Nat → Nat → Nat → Nat → Nat → AV → Bool → H → Prop
def Alf (c : CF) (k : KV) (J : J11) (n_0 n_1 : Int) (n_2 n_3 n_4 : Int) (h : H) : Prop :=
 oK (Ak env 44 (fun e ei => Ae 18 [(0, (.str 2 31868)), (1, (.str 2 9766)), (2, (.str 1 124)), (3, (.str 1 94)), (4, (.str 1 38)), (5, (.str 2 15677)), (6, (.str 2 15649)), (7, (.str 1 60)), (8, (.str 1 62)), (9, (.str 2 15676)), (10, (.str 2 15678)), (11, (.str 2 15420)), (12, (.str 2 15934)), (13, (.str 1 43)), (14, (.str 1 45)), (15, (.str 1 42)), (16, (.str 1 47)), (17, (.str 1 37))] h e ei)) fun v1 h2 =>
 oK (Ak env 51 (fun e ei => Ae 18 [(0, (.int .i64 (Int.ofNat 0))), (1, (.int .i64 (Int.ofNat 1))), (2, (.int .i64 (Int.ofNat 2))), (3, (.int .i64 (Int.ofNat 3))), (4, (.int .i64 (Int.ofNat 4))), (5, (.int .i64 (Int.ofNat 5))), (6, (.int .i64 (Int.ofNat 5))), (7, (.int .i64 (Int.ofNat 6))), (8, (.int .i64 (Int.ofNat 6))), (9, (.int .i64 (Int.ofNat 6))), (10, (.int .i64 (Int.ofNat 6))), (11, (.int .i64 (Int.ofNat 7))), (12, (.int .i64 (Int.ofNat 7))), (13, (.int .i64 (Int.ofNat 8))), (14, (.int .i64 (Int.ofNat 8))), (15, (.int .i64 (Int.ofNat 9))), (16, (.int .i64 (Int.ofNat 9))), (17, (.int .i64 (Int.ofNat 9)))] h2 e ei)) fun v3 h4 =>
 Al (fun k5 => gate false (Cs n_0 (Int.ofNat 0))
 (k5 (Cs n_1 (Int.ofNat 1)) h4)
 (k5 true h4)) fun b7 h6 =>
 Al (fun k8 => gate false b7
 (k8 (Cs n_2 (Int.ofNat 1)) h6)
 (k8 true h6)) fun b10 h9 =>
 Al (fun k11 => gate false b10
 (k11 (Cs (Int.ofNat 1000) n_0) h9)
 (k11 true h9)) fun b13 h12 =>
 Al (fun k14 => gate false b13
 (k14 (Cs (Int.ofNat 1000) n_1) h12)
 (k14 true h12)) fun b16 h15 =>
 Al (fun k17 => gate false b16
 (k17 (Cs (Int.ofNat 1000) n_2) h15)
 (k17 true h15)) fun b19 h18 =>
 cnd b19
 (c (.func 25) [] h18 fun v20 h21 =>
 asB v20 fun b22 =>
 k (.bool b22) h21)
 (c (.func 23) [(.int .i64 n_3), (.int .i64 (Int.ofNat 18))] h18 fun v23 h24 =>
 asI .i64 v23 fun n25 =>
 c (.func 23) [(.int .i64 n_4), (.int .i64 (Int.ofNat 18))] h24 fun v26 h27 =>
 asI .i64 v26 fun n28 =>
 c (.func 28) [(.int .i64 n_0), (.bool false)] h27 fun v29 h30 =>
 asS v29 fun l31 c32 =>
 c (.func 28) [(.int .i64 n_1), (.bool false)] h30 fun v33 h34 =>
 asS v33 fun l35 c36 =>
 c (.func 28) [(.int .i64 n_2), (.bool false)] h34 fun v37 h38 =>
 asS v37 fun l39 c40 =>
 Dn l31 c32 1 32 fun l41 c42 =>
 De n25 fun m43 =>
 Cc 1 m43 v1 fun v44 =>
 ld1 v44 h38 fun v45 =>
 asS v45 fun l46 c47 =>
 Dn l41 c42 l46 c47 fun l48 c49 =>
 Dn l48 c49 1 32 fun l50 c51 =>
 Dn l50 c51 l35 c36 fun l52 c53 =>
 Dn l52 c53 1 32 fun l54 c55 =>
 De n28 fun m56 =>
 Cc 1 m56 v1 fun v57 =>
 ld1 v57 h38 fun v58 =>
 asS v58 fun l59 c60 =>
 Dn l54 c55 l59 c60 fun l61 c62 =>
 Dn l61 c62 1 32 fun l63 c64 =>
 Dn l63 c64 l39 c40 fun l65 c66 =>
 Hp.Dm h38 Dd fun p67 h68 =>
 ld1 v44 h68 fun v69 =>
 asS v69 fun l70 c71 =>
 eqC (.str l70 c71) (.str l46 c47) <|
 ld1 v57 h68 fun v72 =>
 asS v72 fun l73 c74 =>
 eqC (.str l73 c74) (.str l59 c60) <|
 c (.func 29) [(.str l65 c66)] h68 fun v75 h76 =>
 c (.func 26) [v75] h76 fun v77 h78 =>
 ext 0 v77 fun v79 =>
 ext 1 v77 fun v80 =>
 asB v80 fun b81 =>
 stn 2 (.ptr p67 0) v79 h78 fun h82 =>
 J.a2 n25 n28 v1 v3 l31 c32 l35 c36 l39 c40 (.ptr p67 0) b81 h82)
def Ale (c : CF) (k : KV) (_J : J11) (v_16 : AV) (b_17 : Bool) (l_18 c_18 : Nat) (h : H) : Prop :=
 c (.func 29) [(.str l_18 c_18)] h fun v83 h84 =>
 c (.func 26) [v83] h84 fun v85 h86 =>
 ext 0 v85 fun v87 =>
 ext 1 v85 fun v88 =>
 asB v88 fun b89 =>
 Hp.Dm h86 Dd fun p90 h91 =>
 stn 2 (.ptr p90 0) v87 h91 fun h92 =>
 oV (Hi env .eql 4 (.bool b_17) (.bool b89)) fun v93 =>
 asB v93 fun b94 =>
 Al (fun k95 => gate true b94
 (ldn 2 v_16 h92 fun v98 =>
 ldn 2 (.ptr p90 0) h92 fun v99 =>
 oV (Hi env .eql 55 v98 v99) fun v100 =>
 asB v100 fun b101 =>
 k95 b101 h92)
 (k95 false h92)) fun b97 h96 =>
 Al (fun k102 => gate true b97
 (c (.func 25) [] h96 fun v105 h106 =>
 asB v105 fun b107 =>
 k102 b107 h106)
 (k102 false h96)) fun b104 h103 =>
 k (.bool b104) h103
def Ald (_c : CF) (_k : KV) (J : J11) (n_3 n_4 : Int) (v_11 v_12 : AV) (l_13 c_13 : Nat) (l_14 c_14 : Nat) (l_15 c_15 : Nat) (v_16 : AV) (b_17 : Bool) (h : H) : Prop :=
 Dn 1 40 l_13 c_13 fun l108 Bjd =>
 De n_3 fun m110 =>
 Cc 1 m110 v_11 fun v111 =>
 ld1 v111 h fun v112 =>
 asS v112 fun l113 A6l =>
 Dn l108 Bjd l113 A6l fun l115 A6j =>
 Dn l115 A6j l_14 c_14 fun l117 A6i =>
 Dn l117 A6i 1 41 fun l119 Bi9 =>
 De n_4 fun m121 =>
 Cc 1 m121 v_11 fun v122 =>
 ld1 v122 h fun v123 =>
 asS v123 fun l124 c125 =>
 Dn l119 Bi9 l124 c125 fun l126 Bi8 =>
 Dn l126 Bi8 l_15 c_15 fun l128 Jx =>
 De n_3 fun m130 =>
 Cc 1 m130 v_12 fun v131 =>
 ld1 v131 h fun v132 =>
 asI .i64 v132 fun n133 =>
 De n_4 fun m134 =>
 Cc 1 m134 v_12 fun v135 =>
 ld1 v135 h fun v136 =>
 asI .i64 v136 fun n137 =>
 cnd (Cs n133 n137)
 (De n_3 fun m138 =>
 Cc 1 m138 v_11 fun v139 =>
 ld1 v139 h fun v140 =>
 asS v140 fun l141 Aw9 =>
 Dn l_13 c_13 l141 Aw9 fun l143 c144 =>
 Dn l143 c144 1 40 fun l145 c146 =>
 Dn l145 c146 l_14 c_14 fun l147 c148 =>
 De n_4 fun m149 =>
 Cc 1 m149 v_11 fun v150 =>
 ld1 v150 h fun v151 =>
 asS v151 fun l152 c153 =>
 Dn l147 c148 l152 c153 fun l154 c155 =>
 Dn l154 c155 l_15 c_15 fun l156 c157 =>
 Dn l156 c157 1 41 fun l158 c159 =>
 J.a1 v_16 b_17 l158 c159 h)
 (J.a1 v_16 b_17 l128 Jx h)
def z11 : J11 := ⟨fun _ _ _ _ _ _ => False, fun _ _ _ _ _ => False, fun _ _ _ _ _ _ _ _ _ _ _ _ _ => False⟩
def r11 (c : CF) (k : KV) (m : Nat) : J11 := Nat.rec z11 (fun _ J => ⟨Alf c k J, Ale c k J, Ald c k J⟩) m
def f11 (J : J11) : Jump := fun L f h => match L with
  | 0 => asI .i64 (f 0) fun n_0 => asI .i64 (f 1) fun n_1 => asI .i64 (f 2) fun n_2 => asI .i64 (f 3) fun n_3 => asI .i64 (f 4) fun n_4 => J.a0 n_0 n_1 n_2 n_3 n_4 h
  | 1 => asB (f 17) fun b_17 => asS (f 18) fun l_18 c_18 => J.a1 (f 16) b_17 l_18 c_18 h
  | 2 => asI .i64 (f 3) fun n_3 => asI .i64 (f 4) fun n_4 => asS (f 13) fun l_13 c_13 => asS (f 14) fun l_14 c_14 => asS (f 15) fun l_15 c_15 => asB (f 17) fun b_17 => J.a2 n_3 n_4 (f 11) (f 12) l_13 c_13 l_14 c_14 l_15 c_15 (f 16) b_17 h
  | _ => False
def u11 : Ax := [(.root, 0), ((.r (.r (.r (.r (.r (.r (.r (.r (.r .root))))))))), 1), ((.r (.r (.r (.r (.r (.r (.r .root))))))), 2)]
section
variable {c : CF} {k : KV} {f : FT} {h : H}
theorem Bb7 (J : J11) (n_0 n_1 : Int) (n_2 n_3 n_4 : Int) : zqe c k q11 u11 (f11 J) d11 Tryz.f11 .root (Af (Af (Af (Af (Af f 0 (.int .i64 n_0)) 1 (.int .i64 n_1)) 2 (.int .i64 n_2)) 3 (.int .i64 n_3)) 4 (.int .i64 n_4)) h = Alf c k J n_0 n_1 n_2 n_3 n_4 h := by kernel_rfl
theorem Bb6 (J : J11) (b_17 : Bool) (l_18 c_18 : Nat) : zqe c k q11 u11 (f11 J) d11 Tryz.f11 (.r (.r (.r (.r (.r (.r (.r (.r (.r .root))))))))) (Af (Af f 17 (.bool b_17)) 18 (.str l_18 c_18)) h = Ale c k J (f 16) b_17 l_18 c_18 h := by kernel_rfl
theorem Bb5 (J : J11) (n_3 n_4 : Int) (l_13 c_13 : Nat) (l_14 c_14 : Nat) (l_15 c_15 : Nat) (b_17 : Bool) : zqe c k q11 u11 (f11 J) d11 Tryz.f11 (.r (.r (.r (.r (.r (.r (.r .root))))))) (Af (Af (Af (Af (Af (Af f 3 (.int .i64 n_3)) 4 (.int .i64 n_4)) 13 (.str l_13 c_13)) 14 (.str l_14 c_14)) 15 (.str l_15 c_15)) 17 (.bool b_17)) h = Ald c k J n_3 n_4 (f 11) (f 12) l_13 c_13 l_14 c_14 l_15 c_15 (f 16) b_17 h := by kernel_rfl
theorem w11 (hc : Bg c) {n : Nat} {a : List AV} (hg : f11 (r11 c k n) 0 (Ab a) h) : zqs 11 a h k :=
 zqw hc q11 Tryz.func11 rfl (by kernel_rfl) (by kernel_rfl) k u11 (fun n => f11 (r11 c k n)) (fun L _ _ hl => match L, hl with
  | 0, hl => Bj hl fun _ hl => Bj hl fun _ hl => Bj hl fun _ hl => Bj hl fun _ hl => Bj hl fun _ hl => hl
  | 1, hl => Cy hl fun _ hl => Cq hl fun _ _ hl => hl
  | 2, hl => Bj hl fun _ hl => Bj hl fun _ hl => Cq hl fun _ _ hl => Cq hl fun _ _ hl => Cq hl fun _ _ hl => Cy hl fun _ hl => hl
  | _ + 3, hl => hl) (fun n => ⟨
  fun f h hl => by
    refine Bi 0 hl fun _ hl => ?_; refine Bi 1 hl fun _ hl => ?_; refine Bi 2 hl fun _ hl => ?_; refine Bi 3 hl fun _ hl => ?_; refine Bi 4 hl fun _ hl => ?_; exact Eq.mpr (Bb7 ..) hl,
  fun f h hl => by
    refine Cw 17 hl fun _ hl => ?_; refine Cp 18 hl fun _ _ hl => ?_; exact Eq.mpr (Bb6 ..) hl,
  fun f h hl => by
    refine Bi 3 hl fun _ hl => ?_; refine Bi 4 hl fun _ hl => ?_; refine Cp 13 hl fun _ _ hl => ?_; refine Cp 14 hl fun _ _ hl => ?_; refine Cp 15 hl fun _ _ hl => ?_; refine Cw 17 hl fun _ hl => ?_; exact Eq.mpr (Bb5 ..) hl,
  trivial⟩) rfl hg
end
theorem g11 {c : CF} {k : KV} {n : Nat} {n_0 n_1 : Int} {n_2 n_3 n_4 : Int} {h : H} (hg : Alf c k (r11 c k n) n_0 n_1 n_2 n_3 n_4 h) : f11 (r11 c k (n + 1)) 0 (Ab [.int .i64 n_0, .int .i64 n_1, .int .i64 n_2, .int .i64 n_3, .int .i64 n_4]) h := hg
theorem Baq {c : CF} {k : KV} {n : Nat} {x0 : AV} {x1 : Bool} {x2 x3 : Nat} {h : H} (hg : Ale c k (r11 c k n) x0 x1 x2 x3 h) : (r11 c k (n + 1)).a1 x0 x1 x2 x3 h := hg
theorem Bap {c : CF} {k : KV} {n : Nat} {x0 x1 : Int} {x2 x3 : AV} {x4 x5 : Nat} {x6 x7 : Nat} {x8 x9 : Nat} {x10 : AV} {x11 : Bool} {h : H} (hg : Ald c k (r11 c k n) x0 x1 x2 x3 x4 x5 x6 x7 x8 x9 x10 x11 h) : (r11 c k (n + 1)).a2 x0 x1 x2 x3 x4 x5 x6 x7 x8 x9 x10 x11 h := hg
end Go.Den
