/-
  A part of the proof: the law, in pieces.
-/
import Derived.Test.YtcnmehbkpaoolaaGreatDoorRunE
import Derived.KernelRfl
noncomputable section
namespace Go.Den
open Go.Proofs
set_option maxRecDepth 100000
def d13 : Code := Option.rec .skip (fun c => c) Tryz.f13.body
def q13 : An := []
structure J13 where
  a0 : Int → Int → Bool → H → Prop
  a1 : Int → Int → Bool → AV → Bool → AV → Bool → AV → Bool → AV → Bool → AV → Bool → Int → H → Prop
  a2 : Int → Int → Bool → Nat → Nat → AV → Bool → AV → Bool → AV → Bool → AV → Bool → H → Prop
def Alc (c : CF) (k : KV) (J : J13) (n_0 n_1 : Int) (b_2 : Bool) (h : H) : Prop :=
 Al (fun k1 => gate false (Cs n_1 (Int.ofNat 0))
 (k1 (Cs (Int.ofNat 1000) n_1) h)
 (k1 true h)) fun b3 h2 =>
 cnd b3
 (c (.func 25) [] h2 fun v4 h5 =>
 asB v4 fun b6 =>
 k (.bool b6) h5)
 (c (.func 28) [(.int .i64 n_0), (.bool b_2)] h2 fun v7 h8 =>
 asS v7 fun l9 c10 =>
 c (.func 28) [(.int .i64 n_1), (.bool false)] h8 fun v11 h12 =>
 asS v11 fun l13 c14 =>
 Dn l9 c10 4 540818464 fun l15 c16 =>
 Dn l15 c16 l13 c14 fun l17 c18 =>
 c (.func 29) [(.str l17 c18)] h12 fun v19 h20 =>
 c (.func 26) [v19] h20 fun v21 h22 =>
 ext 0 v21 fun v23 =>
 ext 1 v21 fun v24 =>
 asB v24 fun b25 =>
 Hp.Dm h22 Dd fun p26 h27 =>
 stn 2 (.ptr p26 0) v23 h27 fun h28 =>
 Dn 1 40 l9 c10 fun l29 c30 =>
 Dn l29 c30 5 138483212329 fun l31 c32 =>
 Dn l31 c32 l13 c14 fun l33 c34 =>
 c (.func 29) [(.str l33 c34)] h28 fun v35 h36 =>
 c (.func 26) [v35] h36 fun v37 h38 =>
 ext 0 v37 fun v39 =>
 ext 1 v37 fun v40 =>
 asB v40 fun b41 =>
 Hp.Dm h38 Dd fun p42 h43 =>
 stn 2 (.ptr p42 0) v39 h43 fun h44 =>
 Dn 2 10285 l9 c10 fun l45 c46 =>
 Dn l45 c46 1 41 fun l47 c48 =>
 c (.func 29) [(.str l47 c48)] h44 fun v49 h50 =>
 c (.func 26) [v49] h50 fun v51 h52 =>
 ext 0 v51 fun v53 =>
 ext 1 v51 fun v54 =>
 asB v54 fun b55 =>
 Hp.Dm h52 Dd fun p56 h57 =>
 stn 2 (.ptr p56 0) v53 h57 fun h58 =>
 Dn 2 8318 l9 c10 fun l59 c60 =>
 c (.func 29) [(.str l59 c60)] h58 fun v61 h62 =>
 c (.func 26) [v61] h62 fun v63 h64 =>
 ext 0 v63 fun v65 =>
 ext 1 v63 fun v66 =>
 asB v66 fun b67 =>
 Hp.Dm h64 Dd fun p68 h69 =>
 stn 2 (.ptr p68 0) v65 h69 fun h70 =>
 J.a2 n_0 n_1 b_2 l9 c10 (.ptr p26 0) b25 (.ptr p42 0) b41 (.ptr p56 0) b55 (.ptr p68 0) b67 h70)
def Alb (c : CF) (k : KV) (_J : J13) (n_0 n_1 : Int) (b_2 : Bool) (v_9 : AV) (b_10 : Bool) (v_11 : AV) (b_12 : Bool) (v_13 : AV) (b_14 : Bool) (v_15 : AV) (b_16 : Bool) (v_17 : AV) (b_18 : Bool) (n_19 : Int) (h : H) : Prop :=
 fI (wrap .u64 n_0) fun n71 =>
 Ml Nat.land .i64 n_1 (Int.ofNat 63) fun n72 =>
 Ain .u64 n71 n72 fun n73 =>
 ldn 2 v_9 h fun v74 =>
 oK (Bt env (env.ty 55) [(0, (.int .u64 n73)), (1, (.bool b_2))] h) fun v75 h76 =>
 oV (Hi env .eql 55 v74 v75) fun v77 =>
 asB v77 fun b78 =>
 Al (fun k79 => gate true b78
 (ldn 2 v_11 h76 fun v82 =>
 oK (Bt env (env.ty 55) [(0, (.int .u64 n_19)), (1, (.bool b_2))] h76) fun v83 h84 =>
 oV (Hi env .eql 55 v82 v83) fun v85 =>
 asB v85 fun b86 =>
 k79 b86 h84)
 (k79 false h76)) fun b81 h80 =>
 Al (fun k87 => gate true b81
 (ldn 2 v_13 h80 fun v90 =>
 fI (wrap .u64 n_0) fun n91 =>
 oV (unA .neg (.int .u64 n91)) fun v92 =>
 asI .u64 v92 fun n93 =>
 oK (Bt env (env.ty 55) [(0, (.int .u64 n93)), (1, (.bool b_2))] h80) fun v94 h95 =>
 oV (Hi env .eql 55 v90 v94) fun v96 =>
 asB v96 fun b97 =>
 k87 b97 h95)
 (k87 false h80)) fun b89 h88 =>
 Al (fun k98 => gate true b89
 (ldn 2 v_15 h88 fun v101 =>
 fI (wrap .u64 n_0) fun n102 =>
 oV (unA .xor (.int .u64 n102)) fun v103 =>
 asI .u64 v103 fun n104 =>
 oK (Bt env (env.ty 55) [(0, (.int .u64 n104)), (1, (.bool b_2))] h88) fun v105 h106 =>
 oV (Hi env .eql 55 v101 v105) fun v107 =>
 asB v107 fun b108 =>
 k98 b108 h106)
 (k98 false h88)) fun b100 h99 =>
 Al (fun k109 => gate true b_10
 (k109 b_12 h99)
 (k109 false h99)) fun b111 h110 =>
 Al (fun k112 => gate true b111
 (k112 b_14 h110)
 (k112 false h110)) fun b114 h113 =>
 Al (fun k115 => gate true b114
 (k115 b_16 h113)
 (k115 false h113)) fun b117 h116 =>
 Al (fun k118 => gate true b117
 (k118 b_18 h116)
 (k118 false h116)) fun b120 h119 =>
 Al (fun k121 => gate true b120
 (k121 b100 h119)
 (k121 false h119)) fun b123 h122 =>
 Al (fun k124 => gate true b123
 (Ao 1 v_17 fun v127 =>
 ld1 v127 h122 fun v128 =>
 asB v128 fun b129 =>
 k124 (Ck b129) h122)
 (k124 false h122)) fun b126 h125 =>
 Al (fun k130 => gate true b126
 (Ao 0 v_17 fun v133 =>
 ld1 v133 h125 fun v134 =>
 asI .u64 v134 fun n135 =>
 oV (Hi env .eql 4 (.bool (Av n135 (Int.ofNat 1))) (.bool (Ck (Av n_0 (Int.ofNat 0))))) fun v136 =>
 asB v136 fun b137 =>
 k130 b137 h125)
 (k130 false h125)) fun b132 h131 =>
 Al (fun k138 => gate true b132
 (Ao 0 v_17 fun v141 =>
 ld1 v141 h131 fun v142 =>
 asI .u64 v142 fun n143 =>
 k138 (Gu n143 (Int.ofNat 1)) h131)
 (k138 false h131)) fun b140 h139 =>
 Al (fun k144 => gate true b140
 (c (.func 25) [] h139 fun v147 h148 =>
 asB v147 fun b149 =>
 k144 b149 h148)
 (k144 false h139)) fun b146 h145 =>
 k (.bool b146) h145
def Ala (c : CF) (_k : KV) (J : J13) (n_0 n_1 : Int) (b_2 : Bool) (l_7 c_7 : Nat) (v_9 : AV) (b_10 : Bool) (v_11 : AV) (b_12 : Bool) (v_13 : AV) (b_14 : Bool) (v_15 : AV) (b_16 : Bool) (h : H) : Prop :=
 Dn 3 2629921 l_7 c_7 fun l150 c151 =>
 Dn l150 c151 1 41 fun l152 c153 =>
 c (.func 29) [(.str l152 c153)] h fun v154 h155 =>
 c (.func 26) [v154] h155 fun v156 h157 =>
 ext 0 v156 fun v158 =>
 ext 1 v156 fun v159 =>
 asB v159 fun b160 =>
 Hp.Dm h157 Dd fun p161 h162 =>
 stn 2 (.ptr p161 0) v158 h162 fun h163 =>
 Ml Nat.land .i64 n_1 (Int.ofNat 63) fun n164 =>
 Ab6 .i64 n_0 n164 fun n165 =>
 fI (wrap .u64 n165) fun n166 =>
 cnd b_2
 (fI (wrap .u64 n_0) fun n167 =>
 Ml Nat.land .i64 n_1 (Int.ofNat 63) fun n168 =>
 Ab6 .u64 n167 n168 fun n169 =>
 J.a1 n_0 n_1 b_2 v_9 b_10 v_11 b_12 v_13 b_14 v_15 b_16 (.ptr p161 0) b160 n169 h163)
 (J.a1 n_0 n_1 b_2 v_9 b_10 v_11 b_12 v_13 b_14 v_15 b_16 (.ptr p161 0) b160 n166 h163)
def z13 : J13 := ⟨fun _ _ _ _ => False, fun _ _ _ _ _ _ _ _ _ _ _ _ _ _ _ => False, fun _ _ _ _ _ _ _ _ _ _ _ _ _ _ => False⟩
def r13 (c : CF) (k : KV) (m : Nat) : J13 := Nat.rec z13 (fun _ J => ⟨Alc c k J, Alb c k J, Ala c k J⟩) m
def f13 (J : J13) : Jump := fun L f h => match L with
  | 0 => asI .i64 (f 0) fun n_0 => asI .i64 (f 1) fun n_1 => asB (f 2) fun b_2 => J.a0 n_0 n_1 b_2 h
  | 1 => asI .i64 (f 0) fun n_0 => asI .i64 (f 1) fun n_1 => asB (f 2) fun b_2 => asB (f 10) fun b_10 => asB (f 12) fun b_12 => asB (f 14) fun b_14 => asB (f 16) fun b_16 => asB (f 18) fun b_18 => asI .u64 (f 19) fun n_19 => J.a1 n_0 n_1 b_2 (f 9) b_10 (f 11) b_12 (f 13) b_14 (f 15) b_16 (f 17) b_18 n_19 h
  | 2 => asI .i64 (f 0) fun n_0 => asI .i64 (f 1) fun n_1 => asB (f 2) fun b_2 => asS (f 7) fun l_7 c_7 => asB (f 10) fun b_10 => asB (f 12) fun b_12 => asB (f 14) fun b_14 => asB (f 16) fun b_16 => J.a2 n_0 n_1 b_2 l_7 c_7 (f 9) b_10 (f 11) b_12 (f 13) b_14 (f 15) b_16 h
  | _ => False
def u13 : Ax := [(.root, 0), ((.r (.r (.r (.r (.r (.r (.r (.r (.r (.r .root)))))))))), 1), ((.r (.r (.r (.r (.r (.r (.r .root))))))), 2)]
section
variable {c : CF} {k : KV} {f : FT} {h : H}
theorem Bb4 (J : J13) (n_0 n_1 : Int) (b_2 : Bool) : zqe c k q13 u13 (f13 J) d13 Tryz.f13 .root (Af (Af (Af f 0 (.int .i64 n_0)) 1 (.int .i64 n_1)) 2 (.bool b_2)) h = Alc c k J n_0 n_1 b_2 h := by kernel_rfl
theorem Bb3 (J : J13) (n_0 n_1 : Int) (b_2 b_10 : Bool) (b_12 b_14 : Bool) (b_16 b_18 : Bool) (n_19 : Int) : zqe c k q13 u13 (f13 J) d13 Tryz.f13 (.r (.r (.r (.r (.r (.r (.r (.r (.r (.r .root)))))))))) (Af (Af (Af (Af (Af (Af (Af (Af (Af f 0 (.int .i64 n_0)) 1 (.int .i64 n_1)) 2 (.bool b_2)) 10 (.bool b_10)) 12 (.bool b_12)) 14 (.bool b_14)) 16 (.bool b_16)) 18 (.bool b_18)) 19 (.int .u64 n_19)) h = Alb c k J n_0 n_1 b_2 (f 9) b_10 (f 11) b_12 (f 13) b_14 (f 15) b_16 (f 17) b_18 n_19 h := by kernel_rfl
theorem Bb2 (J : J13) (n_0 n_1 : Int) (b_2 : Bool) (l_7 c_7 : Nat) (b_10 b_12 : Bool) (b_14 b_16 : Bool) : zqe c k q13 u13 (f13 J) d13 Tryz.f13 (.r (.r (.r (.r (.r (.r (.r .root))))))) (Af (Af (Af (Af (Af (Af (Af (Af f 0 (.int .i64 n_0)) 1 (.int .i64 n_1)) 2 (.bool b_2)) 7 (.str l_7 c_7)) 10 (.bool b_10)) 12 (.bool b_12)) 14 (.bool b_14)) 16 (.bool b_16)) h = Ala c k J n_0 n_1 b_2 l_7 c_7 (f 9) b_10 (f 11) b_12 (f 13) b_14 (f 15) b_16 h := by kernel_rfl
theorem w13 (hc : Bg c) {n : Nat} {a : List AV} (hg : f13 (r13 c k n) 0 (Ab a) h) : zqs 13 a h k :=
 zqw hc q13 Tryz.func13 rfl (by kernel_rfl) (by kernel_rfl) k u13 (fun n => f13 (r13 c k n)) (fun L _ _ hl => match L, hl with
  | 0, hl => Bj hl fun _ hl => Bj hl fun _ hl => Cy hl fun _ hl => hl
  | 1, hl => Bj hl fun _ hl => Bj hl fun _ hl => Cy hl fun _ hl => Cy hl fun _ hl => Cy hl fun _ hl => Cy hl fun _ hl => Cy hl fun _ hl => Cy hl fun _ hl => Bj hl fun _ hl => hl
  | 2, hl => Bj hl fun _ hl => Bj hl fun _ hl => Cy hl fun _ hl => Cq hl fun _ _ hl => Cy hl fun _ hl => Cy hl fun _ hl => Cy hl fun _ hl => Cy hl fun _ hl => hl
  | _ + 3, hl => hl) (fun n => ⟨
  fun f h hl => by
    refine Bi 0 hl fun _ hl => ?_; refine Bi 1 hl fun _ hl => ?_; refine Cw 2 hl fun _ hl => ?_; exact Eq.mpr (Bb4 ..) hl,
  fun f h hl => by
    refine Bi 0 hl fun _ hl => ?_; refine Bi 1 hl fun _ hl => ?_; refine Cw 2 hl fun _ hl => ?_; refine Cw 10 hl fun _ hl => ?_; refine Cw 12 hl fun _ hl => ?_; refine Cw 14 hl fun _ hl => ?_; refine Cw 16 hl fun _ hl => ?_; refine Cw 18 hl fun _ hl => ?_; refine Bi 19 hl fun _ hl => ?_; exact Eq.mpr (Bb3 ..) hl,
  fun f h hl => by
    refine Bi 0 hl fun _ hl => ?_; refine Bi 1 hl fun _ hl => ?_; refine Cw 2 hl fun _ hl => ?_; refine Cp 7 hl fun _ _ hl => ?_; refine Cw 10 hl fun _ hl => ?_; refine Cw 12 hl fun _ hl => ?_; refine Cw 14 hl fun _ hl => ?_; refine Cw 16 hl fun _ hl => ?_; exact Eq.mpr (Bb2 ..) hl,
  trivial⟩) rfl hg
end
theorem g13 {c : CF} {k : KV} {n : Nat} {n_0 n_1 : Int} {b_2 : Bool} {h : H} (hg : Alc c k (r13 c k n) n_0 n_1 b_2 h) : f13 (r13 c k (n + 1)) 0 (Ab [.int .i64 n_0, .int .i64 n_1, .bool b_2]) h := hg
theorem Bao {c : CF} {k : KV} {n : Nat} {x0 x1 : Int} {x2 : Bool} {x3 : AV} {x4 : Bool} {x5 : AV} {x6 : Bool} {x7 : AV} {x8 : Bool} {x9 : AV} {x10 : Bool} {x11 : AV} {x12 : Bool} {x13 : Int} {h : H} (hg : Alb c k (r13 c k n) x0 x1 x2 x3 x4 x5 x6 x7 x8 x9 x10 x11 x12 x13 h) : (r13 c k (n + 1)).a1 x0 x1 x2 x3 x4 x5 x6 x7 x8 x9 x10 x11 x12 x13 h := hg
theorem Ban {c : CF} {k : KV} {n : Nat} {x0 x1 : Int} {x2 : Bool} {x3 x4 : Nat} {x5 : AV} {x6 : Bool} {x7 : AV} {x8 : Bool} {x9 : AV} {x10 : Bool} {x11 : AV} {x12 : Bool} {h : H} (hg : Ala c k (r13 c k n) x0 x1 x2 x3 x4 x5 x6 x7 x8 x9 x10 x11 x12 h) : (r13 c k (n + 1)).a2 x0 x1 x2 x3 x4 x5 x6 x7 x8 x9 x10 x11 x12 h := hg
end Go.Den
