/-
  A part of the proof: the functions, in pieces.
-/
import Derived.Test.YtcnmehbkpaoolaaGreatDoorRunA
noncomputable section
namespace Go.Den
open Go.Proofs
set_option maxRecDepth 100000
def d23 : Code := Option.rec .skip (fun c => c) Tryz.f23.body
def q23 : An := []
structure J23 where
  a0 : Int → Int → H → Prop
def Ak9 (_c : CF) (k : KV) (_J : J23) (n_0 n_1 : Int) (h : H) : Prop :=
 Vb n_0 n_1 fun n1 =>
 fI (wrap .i64 (Cf n1 n_1)) fun n2 =>
 Vb n2 n_1 fun n3 =>
 k (.int .i64 n3) h
def z23 : J23 := ⟨fun _ _ _ => False⟩
def r23 (c : CF) (k : KV) (m : Nat) : J23 := Nat.rec z23 (fun _ J => ⟨Ak9 c k J⟩) m
def f23 (J : J23) : Jump := fun L f h => match L with
  | 0 => asI .i64 (f 0) fun n_0 => asI .i64 (f 1) fun n_1 => J.a0 n_0 n_1 h
  | _ => False
def u23 : Ax := [(.root, 0)]
def d25 : Code := Option.rec .skip (fun c => c) Tryz.f25.body
def q25 : An := []
def u25 : Ax := [(.root, 0)]
def d26 : Code := Option.rec .skip (fun c => c) Tryz.f26.body
def q26 : An := []
structure J26 where
  a0 : AV → H → Prop
def Ak8 (c : CF) (k : KV) (_J : J26) (v_0 : AV) (h : H) : Prop :=
 Hp.Dm h Dd fun p1 h2 =>
 oK (Bt env (env.ty 121) [(0, v_0)] h2) fun v3 h4 =>
 asG v3 fun g5 =>
 chk (Nat.ble 1 (len g5)) <|
 Hp.Dm h4 (rowOf 121 g5) fun p6 h7 =>
 c (.func 49) [(.ptr p6 0), (.bool true)] h7 fun v8 h9 =>
 Hp.Dm h9 Dd fun p10 h11 =>
 stn 2 (.ptr p10 0) v8 h11 fun h12 =>
 oK (Cz (.ptr p6 0) h12) fun v13 h14 =>
 Ao 2 v13 fun v15 =>
 ld1 v15 h14 fun v16 =>
 asB v16 fun b17 =>
 Al (fun k18 => gate false b17
 (oK (Cz (.ptr p6 0) h14) fun v21 h22 =>
 Ao 1 v21 fun v23 =>
 ld1 v23 h22 fun v24 =>
 asI .i64 v24 fun n25 =>
 Gg v_0 fun m26 =>
 k18 (Cs n25 (Int.ofNat m26)) h22)
 (k18 true h14)) fun b20 h19 =>
 cnd b20
 (oK (Bt env (env.ty 55) [] h19) fun v27 h28 =>
 stn 2 (.ptr p1 0) v27 h28 fun h29 =>
 ldn 2 (.ptr p1 0) h29 fun v30 =>
 k (.tuple [v30, (.bool false)]) h29)
 (ldn 2 (.ptr p10 0) h19 fun v31 =>
 stn 2 (.ptr p1 0) v31 h19 fun h32 =>
 ldn 2 (.ptr p1 0) h32 fun v33 =>
 k (.tuple [v33, (.bool true)]) h32)
def z26 : J26 := ⟨fun _ _ => False⟩
def r26 (c : CF) (k : KV) (m : Nat) : J26 := Nat.rec z26 (fun _ J => ⟨Ak8 c k J⟩) m
def f26 (J : J26) : Jump := fun L f h => match L with
  | 0 => J.a0 (f 0) h
  | _ => False
def u26 : Ax := [(.root, 0)]
def d28 : Code := Option.rec .skip (fun c => c) Tryz.f28.body
def q28 : An := []
structure J28 where
  a0 : Int → Bool → H → Prop
  a1 : Bool → Int → Nat → Nat → Nat → Nat → H → Prop
  a2 : Nat → Nat → Nat → Nat → H → Prop
  a3 : Bool → Int → Nat → Nat → H → Prop
def Ak7 (_c : CF) (_k : KV) (J : J28) (n_0 : Int) (b_1 : Bool) (h : H) : Prop :=
 fI (wrap .u64 n_0) fun n1 =>
 Al (fun k2 => gate true (Cs n_0 (Int.ofNat 0))
 (k2 (Ck b_1) h)
 (k2 false h)) fun b4 h3 =>
 cnd b4
 (oV (unA .neg (.int .u64 n1)) fun v5 =>
 asI .u64 v5 fun n6 =>
 fI (wrap .u64 (Kv n6 (Int.ofNat 1))) fun n7 =>
 J.a3 b_1 n7 1 126 h3)
 (J.a3 b_1 n1 0 0 h3)
def Aaz (_c : CF) (_k : KV) (J : J28) (b_1 : Bool) (n_5 : Int) (l_6 c_6 : Nat) (l_7 c_7 : Nat) (h : H) : Prop :=
 Al (fun k8 => gate false (Cs (Int.ofNat 0) n_5)
 (k8 (Bm l_7 c_7 0 0) h)
 (k8 true h)) fun b10 h9 =>
 cnd b10
 (Vb n_5 (Int.ofNat 10) fun n11 =>
 fI (wrap .u64 (Cf (Int.ofNat 48) n11)) fun n12 =>
 fI (wrap .u8 n12) fun n13 =>
 oK (Ak env 115 (fun e ei => Ae 1 [(0, (.int .u8 n13))] h9 e ei)) fun v14 h15 =>
 oK (Ie env h15 115 9 v14) fun v16 h17 =>
 asS v16 fun l18 c19 =>
 Dn l18 c19 l_7 c_7 fun l20 c21 =>
 Sf .u64 n_5 (Int.ofNat 10) fun n22 =>
 J.a1 b_1 n22 l_6 c_6 l20 c21 h17)
 (cnd b_1
 (Dn l_7 c_7 1 117 fun l23 c24 =>
 J.a2 l_6 c_6 l23 c24 h9)
 (J.a2 l_6 c_6 l_7 c_7 h9))
def Af4 (_c : CF) (k : KV) (_J : J28) (l_6 c_6 : Nat) (l_7 c_7 : Nat) (h : H) : Prop :=
 Dn l_6 c_6 l_7 c_7 fun l25 c26 =>
 k (.str l25 c26) h
def Ak6 (_c : CF) (_k : KV) (J : J28) (b_1 : Bool) (n_5 : Int) (l_6 c_6 : Nat) (h : H) : Prop :=
 J.a1 b_1 n_5 l_6 c_6 0 0 h
def z28 : J28 := ⟨fun _ _ _ => False, fun _ _ _ _ _ _ _ => False, fun _ _ _ _ _ => False, fun _ _ _ _ _ => False⟩
def r28 (c : CF) (k : KV) (m : Nat) : J28 := Nat.rec z28 (fun _ J => ⟨Ak7 c k J, Aaz c k J, Af4 c k J, Ak6 c k J⟩) m
def f28 (J : J28) : Jump := fun L f h => match L with
  | 0 => asI .i64 (f 0) fun n_0 => asB (f 1) fun b_1 => J.a0 n_0 b_1 h
  | 1 => asB (f 1) fun b_1 => asI .u64 (f 5) fun n_5 => asS (f 6) fun l_6 c_6 => asS (f 7) fun l_7 c_7 => J.a1 b_1 n_5 l_6 c_6 l_7 c_7 h
  | 2 => asS (f 6) fun l_6 c_6 => asS (f 7) fun l_7 c_7 => J.a2 l_6 c_6 l_7 c_7 h
  | 3 => asB (f 1) fun b_1 => asI .u64 (f 5) fun n_5 => asS (f 6) fun l_6 c_6 => J.a3 b_1 n_5 l_6 c_6 h
  | _ => False
def u28 : Ax := [(.root, 0), ((.l (.l (.r (.r (.r (.r (.r .root))))))), 1), ((.r (.r (.r (.r (.r (.r (.r .root))))))), 2), ((.r (.r (.r (.r .root)))), 3)]
def d29 : Code := Option.rec .skip (fun c => c) Tryz.f29.body
def q29 : An := []
structure J29 where
  a0 : Nat → Nat → H → Prop
def Ak5 (c : CF) (k : KV) (_J : J29) (l_0 c_0 : Nat) (h : H) : Prop :=
 c (.func 46) [(.str 1 102), (.str l_0 c_0)] h fun v1 h2 =>
 ext 0 v1 fun v3 =>
 ext 1 v1 fun _ =>
 Gg v3 fun m5 =>
 cnd (Av (Int.ofNat m5) (Int.ofNat 0))
 (k .Cd h2)
 (Cc 4 0 v3 fun v6 =>
 Ao 0 v6 fun v7 =>
 ld1 v7 h2 fun v8 =>
 k v8 h2)
def z29 : J29 := ⟨fun _ _ _ => False⟩
def r29 (c : CF) (k : KV) (m : Nat) : J29 := Nat.rec z29 (fun _ J => ⟨Ak5 c k J⟩) m
def f29 (J : J29) : Jump := fun L f h => match L with
  | 0 => asS (f 0) fun l_0 c_0 => J.a0 l_0 c_0 h
  | _ => False
def u29 : Ax := [(.root, 0)]
def d30 : Code := Option.rec .skip (fun c => c) Tryz.f30.body
def q30 : An := []
def u30 : Ax := [(.root, 0), ((.l (.r (.l (.r (.r .root))))), 1), ((.r (.r (.l (.l (.r (.l (.r (.r .root)))))))), 2)]
def d31 : Code := Option.rec .skip (fun c => c) Tryz.f31.body
def q31 : An := [(5, [0, 1, 2]), (10, [0, 1, 2]), (14, [0, 1, 2, 3, 4, 5, 6, 7, 8])]
def u31 : Ax := [(.root, 0), ((.r (.r (.r (.r (.r (.r (.r (.r (.r (.r .root)))))))))), 1), ((.r (.l (.r (.r (.r (.r (.r (.r (.r (.r (.r .root))))))))))), 2)]
def d32 : Code := Option.rec .skip (fun c => c) Tryz.f32.body
def q32 : An := []
def u32 : Ax := [(.root, 0)]
def d46 : Code := Option.rec .skip (fun c => c) Tryz.f46.body
def q46 : An := [(20, [0, 1, 2, 3, 4, 5, 6, 7, 8, 9, 10, 11, 12, 13, 14, 15, 16, 17]), (27, [0, 1, 2, 3, 4, 5, 6, 7, 8, 9, 10, 11, 12, 13, 14]), (28, [0, 1, 2, 3, 4, 5, 6, 8, 9, 7, 10, 11, 12, 13, 14])]
structure J46 where
  a0 : Nat → Nat → Nat → Nat → H → Prop
  a1 : Nat → Nat → Nat → Nat → AV → AV → AV → AV → Bool → Int → H → Prop
  a2 : Nat → Nat → Nat → Nat → AV → AV → AV → AV → Int → H → Prop
  a3 : AV → AV → H → Prop
  a4 : Nat → Nat → AV → AV → AV → H → Prop
  a5 : Nat → Nat → Nat → Nat → AV → AV → AV → AV → Bool → Int → Int → Int → Bool → H → Prop
def Ak4 (c : CF) (_k : KV) (J : J46) (l_0 c_0 : Nat) (l_1 c_1 : Nat) (h : H) : Prop :=
 c (.func 77) [(.str l_1 c_1)] h fun v1 h2 =>
 Hp.Dm h2 Aqn fun p3 h4 =>
 J.a1 l_0 c_0 l_1 c_1 v1 .Cd .Cd (.ptr p3 0) false (Int.ofNat 0) h4
def Vl (c : CF) (_k : KV) (J : J46) (l_0 c_0 : Nat) (l_1 c_1 : Nat) (v_6 v_7 : AV) (v_8 v_9 : AV) (b_10 : Bool) (n_11 : Int) (h : H) : Prop :=
 Gg v_6 fun m5 =>
 cnd (Cs n_11 (Int.ofNat m5))
 (De n_11 fun m6 =>
 Cc 3 m6 v_6 fun v7 =>
 Ao 0 v7 fun v8 =>
 ld1 v8 h fun v9 =>
 asI .u8 v9 fun n10 =>
 cnd (Av n10 (Int.ofNat 10))
 (De n_11 fun m11 =>
 Cc 3 m11 v_6 fun v12 =>
 Ao 2 v12 fun v13 =>
 ld1 v13 h fun v14 =>
 asI .i64 v14 fun n15 =>
 Ao 2 v_9 fun v16 =>
 st1 v16 (.int .i64 n15) h fun h17 =>
 ldn 4 v_9 h17 fun v18 =>
 oK (Ak env 110 (fun e ei => Ae 1 [(0, v18)] h17 e ei)) fun v19 h20 =>
 oK (Bw env .append [110, 110] [v_7, v19] h20) fun v21 h22 =>
 De n_11 fun m23 =>
 Cc 3 m23 v_6 fun v24 =>
 Ao 2 v24 fun v25 =>
 ld1 v25 h22 fun v26 =>
 asI .i64 v26 fun n27 =>
 oK (Bt env (env.ty 114) [(1, (.int .i64 n27))] h22) fun v28 h29 =>
 stn 4 v_9 v28 h29 fun h30 =>
 fI (wrap .i64 (Cf n_11 (Int.ofNat 1))) fun n31 =>
 J.a1 l_0 c_0 l_1 c_1 v_6 v21 v_8 v_9 false n31 h30)
 (De n_11 fun m32 =>
 Cc 3 m32 v_6 fun v33 =>
 Ao 0 v33 fun v34 =>
 ld1 v34 h fun v35 =>
 asI .u8 v35 fun n36 =>
 c (.func 78) [(.int .u8 n36)] h fun v37 h38 =>
 asB v37 fun b39 =>
 cnd b39
 (fI (wrap .i64 (Cf n_11 (Int.ofNat 1))) fun n40 =>
 J.a1 l_0 c_0 l_1 c_1 v_6 v_7 v_8 v_9 true n40 h38)
 (c (.func 79) [v_6, (.int .i64 n_11)] h38 fun v41 h42 =>
 ext 0 v41 fun v43 =>
 asI .i64 v43 fun n44 =>
 ext 1 v41 fun v45 =>
 asB v45 fun b46 =>
 cnd (Cs n_11 n44)
 (cnd b46
 (De n_11 fun m47 =>
 Cc 3 m47 v_6 fun v48 =>
 Ao 1 v48 fun v49 =>
 ld1 v49 h42 fun v50 =>
 asI .i64 v50 fun n51 =>
 fI (wrap .i64 (Cf n_11 (Int.ofNat 1))) fun n52 =>
 De n52 fun m53 =>
 Cc 3 m53 v_6 fun v54 =>
 Ao 2 v54 fun v55 =>
 ld1 v55 h42 fun v56 =>
 asI .i64 v56 fun n57 =>
 oK (Bt env (env.ty 38) [(0, (.str l_0 c_0)), (1, (.int .i64 n51)), (2, (.int .i64 n57))] h42) fun v58 h59 =>
 oK (Bt env (env.ty 48) [(0, (.int .i64 (Int.ofNat 1))), (1, v58)] h59) fun v60 h61 =>
 oK (Ak env 26 (fun e ei => Ae 1 [(0, v60)] h61 e ei)) fun v62 h63 =>
 oK (Bw env .append [26, 26] [v_8, v62] h63) fun v64 h65 =>
 J.a4 l_1 c_1 v_7 v64 v_9 h65)
 (J.a1 l_0 c_0 l_1 c_1 v_6 v_7 v_8 v_9 true n44 h42))
 (c (.func 80) [v_6, (.int .i64 n_11)] h42 fun v66 h67 =>
 ext 0 v66 fun v68 =>
 asI .i64 v68 fun n69 =>
 ext 1 v66 fun v70 =>
 asI .i64 v70 fun n71 =>
 ext 2 v66 fun v72 =>
 asB v72 fun b73 =>
 J.a5 l_0 c_0 l_1 c_1 v_6 v_7 v_8 v_9 b_10 n_11 n69 n71 b73 h67))))
 (Gg v_7 fun m74 =>
 cnd (Cs (Int.ofNat 0) (Int.ofNat m74))
 (Gg v_7 fun m75 =>
 fI (wrap .i64 (Kv (Int.ofNat m75) (Int.ofNat 1))) fun n76 =>
 De n76 fun m77 =>
 Cc 4 m77 v_7 fun v78 =>
 Ao 2 v78 fun v79 =>
 st1 v79 (.int .i64 (Int.ofNat l_1)) h fun h80 =>
 J.a3 v_7 v_8 h80)
 (J.a3 v_7 v_8 h))
def Ak3 (_c : CF) (_k : KV) (J : J46) (l_0 c_0 : Nat) (l_1 c_1 : Nat) (v_6 v_7 : AV) (v_8 v_9 : AV) (n_15 : Int) (h : H) : Prop :=
 J.a1 l_0 c_0 l_1 c_1 v_6 v_7 v_8 v_9 false n_15 h
def Ak2 (_c : CF) (k : KV) (_J : J46) (v_7 v_8 : AV) (h : H) : Prop :=
 k (.tuple [v_7, v_8]) h
def Axy (_c : CF) (k : KV) (_J : J46) (l_1 _c_1 : Nat) (v_7 v_8 v_9 : AV) (h : H) : Prop :=
 Ao 2 v_9 fun v81 =>
 st1 v81 (.int .i64 (Int.ofNat l_1)) h fun h82 =>
 Ao 3 v_9 fun v83 =>
 st1 v83 (.bool true) h82 fun h84 =>
 ldn 4 v_9 h84 fun v85 =>
 oK (Ak env 110 (fun e ei => Ae 1 [(0, v85)] h84 e ei)) fun v86 h87 =>
 oK (Bw env .append [110, 110] [v_7, v86] h87) fun v88 h89 =>
 k (.tuple [v88, v_8]) h89
def Ak1 (c : CF) (_k : KV) (J : J46) (l_0 c_0 : Nat) (l_1 c_1 : Nat) (v_6 v_7 : AV) (v_8 v_9 : AV) (b_10 : Bool) (n_11 n_14 n_15 : Int) (b_16 : Bool) (h : H) : Prop :=
 De n_11 fun m90 =>
 Cc 3 m90 v_6 fun v91 =>
 Ao 1 v91 fun v92 =>
 ld1 v92 h fun v93 =>
 asI .i64 v93 fun n94 =>
 fI (wrap .i64 (Kv n_15 (Int.ofNat 1))) fun n95 =>
 De n95 fun m96 =>
 Cc 3 m96 v_6 fun v97 =>
 Ao 2 v97 fun v98 =>
 ld1 v98 h fun v99 =>
 asI .i64 v99 fun n100 =>
 oK (Bt env (env.ty 38) [(0, (.str l_0 c_0)), (1, (.int .i64 n94)), (2, (.int .i64 n100))] h) fun v101 h102 =>
 Hp.Dm h102 Aqm fun p103 h104 =>
 ld1 v92 h104 fun v105 =>
 asI .i64 v105 fun n106 =>
 eqC (.int .i64 n106) (.int .i64 n94) <|
 ld1 v98 h104 fun v107 =>
 asI .i64 v107 fun n108 =>
 eqC (.int .i64 n108) (.int .i64 n100) <|
 stn 3 (.ptr p103 0) v101 h104 fun h109 =>
 Ao 0 v_9 fun v110 =>
 ld1 v110 h109 fun v111 =>
 oK (slice3 env h109 171 v_6 (some (Bn (.int .i64 n_11))) (some (Bn (.int .i64 n_15))) none) fun v112 h113 =>
 ldn 3 (.ptr p103 0) h113 fun v114 =>
 c (.func 81) [v112] h113 fun v115 h116 =>
 asS v115 fun l117 A6i =>
 ld1 v110 h116 fun v119 =>
 eqC v119 v111 <|
 ldn 3 (.ptr p103 0) h116 fun v120 =>
 eqC v120 v114 <|
 oK (Bt env (env.ty 43) [(0, (.int .i64 n_14)), (1, (.str l117 A6i)), (2, (.bool b_10)), (3, v114)] h116) fun v121 h122 =>
 oK (Ak env 22 (fun e ei => Ae 1 [(0, v121)] h122 e ei)) fun v123 h124 =>
 ld1 v110 h124 fun v125 =>
 eqC v125 v111 <|
 oK (Bw env .append [22, 22] [v111, v123] h124) fun v126 h127 =>
 Ao 0 v_9 fun v128 =>
 st1 v128 v126 h127 fun h129 =>
 cnd b_16
 (ldn 3 (.ptr p103 0) h129 fun v130 =>
 oK (Bt env (env.ty 48) [(0, (.int .i64 (Int.ofNat 2))), (1, v130)] h129) fun v131 h132 =>
 oK (Ak env 26 (fun e ei => Ae 1 [(0, v131)] h132 e ei)) fun v133 h134 =>
 oK (Bw env .append [26, 26] [v_8, v133] h134) fun v135 h136 =>
 J.a2 l_0 c_0 l_1 c_1 v_6 v_7 v135 v_9 n_15 h136)
 (J.a2 l_0 c_0 l_1 c_1 v_6 v_7 v_8 v_9 n_15 h129)
def z46 : J46 := ⟨fun _ _ _ _ _ => False, fun _ _ _ _ _ _ _ _ _ _ _ => False, fun _ _ _ _ _ _ _ _ _ _ => False, fun _ _ _ => False, fun _ _ _ _ _ _ => False, fun _ _ _ _ _ _ _ _ _ _ _ _ _ _ => False⟩
def r46 (c : CF) (k : KV) (m : Nat) : J46 := Nat.rec z46 (fun _ J => ⟨Ak4 c k J, Vl c k J, Ak3 c k J, Ak2 c k J, Axy c k J, Ak1 c k J⟩) m
def f46 (J : J46) : Jump := fun L f h => match L with
  | 0 => asS (f 0) fun l_0 c_0 => asS (f 1) fun l_1 c_1 => J.a0 l_0 c_0 l_1 c_1 h
  | 1 => asS (f 0) fun l_0 c_0 => asS (f 1) fun l_1 c_1 => asB (f 10) fun b_10 => asI .i64 (f 11) fun n_11 => J.a1 l_0 c_0 l_1 c_1 (f 6) (f 7) (f 8) (f 9) b_10 n_11 h
  | 2 => asS (f 0) fun l_0 c_0 => asS (f 1) fun l_1 c_1 => asI .i64 (f 15) fun n_15 => J.a2 l_0 c_0 l_1 c_1 (f 6) (f 7) (f 8) (f 9) n_15 h
  | 3 => J.a3 (f 7) (f 8) h
  | 4 => asS (f 1) fun l_1 c_1 => J.a4 l_1 c_1 (f 7) (f 8) (f 9) h
  | 5 => asS (f 0) fun l_0 c_0 => asS (f 1) fun l_1 c_1 => asB (f 10) fun b_10 => asI .i64 (f 11) fun n_11 => asI .i64 (f 14) fun n_14 => asI .i64 (f 15) fun n_15 => asB (f 16) fun b_16 => J.a5 l_0 c_0 l_1 c_1 (f 6) (f 7) (f 8) (f 9) b_10 n_11 n_14 n_15 b_16 h
  | _ => False
def u46 : Ax := [(.root, 0), ((.l (.r (.l (.r (.r (.r (.r (.r (.r .root))))))))), 1), ((.r (.r (.r (.r (.r (.r (.r (.r (.l (.r (.l (.l (.r (.l (.r (.r (.r (.r (.r (.r .root)))))))))))))))))))), 2), ((.r (.r (.r (.r (.r (.r (.r (.r .root)))))))), 3), ((.r (.l (.r (.l (.l (.r (.l (.r (.r (.r (.l (.r (.l (.l (.r (.l (.r (.r (.r (.r (.r (.r .root)))))))))))))))))))))), 4), ((.r (.r (.r (.r (.r (.l (.r (.l (.l (.r (.l (.r (.r (.r (.r (.r (.r .root))))))))))))))))), 5)]
def d47 : Code := Option.rec .skip (fun c => c) Tryz.f47.body
def q47 : An := []
def u47 : Ax := [(.root, 0), ((.l (.l (.r (.r (.r .root))))), 1), ((.r (.r (.r (.r (.r (.r (.r (.l (.r (.l (.l (.l (.r (.r (.r .root))))))))))))))), 2)]
def d48 : Code := Option.rec .skip (fun c => c) Tryz.f48.body
def q48 : An := []
def u48 : Ax := [(.root, 0), ((.l (.r (.l (.r (.r .root))))), 1), ((.r (.l (.l (.r (.l (.l (.r (.l (.r (.r .root)))))))))), 2)]
def d49 : Code := Option.rec .skip (fun c => c) Tryz.f49.body
def q49 : An := []
structure J49 where
  a0 : AV → Bool → H → Prop
  a1 : AV → AV → Bool → H → Prop
  a2 : AV → AV → AV → Bool → Bool → H → Prop
def Ak0 (c : CF) (k : KV) (J : J49) (v_0 : AV) (b_1 : Bool) (h : H) : Prop :=
 Hp.Dm h Dd fun p1 h2 =>
 c (.func 87) [v_0, (.int .i64 (Int.ofNat 1)), (.bool b_1)] h2 fun v3 h4 =>
 Hp.Dm h4 Dd fun p5 h6 =>
 stn 2 (.ptr p5 0) v3 h6 fun h7 =>
 oK (Cz v_0 h7) fun v8 h9 =>
 Ao 2 v8 fun v10 =>
 ld1 v10 h9 fun v11 =>
 asB v11 fun b12 =>
 Al (fun k13 => gate false b12
 (c (.func 88) [v_0, (.str 1 63)] h9 fun v16 h17 =>
 asB v16 fun b18 =>
 k13 (Ck b18) h17)
 (k13 true h9)) fun b15 h14 =>
 cnd b15
 (ldn 2 (.ptr p5 0) h14 fun v19 =>
 stn 2 (.ptr p1 0) v19 h14 fun h20 =>
 ldn 2 (.ptr p1 0) h20 fun v21 =>
 k v21 h20)
 (Al (fun k22 => gate true b_1
 (Ao 0 (.ptr p5 0) fun v25 =>
 ld1 v25 h14 fun v26 =>
 asI .u64 v26 fun n27 =>
 k22 (Ck (Av n27 (Int.ofNat 0))) h14)
 (k22 false h14)) fun b24 h23 =>
 c (.func 49) [v_0, (.bool b24)] h23 fun v28 h29 =>
 Hp.Dm h29 Dd fun p30 h31 =>
 stn 2 (.ptr p30 0) v28 h31 fun h32 =>
 oK (Cz v_0 h32) fun v33 h34 =>
 Ao 2 v33 fun v35 =>
 ld1 v35 h34 fun v36 =>
 asB v36 fun b37 =>
 Al (fun k38 => gate false b37
 (c (.func 88) [v_0, (.str 1 58)] h34 fun v41 h42 =>
 asB v41 fun b43 =>
 k38 (Ck b43) h42)
 (k38 true h34)) fun b40 h39 =>
 cnd b40
 (oK (Cz v_0 h39) fun v44 h45 =>
 Ao 2 v44 fun v46 =>
 st1 v46 (.bool true) h45 fun h47 =>
 ldn 2 (.ptr p5 0) h47 fun v48 =>
 stn 2 (.ptr p1 0) v48 h47 fun h49 =>
 ldn 2 (.ptr p1 0) h49 fun v50 =>
 k v50 h49)
 (Al (fun k51 => gate true b_1
 (Ao 0 (.ptr p5 0) fun v54 =>
 ld1 v54 h39 fun v55 =>
 asI .u64 v55 fun n56 =>
 k51 (Av n56 (Int.ofNat 0)) h39)
 (k51 false h39)) fun b53 h52 =>
 c (.func 49) [v_0, (.bool b53)] h52 fun v57 h58 =>
 Hp.Dm h58 Dd fun p59 h60 =>
 stn 2 (.ptr p59 0) v57 h60 fun h61 =>
 Ao 1 (.ptr p30 0) fun v62 =>
 ld1 v62 h61 fun v63 =>
 asB v63 fun b64 =>
 Al (fun k65 => gate false b64
 (Ao 1 (.ptr p59 0) fun v68 =>
 ld1 v68 h61 fun v69 =>
 asB v69 fun b70 =>
 k65 b70 h61)
 (k65 true h61)) fun b67 h66 =>
 Ao 0 (.ptr p5 0) fun v71 =>
 ld1 v71 h66 fun v72 =>
 asI .u64 v72 fun n73 =>
 J.a2 (.ptr p1 0) (.ptr p30 0) (.ptr p59 0) b67 (Av n73 (Int.ofNat 0)) h66))
def Akz (_c : CF) (k : KV) (_J : J49) (v_4 v_6 : AV) (b_8 : Bool) (h : H) : Prop :=
 Ao 0 v_6 fun v74 =>
 ld1 v74 h fun v75 =>
 asI .u64 v75 fun n76 =>
 oK (Bt env (env.ty 55) [(0, (.int .u64 n76)), (1, (.bool b_8))] h) fun v77 h78 =>
 stn 2 v_4 v77 h78 fun h79 =>
 ldn 2 v_4 h79 fun v80 =>
 k v80 h79
def Aky (_c : CF) (_k : KV) (J : J49) (v_4 v_6 v_7 : AV) (b_8 b_59 : Bool) (h : H) : Prop :=
 cnd b_59
 (ldn 2 v_7 h fun v81 =>
 stn 2 v_6 v81 h fun h82 =>
 J.a1 v_4 v_6 b_8 h82)
 (J.a1 v_4 v_6 b_8 h)
def z49 : J49 := ⟨fun _ _ _ => False, fun _ _ _ _ => False, fun _ _ _ _ _ _ => False⟩
def r49 (c : CF) (k : KV) (m : Nat) : J49 := Nat.rec z49 (fun _ J => ⟨Ak0 c k J, Akz c k J, Aky c k J⟩) m
def f49 (J : J49) : Jump := fun L f h => match L with
  | 0 => asB (f 1) fun b_1 => J.a0 (f 0) b_1 h
  | 1 => asB (f 8) fun b_8 => J.a1 (f 4) (f 6) b_8 h
  | 2 => asB (f 8) fun b_8 => asB (f 59) fun b_59 => J.a2 (f 4) (f 6) (f 7) b_8 b_59 h
  | _ => False
def u49 : Ax := [(.root, 0), ((.r (.r (.r (.r (.r (.r (.r (.r .root)))))))), 1), ((.r (.l (.r (.r (.r (.r (.r (.r (.r .root))))))))), 2)]
def d51 : Code := Option.rec .skip (fun c => c) Tryz.f51.body
def q51 : An := []
def u51 : Ax := [(.root, 0)]
def d52 : Code := Option.rec .skip (fun c => c) Tryz.f52.body
def q52 : An := [(7, [0, 1, 2, 3, 4, 5, 6, 7, 8, 9, 10])]
def u52 : Ax := [(.root, 0), ((.r (.r (.r (.r (.r (.r (.r (.r (.r .root))))))))), 1), ((.r (.r (.r (.r (.r (.r (.r .root))))))), 2), ((.r (.l (.r (.r (.r (.r (.r (.r .root)))))))), 3)]
def d53 : Code := Option.rec .skip (fun c => c) Tryz.f53.body
def q53 : An := [(5, [0, 1, 2, 3, 4, 5, 6]), (6, [0, 1, 2, 3, 4, 5, 6, 7, 8, 9])]
def u53 : Ax := [(.root, 0)]
def d54 : Code := Option.rec .skip (fun c => c) Tryz.f54.body
def q54 : An := []
def u54 : Ax := [(.root, 0)]
def d55 : Code := Option.rec .skip (fun c => c) Tryz.f55.body
def q55 : An := [(6, [0, 1, 2, 3, 4, 5, 6, 7, 8, 9]), (7, [0, 2, 3, 4, 5, 6, 7, 9, 12, 1, 10, 8, 11, 13, 14, 15, 16])]
def u55 : Ax := [(.root, 0), ((.r (.r (.r (.r (.r .root))))), 1)]
def d56 : Code := Option.rec .skip (fun c => c) Tryz.f56.body
def q56 : An := [(5, [0, 1, 2, 3, 4, 5, 6, 7, 8, 9, 10, 11]), (12, [0, 1, 2, 3, 4, 5, 6, 7, 8, 9, 10, 11, 12, 13, 14, 15, 16, 17, 18, 19, 20, 23, 21, 22, 24, 25, 26, 27, 28]), (4294967294, [9]), (4294967295, [89])]
def u56 : Ax := [(.root, 0), ((.l (.r (.l (.r (.r (.r .root)))))), 1)]
def d57 : Code := Option.rec .skip (fun c => c) Tryz.f57.body
def q57 : An := []
def u57 : Ax := [(.root, 0)]
def d58 : Code := Option.rec .skip (fun c => c) Tryz.f58.body
def q58 : An := []
def u58 : Ax := [(.root, 0)]
def d64 : Code := Option.rec .skip (fun c => c) Tryz.f64.body
def q64 : An := [(5, [0, 1, 2, 3, 4])]
structure J64 where
  a0 : Nat → Nat → H → Prop
  a1 : AV → Nat → Nat → Bool → Bool → Int → Nat → Nat → H → Prop
def Akx (c : CF) (_k : KV) (J : J64) (l_0 c_0 : Nat) (h : H) : Prop :=
 Hp.Dm h Dd fun p1 h2 =>
 c (.func 112) [(.str l_0 c_0), (.str 4 1282168181)] h2 fun v3 h4 =>
 asS v3 fun l5 c6 =>
 Oo l_0 c_0 l5 l_0 fun l7 c8 =>
 c (.func 113) [(.str l7 c8)] h4 fun v9 h10 =>
 ext 0 v9 fun v11 =>
 asB v11 fun b12 =>
 ext 1 v9 fun v13 =>
 asB v13 fun b14 =>
 c (.func 114) [(.str l5 c6)] h10 fun v15 h16 =>
 asB v15 fun b17 =>
 cnd b17
 (Oo l5 c6 2 l5 fun l18 c19 =>
 J.a1 (.ptr p1 0) l18 c19 b12 b14 (Int.ofNat 16) 22 26291342665239622251265189840170011249128153612955952 h16)
 (c (.func 115) [(.str l5 c6), (.str 1 48)] h16 fun v20 h21 =>
 asB v20 fun b22 =>
 cnd b22
 (J.a1 (.ptr p1 0) l5 c6 b12 b14 (Int.ofNat 8) 8 3978425819141910832 h21)
 (J.a1 (.ptr p1 0) l5 c6 b12 b14 (Int.ofNat 10) 10 270211885617516653982000 h21))
def Akw (c : CF) (k : KV) (_J : J64) (v_2 : AV) (l_4 c_4 : Nat) (b_5 b_6 : Bool) (n_7 : Int) (l_8 c_8 : Nat) (h : H) : Prop :=
 Al (fun k23 => gate false (Ck b_6)
 (k23 (Bm l_4 c_4 0 0) h)
 (k23 true h)) fun b25 h24 =>
 Al (fun k26 => gate false b25
 (c (.func 116) [(.str l_4 c_4), (.str l_8 c_8)] h24 fun v29 h30 =>
 asI .i64 v29 fun n31 =>
 k26 (Ck (Av n31 (Int.ofNat l_4))) h30)
 (k26 true h24)) fun b28 h27 =>
 cnd b28
 (oK (Bt env (env.ty 55) [] h27) fun v32 h33 =>
 stn 2 v_2 v32 h33 fun h34 =>
 ldn 2 v_2 h34 fun v35 =>
 k (.tuple [v35, (.bool false)]) h34)
 (c (.func 117) [(.str l_4 c_4), (.int .i64 n_7), (.int .i64 (Int.ofNat 64))] h27 fun v36 h37 =>
 ext 0 v36 fun v38 =>
 asI .u64 v38 fun n39 =>
 ext 1 v36 fun v40 =>
 oV (Hi env .neq 151 v40 .Il) fun v41 =>
 asB v41 fun b42 =>
 cnd b42
 (oK (Bt env (env.ty 55) [] h37) fun v43 h44 =>
 stn 2 v_2 v43 h44 fun h45 =>
 ldn 2 v_2 h45 fun v46 =>
 k (.tuple [v46, (.bool false)]) h45)
 (Al (fun k47 => gate false b_5
 (k47 (Cs (Int.ofNat 9223372036854775807) n39) h37)
 (k47 true h37)) fun b49 h48 =>
 oK (Bt env (env.ty 55) [(0, (.int .u64 n39)), (1, (.bool b49))] h48) fun v50 h51 =>
 stn 2 v_2 v50 h51 fun h52 =>
 ldn 2 v_2 h52 fun v53 =>
 k (.tuple [v53, (.bool true)]) h52))
def z64 : J64 := ⟨fun _ _ _ => False, fun _ _ _ _ _ _ _ _ _ => False⟩
def r64 (c : CF) (k : KV) (m : Nat) : J64 := Nat.rec z64 (fun _ J => ⟨Akx c k J, Akw c k J⟩) m
def f64 (J : J64) : Jump := fun L f h => match L with
  | 0 => asS (f 0) fun l_0 c_0 => J.a0 l_0 c_0 h
  | 1 => asS (f 4) fun l_4 c_4 => asB (f 5) fun b_5 => asB (f 6) fun b_6 => asI .i64 (f 7) fun n_7 => asS (f 8) fun l_8 c_8 => J.a1 (f 2) l_4 c_4 b_5 b_6 n_7 l_8 c_8 h
  | _ => False
def u64 : Ax := [(.root, 0), ((.r (.r (.r (.r (.r .root))))), 1)]
def d77 : Code := Option.rec .skip (fun c => c) Tryz.f77.body
def q77 : An := []
structure J77 where
  a0 : Nat → Nat → H → Prop
def Akv (c : CF) (k : KV) (_J : J77) (l_0 c_0 : Nat) (h : H) : Prop :=
 c (.func 128) [(.str l_0 c_0)] h fun v1 h2 =>
 c (.func 127) [v1] h2 fun v3 h4 =>
 Al (fun k5 => gate true (Cs (Int.ofNat 0) (Int.ofNat l_0))
 (Gg v3 fun m8 =>
 Al (fun k9 => gate false (Av (Int.ofNat m8) (Int.ofNat 0))
 (Gg v3 fun m12 =>
 fI (wrap .i64 (Kv (Int.ofNat m12) (Int.ofNat 1))) fun n13 =>
 De n13 fun m14 =>
 Cc 3 m14 v3 fun v15 =>
 Ao 0 v15 fun v16 =>
 ld1 v16 h4 fun v17 =>
 asI .u8 v17 fun n18 =>
 k9 (Ck (Av n18 (Int.ofNat 10))) h4)
 (k9 true h4)) fun b11 h10 =>
 k5 b11 h10)
 (k5 false h4)) fun b7 h6 =>
 cnd b7
 (oK (Bt env (env.ty 174) [(0, (.int .u8 (Int.ofNat 10))), (1, (.int .i64 (Int.ofNat l_0))), (2, (.int .i64 (Int.ofNat l_0)))] h6) fun v19 h20 =>
 oK (Ak env 171 (fun e ei => Ae 1 [(0, v19)] h20 e ei)) fun v21 h22 =>
 oK (Bw env .append [171, 171] [v3, v21] h22) fun v23 h24 =>
 k v23 h24)
 (k v3 h6)
def z77 : J77 := ⟨fun _ _ _ => False⟩
def r77 (c : CF) (k : KV) (m : Nat) : J77 := Nat.rec z77 (fun _ J => ⟨Akv c k J⟩) m
def f77 (J : J77) : Jump := fun L f h => match L with
  | 0 => asS (f 0) fun l_0 c_0 => J.a0 l_0 c_0 h
  | _ => False
def u77 : Ax := [(.root, 0)]
def d78 : Code := Option.rec .skip (fun c => c) Tryz.f78.body
def q78 : An := []
structure J78 where
  a0 : Int → H → Prop
def Aku (_c : CF) (k : KV) (_J : J78) (n_0 : Int) (h : H) : Prop :=
 Al (fun k1 => gate false (Av n_0 (Int.ofNat 32))
 (k1 (Av n_0 (Int.ofNat 9)) h)
 (k1 true h)) fun b3 h2 =>
 Al (fun k4 => gate false b3
 (Al (fun k7 => gate true (Gu (Int.ofNat 11) n_0)
 (k7 (Gu n_0 (Int.ofNat 13)) h2)
 (k7 false h2)) fun b9 h8 =>
 k4 b9 h8)
 (k4 true h2)) fun b6 h5 =>
 k (.bool b6) h5
def z78 : J78 := ⟨fun _ _ => False⟩
def r78 (c : CF) (k : KV) (m : Nat) : J78 := Nat.rec z78 (fun _ J => ⟨Aku c k J⟩) m
def f78 (J : J78) : Jump := fun L f h => match L with
  | 0 => asI .u8 (f 0) fun n_0 => J.a0 n_0 h
  | _ => False
def u78 : Ax := [(.root, 0)]
def d79 : Code := Option.rec .skip (fun c => c) Tryz.f79.body
def q79 : An := []
structure J79 where
  a0 : AV → Int → H → Prop
  a1 : AV → Int → H → Prop
  a2 : AV → Int → H → Prop
def Af3 (c : CF) (k : KV) (J : J79) (v_0 : AV) (n_1 : Int) (h : H) : Prop :=
 c (.func 129) [v_0, (.int .i64 n_1)] h fun v1 h2 =>
 asI .u8 v1 fun n3 =>
 cnd (Ck (Av n3 (Int.ofNat 47)))
 (k (.tuple [(.int .i64 n_1), (.bool false)]) h2)
 (fI (wrap .i64 (Cf n_1 (Int.ofNat 1))) fun n4 =>
 c (.func 129) [v_0, (.int .i64 n4)] h2 fun v5 h6 =>
 asI .u8 v5 fun n7 =>
 cnd (Av n7 (Int.ofNat 47))
 (J.a1 v_0 n_1 h6)
 (fI (wrap .i64 (Cf n_1 (Int.ofNat 1))) fun n8 =>
 c (.func 129) [v_0, (.int .i64 n8)] h6 fun v9 h10 =>
 asI .u8 v9 fun n11 =>
 cnd (Ck (Av n11 (Int.ofNat 42)))
 (k (.tuple [(.int .i64 n_1), (.bool false)]) h10)
 (fI (wrap .i64 (Cf n_1 (Int.ofNat 2))) fun n12 =>
 J.a2 v_0 n12 h10)))
def Akt (_c : CF) (k : KV) (J : J79) (v_0 : AV) (n_6 : Int) (h : H) : Prop :=
 Gg v_0 fun m13 =>
 Al (fun k14 => gate true (Cs n_6 (Int.ofNat m13))
 (De n_6 fun m17 =>
 Cc 3 m17 v_0 fun v18 =>
 Ao 0 v18 fun v19 =>
 ld1 v19 h fun v20 =>
 asI .u8 v20 fun n21 =>
 k14 (Ck (Av n21 (Int.ofNat 10))) h)
 (k14 false h)) fun b16 h15 =>
 cnd b16
 (fI (wrap .i64 (Cf n_6 (Int.ofNat 1))) fun n22 =>
 J.a1 v_0 n22 h15)
 (k (.tuple [(.int .i64 n_6), (.bool false)]) h15)
def Aks (c : CF) (k : KV) (J : J79) (v_0 : AV) (n_7 : Int) (h : H) : Prop :=
 Gg v_0 fun m23 =>
 cnd (Cs n_7 (Int.ofNat m23))
 (De n_7 fun m24 =>
 Cc 3 m24 v_0 fun v25 =>
 Ao 0 v25 fun v26 =>
 ld1 v26 h fun v27 =>
 asI .u8 v27 fun n28 =>
 Al (fun k29 => gate true (Av n28 (Int.ofNat 42))
 (fI (wrap .i64 (Cf n_7 (Int.ofNat 1))) fun n32 =>
 c (.func 129) [v_0, (.int .i64 n32)] h fun v33 h34 =>
 asI .u8 v33 fun n35 =>
 k29 (Av n35 (Int.ofNat 47)) h34)
 (k29 false h)) fun b31 h30 =>
 cnd b31
 (fI (wrap .i64 (Cf n_7 (Int.ofNat 2))) fun n36 =>
 k (.tuple [(.int .i64 n36), (.bool false)]) h30)
 (fI (wrap .i64 (Cf n_7 (Int.ofNat 1))) fun n37 =>
 J.a2 v_0 n37 h30))
 (Gg v_0 fun m38 =>
 k (.tuple [(.int .i64 (Int.ofNat m38)), (.bool true)]) h)
def z79 : J79 := ⟨fun _ _ _ => False, fun _ _ _ => False, fun _ _ _ => False⟩
def r79 (c : CF) (k : KV) (m : Nat) : J79 := Nat.rec z79 (fun _ J => ⟨Af3 c k J, Akt c k J, Aks c k J⟩) m
def f79 (J : J79) : Jump := fun L f h => match L with
  | 0 => asI .i64 (f 1) fun n_1 => J.a0 (f 0) n_1 h
  | 1 => asI .i64 (f 6) fun n_6 => J.a1 (f 0) n_6 h
  | 2 => asI .i64 (f 7) fun n_7 => J.a2 (f 0) n_7 h
  | _ => False
def u79 : Ax := [(.root, 0), ((.l (.l (.r (.l (.r (.l (.r (.r .root)))))))), 1), ((.l (.r (.l (.r (.r (.r (.r .root))))))), 2)]
def d80 : Code := Option.rec .skip (fun c => c) Tryz.f80.body
def q80 : An := []
structure J80 where
  a0 : AV → Int → H → Prop
  a1 : AV → Int → H → Prop
  a2 : AV → Int → H → Prop
def Akr (c : CF) (k : KV) (J : J80) (v_0 : AV) (n_1 : Int) (h : H) : Prop :=
 c (.func 130) [v_0, (.int .i64 n_1)] h fun v1 h2 =>
 asI .i64 v1 fun n3 =>
 cnd (Gu (Int.ofNat 0) n3)
 (fI (wrap .i64 (Cf n_1 n3)) fun n4 =>
 c (.func 131) [v_0, (.int .i64 n4)] h2 fun v5 h6 =>
 asI .i64 v5 fun n7 =>
 Al (fun k8 => gate true (Cs (Int.ofNat 0) n7)
 (fI (wrap .i64 (Cf n_1 n3)) fun n11 =>
 c (.func 129) [v_0, (.int .i64 n11)] h6 fun v12 h13 =>
 asI .u8 v12 fun n14 =>
 k8 (Av n14 (Int.ofNat 34)) h13)
 (k8 false h6)) fun b10 h9 =>
 cnd b10
 (k (.tuple [(.int .i64 (Int.ofNat 4)), (.int .i64 n7), (.bool false)]) h9)
 (cnd (Cs (Int.ofNat 0) n7)
 (k (.tuple [(.int .i64 (Int.ofNat 3)), (.int .i64 n7), (.bool false)]) h9)
 (cnd (Av n3 (Int.ofNat 0))
 (fI (wrap .i64 (Cf n_1 (Int.ofNat 1))) fun n15 =>
 k (.tuple [(.int .i64 (Int.ofNat 6)), (.int .i64 n15), (.bool true)]) h9)
 (J.a2 v_0 n_1 h9))))
 (J.a2 v_0 n_1 h2)
def Akq (c : CF) (k : KV) (J : J80) (v_0 : AV) (n_9 : Int) (h : H) : Prop :=
 c (.func 129) [v_0, (.int .i64 n_9)] h fun v16 h17 =>
 asI .u8 v16 fun n18 =>
 c (.func 132) [(.int .u8 n18)] h17 fun v19 h20 =>
 asB v19 fun b21 =>
 Al (fun k22 => gate false b21
 (c (.func 129) [v_0, (.int .i64 n_9)] h20 fun v25 h26 =>
 asI .u8 v25 fun n27 =>
 c (.func 133) [(.int .u8 n27)] h26 fun v28 h29 =>
 asB v28 fun b30 =>
 k22 b30 h29)
 (k22 true h20)) fun b24 h23 =>
 cnd b24
 (fI (wrap .i64 (Cf n_9 (Int.ofNat 1))) fun n31 =>
 J.a1 v_0 n31 h23)
 (k (.tuple [(.int .i64 (Int.ofNat 1)), (.int .i64 n_9), (.bool false)]) h23)
def Akp (c : CF) (k : KV) (J : J80) (v_0 : AV) (n_1 : Int) (h : H) : Prop :=
 c (.func 129) [v_0, (.int .i64 n_1)] h fun v32 h33 =>
 asI .u8 v32 fun n34 =>
 c (.func 132) [(.int .u8 n34)] h33 fun v35 h36 =>
 asB v35 fun b37 =>
 cnd b37
 (fI (wrap .i64 (Cf n_1 (Int.ofNat 1))) fun n38 =>
 J.a1 v_0 n38 h36)
 (c (.func 134) [v_0, (.int .i64 n_1)] h36 fun v39 h40 =>
 asI .i64 v39 fun n41 =>
 cnd (Cs n_1 n41)
 (k (.tuple [(.int .i64 (Int.ofNat 2)), (.int .i64 n41), (.bool false)]) h40)
 (c (.func 135) [v_0, (.int .i64 n_1)] h40 fun v42 h43 =>
 asI .i64 v42 fun n44 =>
 cnd (Cs (Int.ofNat 0) n44)
 (fI (wrap .i64 (Cf n_1 n44)) fun n45 =>
 k (.tuple [(.int .i64 (Int.ofNat 5)), (.int .i64 n45), (.bool false)]) h43)
 (fI (wrap .i64 (Cf n_1 (Int.ofNat 1))) fun n46 =>
 k (.tuple [(.int .i64 (Int.ofNat 6)), (.int .i64 n46), (.bool false)]) h43)))
def z80 : J80 := ⟨fun _ _ _ => False, fun _ _ _ => False, fun _ _ _ => False⟩
def r80 (c : CF) (k : KV) (m : Nat) : J80 := Nat.rec z80 (fun _ J => ⟨Akr c k J, Akq c k J, Akp c k J⟩) m
def f80 (J : J80) : Jump := fun L f h => match L with
  | 0 => asI .i64 (f 1) fun n_1 => J.a0 (f 0) n_1 h
  | 1 => asI .i64 (f 9) fun n_9 => J.a1 (f 0) n_9 h
  | 2 => asI .i64 (f 1) fun n_1 => J.a2 (f 0) n_1 h
  | _ => False
def u80 : Ax := [(.root, 0), ((.l (.l (.r (.l (.r (.l (.r (.r (.r .root))))))))), 1), ((.r (.r (.r .root))), 2)]
def d81 : Code := Option.rec .skip (fun c => c) Tryz.f81.body
def q81 : An := []
structure J81 where
  a0 : AV → H → Prop
  a1 : AV → AV → Int → H → Prop
def Ako (_c : CF) (_k : KV) (J : J81) (v_0 : AV) (h : H) : Prop :=
 J.a1 v_0 .Cd (Int.ofNat 0) h
def Akn (_c : CF) (k : KV) (J : J81) (v_0 v_3 : AV) (n_4 : Int) (h : H) : Prop :=
 Gg v_0 fun m1 =>
 cnd (Cs n_4 (Int.ofNat m1))
 (De n_4 fun m2 =>
 Cc 3 m2 v_0 fun v3 =>
 Ao 0 v3 fun v4 =>
 ld1 v4 h fun v5 =>
 asI .u8 v5 fun n6 =>
 oK (Ak env 115 (fun e ei => Ae 1 [(0, (.int .u8 n6))] h e ei)) fun v7 h8 =>
 oK (Bw env .append [115, 115] [v_3, v7] h8) fun v9 h10 =>
 fI (wrap .i64 (Cf n_4 (Int.ofNat 1))) fun n11 =>
 J.a1 v_0 v9 n11 h10)
 (oK (Ie env h 115 9 v_3) fun v12 h13 =>
 asS v12 fun l14 c15 =>
 k (.str l14 c15) h13)
def z81 : J81 := ⟨fun _ _ => False, fun _ _ _ _ => False⟩
def r81 (c : CF) (k : KV) (m : Nat) : J81 := Nat.rec z81 (fun _ J => ⟨Ako c k J, Akn c k J⟩) m
def f81 (J : J81) : Jump := fun L f h => match L with
  | 0 => J.a0 (f 0) h
  | 1 => asI .i64 (f 4) fun n_4 => J.a1 (f 0) (f 3) n_4 h
  | _ => False
def u81 : Ax := [(.root, 0), ((.l (.r (.l (.r (.r .root))))), 1)]
def d82 : Code := Option.rec .skip (fun c => c) Tryz.f82.body
def q82 : An := []
def u82 : Ax := [(.root, 0), ((.l (.r (.l (.r .root)))), 1)]
def d83 : Code := Option.rec .skip (fun c => c) Tryz.f83.body
def q83 : An := []
def u83 : Ax := [(.root, 0)]
def d84 : Code := Option.rec .skip (fun c => c) Tryz.f84.body
def q84 : An := []
def u84 : Ax := [(.root, 0)]
def d85 : Code := Option.rec .skip (fun c => c) Tryz.f85.body
def q85 : An := []
def u85 : Ax := [(.root, 0)]
def d86 : Code := Option.rec .skip (fun c => c) Tryz.f86.body
def q86 : An := []
def u86 : Ax := [(.root, 0)]
def d87 : Code := Option.rec .skip (fun c => c) Tryz.f87.body
def q87 : An := [(7, [0, 1, 2, 3, 4, 5, 6, 8, 7, 9, 10])]
structure J87 where
  a0 : AV → Int → Bool → H → Prop
  a1 : AV → Int → Bool → AV → AV → H → Prop
def Akm (c : CF) (_k : KV) (J : J87) (v_0 : AV) (n_1 : Int) (b_2 : Bool) (h : H) : Prop :=
 Hp.Dm h Dd fun p1 h2 =>
 c (.func 139) [v_0, (.bool b_2)] h2 fun v3 h4 =>
 Hp.Dm h4 Dd fun p5 h6 =>
 stn 2 (.ptr p5 0) v3 h6 fun h7 =>
 J.a1 v_0 n_1 b_2 (.ptr p1 0) (.ptr p5 0) h7
def Af2 (c : CF) (k : KV) (J : J87) (v_0 : AV) (n_1 : Int) (b_2 : Bool) (v_6 v_7 : AV) (h : H) : Prop :=
 oK (Cz v_0 h) fun v8 h9 =>
 Ao 2 v8 fun v10 =>
 ld1 v10 h9 fun v11 =>
 asB v11 fun b12 =>
 cnd (Ck b12)
 (c (.func 140) [v_0] h9 fun v13 h14 =>
 ext 0 v13 fun v15 =>
 asS v15 fun l16 c17 =>
 ext 1 v13 fun v18 =>
 asI .i64 v18 fun n19 =>
 Al (fun k20 => gate false (Av n19 (Int.ofNat 0))
 (k20 (Cs n19 n_1) h14)
 (k20 true h14)) fun b22 h21 =>
 cnd b22
 (ldn 2 v_7 h21 fun v23 =>
 stn 2 v_6 v23 h21 fun h24 =>
 ldn 2 v_6 h24 fun v25 =>
 k v25 h24)
 (oK (Cz v_0 h21) fun v26 h27 =>
 Ao 1 v26 fun v28 =>
 ld1 v28 h27 fun v29 =>
 asI .i64 v29 fun n30 =>
 fI (wrap .i64 (Cf n30 (Int.ofNat 1))) fun n31 =>
 oK (Cz v_0 h27) fun v32 h33 =>
 Ao 1 v32 fun v34 =>
 st1 v34 (.int .i64 n31) h33 fun h35 =>
 cnd (Bm l16 c17 2 31868)
 (fI (wrap .i64 (Cf n19 (Int.ofNat 1))) fun n36 =>
 Al (fun k37 => gate true b_2
 (Ao 0 v_7 fun v40 =>
 ld1 v40 h35 fun v41 =>
 asI .u64 v41 fun n42 =>
 k37 (Av n42 (Int.ofNat 0)) h35)
 (k37 false h35)) fun b39 h38 =>
 c (.func 87) [v_0, (.int .i64 n36), (.bool b39)] h38 fun v43 h44 =>
 Hp.Dm h44 Dd fun p45 h46 =>
 stn 2 (.ptr p45 0) v43 h46 fun h47 =>
 Ao 0 v_7 fun v48 =>
 ld1 v48 h47 fun v49 =>
 asI .u64 v49 fun n50 =>
 Al (fun k51 => gate false (Ck (Av n50 (Int.ofNat 0)))
 (Ao 0 (.ptr p45 0) fun v54 =>
 ld1 v54 h47 fun v55 =>
 asI .u64 v55 fun n56 =>
 k51 (Ck (Av n56 (Int.ofNat 0))) h47)
 (k51 true h47)) fun b53 h52 =>
 c (.func 141) [(.bool b53)] h52 fun v57 h58 =>
 stn 2 v_7 v57 h58 fun h59 =>
 J.a1 v_0 n_1 b_2 v_6 v_7 h59)
 (cnd (Bm l16 c17 2 9766)
 (fI (wrap .i64 (Cf n19 (Int.ofNat 1))) fun n60 =>
 Al (fun k61 => gate true b_2
 (Ao 0 v_7 fun v64 =>
 ld1 v64 h35 fun v65 =>
 asI .u64 v65 fun n66 =>
 k61 (Ck (Av n66 (Int.ofNat 0))) h35)
 (k61 false h35)) fun b63 h62 =>
 c (.func 87) [v_0, (.int .i64 n60), (.bool b63)] h62 fun v67 h68 =>
 Hp.Dm h68 Dd fun p69 h70 =>
 stn 2 (.ptr p69 0) v67 h70 fun h71 =>
 Ao 0 v_7 fun v72 =>
 ld1 v72 h71 fun v73 =>
 asI .u64 v73 fun n74 =>
 Al (fun k75 => gate true (Ck (Av n74 (Int.ofNat 0)))
 (Ao 0 (.ptr p69 0) fun v78 =>
 ld1 v78 h71 fun v79 =>
 asI .u64 v79 fun n80 =>
 k75 (Ck (Av n80 (Int.ofNat 0))) h71)
 (k75 false h71)) fun b77 h76 =>
 c (.func 141) [(.bool b77)] h76 fun v81 h82 =>
 stn 2 v_7 v81 h82 fun h83 =>
 J.a1 v_0 n_1 b_2 v_6 v_7 h83)
 (ldn 2 v_7 h35 fun v84 =>
 fI (wrap .i64 (Cf n19 (Int.ofNat 1))) fun n85 =>
 c (.func 87) [v_0, (.int .i64 n85), (.bool b_2)] h35 fun v86 h87 =>
 ldn 2 v_7 h87 fun v88 =>
 eqC v88 v84 <|
 c (.func 142) [v_0, (.str l16 c17), v84, v86, (.bool b_2)] h87 fun v89 h90 =>
 stn 2 v_7 v89 h90 fun h91 =>
 J.a1 v_0 n_1 b_2 v_6 v_7 h91))))
 (ldn 2 v_7 h9 fun v92 =>
 stn 2 v_6 v92 h9 fun h93 =>
 ldn 2 v_6 h93 fun v94 =>
 k v94 h93)
def z87 : J87 := ⟨fun _ _ _ _ => False, fun _ _ _ _ _ _ => False⟩
def r87 (c : CF) (k : KV) (m : Nat) : J87 := Nat.rec z87 (fun _ J => ⟨Akm c k J, Af2 c k J⟩) m
def f87 (J : J87) : Jump := fun L f h => match L with
  | 0 => asI .i64 (f 1) fun n_1 => asB (f 2) fun b_2 => J.a0 (f 0) n_1 b_2 h
  | 1 => asI .i64 (f 1) fun n_1 => asB (f 2) fun b_2 => J.a1 (f 0) n_1 b_2 (f 6) (f 7) h
  | _ => False
def u87 : Ax := [(.root, 0), ((.l (.l (.r (.r .root)))), 1)]
def d88 : Code := Option.rec .skip (fun c => c) Tryz.f88.body
def q88 : An := [(1, [0, 1, 2, 3, 4, 5, 6, 7, 8, 9, 10, 11, 12, 13, 14, 15, 16, 17, 18, 19, 20, 21, 22, 23, 24])]
structure J88 where
  a0 : AV → Nat → Nat → H → Prop
def Akl (c : CF) (k : KV) (_J : J88) (v_0 : AV) (l_1 c_1 : Nat) (h : H) : Prop :=
 oK (Cz v_0 h) fun v1 h2 =>
 Ao 1 v1 fun v3 =>
 ld1 v3 h2 fun v4 =>
 asI .i64 v4 fun n5 =>
 oK (Cz v_0 h2) fun v6 h7 =>
 Ao 0 v6 fun v8 =>
 ld1 v8 h7 fun v9 =>
 Gg v9 fun m10 =>
 Al (fun k11 => gate true (Cs n5 (Int.ofNat m10))
 (oK (Cz v_0 h7) fun v14 h15 =>
 Ao 0 v14 fun v16 =>
 ld1 v16 h15 fun v17 =>
 oK (Cz v_0 h15) fun v18 h19 =>
 Ao 1 v18 fun v20 =>
 ld1 v20 h19 fun v21 =>
 asI .i64 v21 fun n22 =>
 De n22 fun m23 =>
 Cc 8 m23 v17 fun v24 =>
 ldn 8 v24 h19 fun v25 =>
 c (.func 136) [v25, (.str l_1 c_1)] h19 fun v26 h27 =>
 asB v26 fun b28 =>
 k11 b28 h27)
 (k11 false h7)) fun b13 h12 =>
 cnd b13
 (oK (Cz v_0 h12) fun v29 h30 =>
 Ao 1 v29 fun v31 =>
 ld1 v31 h30 fun v32 =>
 asI .i64 v32 fun n33 =>
 fI (wrap .i64 (Cf n33 (Int.ofNat 1))) fun n34 =>
 oK (Cz v_0 h30) fun v35 h36 =>
 Ao 1 v35 fun v37 =>
 st1 v37 (.int .i64 n34) h36 fun h38 =>
 k (.bool b13) h38)
 (k (.bool b13) h12)
def z88 : J88 := ⟨fun _ _ _ _ => False⟩
def r88 (c : CF) (k : KV) (m : Nat) : J88 := Nat.rec z88 (fun _ J => ⟨Akl c k J⟩) m
def f88 (J : J88) : Jump := fun L f h => match L with
  | 0 => asS (f 1) fun l_1 c_1 => J.a0 (f 0) l_1 c_1 h
  | _ => False
def u88 : Ax := [(.root, 0)]
def d92 : Code := Option.rec .skip (fun c => c) Tryz.f92.body
def q92 : An := []
def u92 : Ax := [(.root, 0)]
def d93 : Code := Option.rec .skip (fun c => c) Tryz.f93.body
def q93 : An := []
def u93 : Ax := [(.root, 0)]
def d95 : Code := Option.rec .skip (fun c => c) Tryz.f95.body
def q95 : An := [(5, [0, 1, 2, 3, 4, 5, 6, 7, 8, 9, 10, 11, 12, 13, 14, 15, 16, 17, 18, 19, 20, 21, 22, 23, 24, 25, 26, 27, 28])]
def u95 : Ax := [(.root, 0), ((.l (.r (.l (.r .root)))), 1), ((.r (.r (.r (.l (.l (.r (.l (.l (.r (.l (.r .root))))))))))), 2)]
def d96 : Code := Option.rec .skip (fun c => c) Tryz.f96.body
def q96 : An := [(1, [0, 1, 3, 4, 2, 6, 5, 7, 8, 9])]
def u96 : Ax := [(.root, 0)]
def d98 : Code := Option.rec .skip (fun c => c) Tryz.f98.body
def q98 : An := [(4, [0, 1, 2, 3, 4, 5, 6, 7, 8, 9, 10, 11, 12, 13, 14, 15, 16, 17, 18, 19, 20, 21])]
def u98 : Ax := [(.root, 0), ((.l (.l (.r (.r .root)))), 1)]
def d100 : Code := Option.rec .skip (fun c => c) Tryz.f100.body
def A2d : An := []
def A0m : Ax := [(.root, 0)]
def d101 : Code := Option.rec .skip (fun c => c) Tryz.f101.body
def A2c : An := []
def A0l : Ax := [(.root, 0)]
def d102 : Code := Option.rec .skip (fun c => c) Tryz.f102.body
def A2b : An := [(3, [0, 1, 2, 3, 4, 5, 6, 7, 8, 9, 10, 11, 12, 13, 14])]
def A0k : Ax := [(.root, 0), ((.l (.l (.r .root))), 1)]
def d103 : Code := Option.rec .skip (fun c => c) Tryz.f103.body
def A2a : An := []
def A0j : Ax := [(.root, 0), ((.l (.r (.l (.r (.r .root))))), 1), ((.l (.r (.l (.r (.r (.r (.r .root))))))), 2)]
def d104 : Code := Option.rec .skip (fun c => c) Tryz.f104.body
def A19 : An := []
def A0i : Ax := [(.root, 0)]
def d105 : Code := Option.rec .skip (fun c => c) Tryz.f105.body
def A18 : An := [(6, [0, 1, 2, 3, 4, 5, 6, 7, 8, 9]), (11, [0, 1, 2, 3, 4, 5, 6, 7, 8, 9])]
def A0h : Ax := [(.root, 0), ((.l (.r (.l (.r (.r .root))))), 1), ((.l (.r (.l (.r (.l (.r (.l (.l (.r (.l (.l (.r (.l (.r (.r .root))))))))))))))), 2), ((.r (.r (.l (.l (.r (.l (.r (.l (.r (.l (.l (.r (.l (.l (.r (.l (.r (.r .root)))))))))))))))))), 3)]
def d112 : Code := Option.rec .skip (fun c => c) Tryz.f112.body
def A9x : An := []
structure Aum where
  a0 : Nat → Nat → Nat → Nat → H → Prop
def Adt (c : CF) (k : KV) (_J : Aum) (l_0 c_0 : Nat) (l_1 c_1 : Nat) (h : H) : Prop :=
 Al (fun k1 => gate false (Bm l_0 c_0 0 0)
 (k1 (Bm l_1 c_1 0 0) h)
 (k1 true h)) fun b3 h2 =>
 cnd b3
 (k (.str l_0 c_0) h2)
 (Al (fun k4 => gate true (Av (Int.ofNat l_1) (Int.ofNat 1))
 (Jf l_1 c_1 0 fun m7 =>
 k4 (Cs (Int.ofNat m7) (Int.ofNat 128)) h2)
 (k4 false h2)) fun b6 h5 =>
 cnd b6
 (Jf l_1 c_1 0 fun m8 =>
 c (.func 167) [(.str l_0 c_0), (.int .u8 (Int.ofNat m8))] h5 fun v9 h10 =>
 asS v9 fun l11 c12 =>
 k (.str l11 c12) h10)
 (c (.func 168) [(.str l_1 c_1)] h5 fun v13 h14 =>
 ext 0 v13 fun v15 =>
 ext 1 v13 fun v16 =>
 asB v16 fun b17 =>
 Hp.Dm h14 Ax1 fun p18 h19 =>
 stn 256 (.ptr p18 0) v15 h19 fun h20 =>
 cnd b17
 (c (.func 169) [(.str l_0 c_0), (.ptr p18 0)] h20 fun v21 h22 =>
 asS v21 fun l23 c24 =>
 k (.str l23 c24) h22)
 (c (.func 170) [(.str l_0 c_0), (.str l_1 c_1)] h20 fun v25 h26 =>
 asS v25 fun l27 c28 =>
 k (.str l27 c28) h26)))
def Bd1 : Aum := ⟨fun _ _ _ _ _ => False⟩
def Ap8 (c : CF) (k : KV) (m : Nat) : Aum := Nat.rec Bd1 (fun _ J => ⟨Adt c k J⟩) m
def f112 (J : Aum) : Jump := fun L f h => match L with
  | 0 => asS (f 0) fun l_0 c_0 => asS (f 1) fun l_1 c_1 => J.a0 l_0 c_0 l_1 c_1 h
  | _ => False
def A8s : Ax := [(.root, 0)]
def d113 : Code := Option.rec .skip (fun c => c) Tryz.f113.body
def A17 : An := [(3, [0, 1, 2, 3]), (5, [0, 1, 2, 3, 4, 5, 6])]
structure Akb where
  a0 : Nat → Nat → H → Prop
  a1 : Nat → Nat → Bool → H → Prop
def Ads (_c : CF) (_k : KV) (J : Akb) (l_0 c_0 : Nat) (h : H) : Prop :=
 cnd (Bm l_0 c_0 0 0)
 (J.a1 l_0 c_0 false h)
 (Jf l_0 c_0 0 fun m1 =>
 Al (fun k2 => gate false (Av (Int.ofNat m1) (Int.ofNat 117))
 (Jf l_0 c_0 0 fun m5 =>
 k2 (Av (Int.ofNat m5) (Int.ofNat 85)) h)
 (k2 true h)) fun b4 h3 =>
 cnd b4
 (Oo l_0 c_0 1 l_0 fun l6 c7 =>
 J.a1 l6 c7 true h3)
 (fI (wrap .i64 (Kv (Int.ofNat l_0) (Int.ofNat 1))) fun n8 =>
 De n8 fun m9 =>
 Jf l_0 c_0 m9 fun m10 =>
 Al (fun k11 => gate false (Av (Int.ofNat m10) (Int.ofNat 117))
 (fI (wrap .i64 (Kv (Int.ofNat l_0) (Int.ofNat 1))) fun n14 =>
 De n14 fun m15 =>
 Jf l_0 c_0 m15 fun m16 =>
 k11 (Av (Int.ofNat m16) (Int.ofNat 85)) h3)
 (k11 true h3)) fun b13 h12 =>
 cnd b13
 (fI (wrap .i64 (Kv (Int.ofNat l_0) (Int.ofNat 1))) fun n17 =>
 De n17 fun m18 =>
 Oo l_0 c_0 0 m18 fun l19 c20 =>
 J.a1 l19 c20 true h12)
 (J.a1 l_0 c_0 false h12)))
def Adr (_c : CF) (k : KV) (_J : Akb) (l_0 c_0 : Nat) (b_2 : Bool) (h : H) : Prop :=
 Al (fun k21 => gate false (Bm l_0 c_0 0 0)
 (k21 (Bm l_0 c_0 1 108) h)
 (k21 true h)) fun b23 h22 =>
 Al (fun k24 => gate false b23
 (k24 (Bm l_0 c_0 1 76) h22)
 (k24 true h22)) fun b26 h25 =>
 Al (fun k27 => gate false b26
 (k27 (Bm l_0 c_0 2 27756) h25)
 (k27 true h25)) fun b29 h28 =>
 Al (fun k30 => gate false b29
 (k30 (Bm l_0 c_0 2 19532) h28)
 (k30 true h28)) fun b32 h31 =>
 k (.tuple [(.bool b_2), (.bool b32)]) h31
def Bd0 : Akb := ⟨fun _ _ _ => False, fun _ _ _ _ => False⟩
def Agg (c : CF) (k : KV) (m : Nat) : Akb := Nat.rec Bd0 (fun _ J => ⟨Ads c k J, Adr c k J⟩) m
def f113 (J : Akb) : Jump := fun L f h => match L with
  | 0 => asS (f 0) fun l_0 c_0 => J.a0 l_0 c_0 h
  | 1 => asS (f 0) fun l_0 c_0 => asB (f 2) fun b_2 => J.a1 l_0 c_0 b_2 h
  | _ => False
def A0g : Ax := [(.root, 0), ((.r (.r .root)), 1)]
def d114 : Code := Option.rec .skip (fun c => c) Tryz.f114.body
def A9w : An := []
structure Aul where
  a0 : Nat → Nat → H → Prop
def Adq (c : CF) (k : KV) (_J : Aul) (l_0 c_0 : Nat) (h : H) : Prop :=
 c (.func 115) [(.str l_0 c_0), (.str 2 30768)] h fun v1 h2 =>
 asB v1 fun b3 =>
 Al (fun k4 => gate false b3
 (c (.func 115) [(.str l_0 c_0), (.str 2 22576)] h2 fun v7 h8 =>
 asB v7 fun b9 =>
 k4 b9 h8)
 (k4 true h2)) fun b6 h5 =>
 k (.bool b6) h5
def Bdz : Aul := ⟨fun _ _ _ => False⟩
def Ap7 (c : CF) (k : KV) (m : Nat) : Aul := Nat.rec Bdz (fun _ J => ⟨Adq c k J⟩) m
def f114 (J : Aul) : Jump := fun L f h => match L with
  | 0 => asS (f 0) fun l_0 c_0 => J.a0 l_0 c_0 h
  | _ => False
def A8r : Ax := [(.root, 0)]
def d115 : Code := Option.rec .skip (fun c => c) Tryz.f115.body
def A9v : An := []
structure Auk where
  a0 : Nat → Nat → Nat → Nat → H → Prop
def Aip (c : CF) (k : KV) (_J : Auk) (l_0 c_0 : Nat) (l_1 c_1 : Nat) (h : H) : Prop :=
 c (.func 171) [(.str l_0 c_0), (.str l_1 c_1)] h fun v1 h2 =>
 asB v1 fun b3 =>
 k (.bool b3) h2
def Bdy : Auk := ⟨fun _ _ _ _ _ => False⟩
def Ap6 (c : CF) (k : KV) (m : Nat) : Auk := Nat.rec Bdy (fun _ J => ⟨Aip c k J⟩) m
def f115 (J : Auk) : Jump := fun L f h => match L with
  | 0 => asS (f 0) fun l_0 c_0 => asS (f 1) fun l_1 c_1 => J.a0 l_0 c_0 l_1 c_1 h
  | _ => False
def A8q : Ax := [(.root, 0)]
def d116 : Code := Option.rec .skip (fun c => c) Tryz.f116.body
def A9u : An := []
structure Auj where
  a0 : Nat → Nat → Nat → Nat → H → Prop
def Adp (c : CF) (k : KV) (_J : Auj) (l_0 c_0 : Nat) (l_1 c_1 : Nat) (h : H) : Prop :=
 c (.func 172) [(.str l_0 c_0), (.str l_1 c_1)] h fun v1 h2 =>
 asS v1 fun l3 _ =>
 fI (wrap .i64 (Kv (Int.ofNat l_0) (Int.ofNat l3))) fun n5 =>
 k (.int .i64 n5) h2
def z116 : Auj := ⟨fun _ _ _ _ _ => False⟩
def Ap5 (c : CF) (k : KV) (m : Nat) : Auj := Nat.rec z116 (fun _ J => ⟨Adp c k J⟩) m
def f116 (J : Auj) : Jump := fun L f h => match L with
  | 0 => asS (f 0) fun l_0 c_0 => asS (f 1) fun l_1 c_1 => J.a0 l_0 c_0 l_1 c_1 h
  | _ => False
def A8p : Ax := [(.root, 0)]
def d117 : Code := Option.rec .skip (fun c => c) Tryz.f117.body
def A9t : An := []
structure Aui where
  a0 : Nat → Nat → Int → Int → H → Prop
def Ado (c : CF) (k : KV) (_J : Aui) (l_0 c_0 : Nat) (n_1 n_2 : Int) (h : H) : Prop :=
 c (.func 173) [(.str l_0 c_0), (.int .i64 n_1), (.int .i64 n_2)] h fun v1 h2 =>
 ext 0 v1 fun v3 =>
 asI .u64 v3 fun n4 =>
 ext 1 v1 fun v5 =>
 oV (Hi env .neq 151 v5 .Il) fun v6 =>
 asB v6 fun b7 =>
 cnd b7
 (c (.func 174) [(.str 9 2147778296661251613008), (.str l_0 c_0), (.int .i64 n_1), (.int .i64 n_2), v5] h2 fun v8 h9 =>
 k (.tuple [(.int .u64 n4), v8]) h9)
 (k (.tuple [(.int .u64 n4), .Il]) h2)
def z117 : Aui := ⟨fun _ _ _ _ _ => False⟩
def Ap4 (c : CF) (k : KV) (m : Nat) : Aui := Nat.rec z117 (fun _ J => ⟨Ado c k J⟩) m
def f117 (J : Aui) : Jump := fun L f h => match L with
  | 0 => asS (f 0) fun l_0 c_0 => asI .i64 (f 1) fun n_1 => asI .i64 (f 2) fun n_2 => J.a0 l_0 c_0 n_1 n_2 h
  | _ => False
def A8o : Ax := [(.root, 0)]
def d120 : Code := Option.rec .skip (fun c => c) Tryz.f120.body
def A16 : An := []
def A0f : Ax := [(.root, 0)]
def d127 : Code := Option.rec .skip (fun c => c) Tryz.f127.body
def Avr : An := []
structure Afq where
  a0 : AV → H → Prop
  a1 : AV → AV → Int → H → Prop
  a2 : AV → AV → Int → H → Prop
def Adn (_c : CF) (_k : KV) (J : Afq) (v_0 : AV) (h : H) : Prop :=
 J.a1 v_0 .Cd (Int.ofNat 0) h
def Xy (_c : CF) (k : KV) (J : Afq) (v_0 v_3 : AV) (n_4 : Int) (h : H) : Prop :=
 Gg v_0 fun m1 =>
 cnd (Cs n_4 (Int.ofNat m1))
 (De n_4 fun m2 =>
 Cc 3 m2 v_0 fun v3 =>
 Ao 0 v3 fun v4 =>
 ld1 v4 h fun v5 =>
 asI .u8 v5 fun n6 =>
 Al (fun k7 => gate true (Av n6 (Int.ofNat 92))
 (fI (wrap .i64 (Cf n_4 (Int.ofNat 1))) fun n10 =>
 Gg v_0 fun m11 =>
 k7 (Cs n10 (Int.ofNat m11)) h)
 (k7 false h)) fun b9 h8 =>
 Al (fun k12 => gate true b9
 (fI (wrap .i64 (Cf n_4 (Int.ofNat 1))) fun n15 =>
 De n15 fun m16 =>
 Cc 3 m16 v_0 fun v17 =>
 Ao 0 v17 fun v18 =>
 ld1 v18 h8 fun v19 =>
 asI .u8 v19 fun n20 =>
 k12 (Av n20 (Int.ofNat 10)) h8)
 (k12 false h8)) fun b14 h13 =>
 cnd b14
 (fI (wrap .i64 (Cf n_4 (Int.ofNat 1))) fun n21 =>
 J.a2 v_0 v_3 n21 h13)
 (De n_4 fun m22 =>
 Cc 3 m22 v_0 fun v23 =>
 ldn 3 v23 h13 fun v24 =>
 oK (Ak env 171 (fun e ei => Ae 1 [(0, v24)] h13 e ei)) fun v25 h26 =>
 oK (Bw env .append [171, 171] [v_3, v25] h26) fun v27 h28 =>
 J.a2 v_0 v27 n_4 h28))
 (k v_3 h)
def Xx (_c : CF) (_k : KV) (J : Afq) (v_0 v_3 : AV) (n_4 : Int) (h : H) : Prop :=
 fI (wrap .i64 (Cf n_4 (Int.ofNat 1))) fun n29 =>
 J.a1 v_0 v_3 n29 h
def z127 : Afq := ⟨fun _ _ => False, fun _ _ _ _ => False, fun _ _ _ _ => False⟩
def Yh (c : CF) (k : KV) (m : Nat) : Afq := Nat.rec z127 (fun _ J => ⟨Adn c k J, Xy c k J, Xx c k J⟩) m
def f127 (J : Afq) : Jump := fun L f h => match L with
  | 0 => J.a0 (f 0) h
  | 1 => asI .i64 (f 4) fun n_4 => J.a1 (f 0) (f 3) n_4 h
  | 2 => asI .i64 (f 4) fun n_4 => J.a2 (f 0) (f 3) n_4 h
  | _ => False
def Au1 : Ax := [(.root, 0), ((.l (.r (.l (.r (.r .root))))), 1), ((.r (.r (.l (.l (.r (.l (.r (.r .root)))))))), 2)]
def d128 : Code := Option.rec .skip (fun c => c) Tryz.f128.body
def Avq : An := []
structure Afp where
  a0 : Nat → Nat → H → Prop
  a1 : Nat → Nat → AV → Int → H → Prop
  a2 : Nat → Nat → AV → Int → H → Prop
def Adm (_c : CF) (_k : KV) (J : Afp) (l_0 c_0 : Nat) (h : H) : Prop :=
 J.a1 l_0 c_0 .Cd (Int.ofNat 0) h
def Adl (c : CF) (k : KV) (J : Afp) (l_0 c_0 : Nat) (v_3 : AV) (n_4 : Int) (h : H) : Prop :=
 cnd (Cs n_4 (Int.ofNat l_0))
 (fI (wrap .i64 (Cf n_4 (Int.ofNat 2))) fun n1 =>
 Al (fun k2 => gate true (Cs n1 (Int.ofNat l_0))
 (De n_4 fun m5 =>
 Jf l_0 c_0 m5 fun m6 =>
 k2 (Av (Int.ofNat m6) (Int.ofNat 63)) h)
 (k2 false h)) fun b4 h3 =>
 Al (fun k7 => gate true b4
 (fI (wrap .i64 (Cf n_4 (Int.ofNat 1))) fun n10 =>
 De n10 fun m11 =>
 Jf l_0 c_0 m11 fun m12 =>
 k7 (Av (Int.ofNat m12) (Int.ofNat 63)) h3)
 (k7 false h3)) fun b9 h8 =>
 cnd b9
 (fI (wrap .i64 (Cf n_4 (Int.ofNat 2))) fun n13 =>
 De n13 fun m14 =>
 Jf l_0 c_0 m14 fun m15 =>
 c (.func 181) [(.int .u8 (Int.ofNat m15))] h8 fun v16 h17 =>
 ext 0 v16 fun v18 =>
 asI .u8 v18 fun n19 =>
 ext 1 v16 fun v20 =>
 asB v20 fun b21 =>
 cnd b21
 (fI (wrap .i64 (Cf n_4 (Int.ofNat 3))) fun n22 =>
 oK (Bt env (env.ty 174) [(0, (.int .u8 n19)), (1, (.int .i64 n_4)), (2, (.int .i64 n22))] h17) fun v23 h24 =>
 oK (Ak env 171 (fun e ei => Ae 1 [(0, v23)] h24 e ei)) fun v25 h26 =>
 oK (Bw env .append [171, 171] [v_3, v25] h26) fun v27 h28 =>
 fI (wrap .i64 (Cf n_4 (Int.ofNat 3))) fun n29 =>
 J.a1 l_0 c_0 v27 n29 h28)
 (J.a2 l_0 c_0 v_3 n_4 h17))
 (J.a2 l_0 c_0 v_3 n_4 h8))
 (k v_3 h)
def Adk (_c : CF) (_k : KV) (J : Afp) (l_0 c_0 : Nat) (v_3 : AV) (n_4 : Int) (h : H) : Prop :=
 De n_4 fun m30 =>
 Jf l_0 c_0 m30 fun m31 =>
 fI (wrap .i64 (Cf n_4 (Int.ofNat 1))) fun n32 =>
 oK (Bt env (env.ty 174) [(0, (.int .u8 (Int.ofNat m31))), (1, (.int .i64 n_4)), (2, (.int .i64 n32))] h) fun v33 h34 =>
 oK (Ak env 171 (fun e ei => Ae 1 [(0, v33)] h34 e ei)) fun v35 h36 =>
 oK (Bw env .append [171, 171] [v_3, v35] h36) fun v37 h38 =>
 fI (wrap .i64 (Cf n_4 (Int.ofNat 1))) fun n39 =>
 J.a1 l_0 c_0 v37 n39 h38
def Bdx : Afp := ⟨fun _ _ _ => False, fun _ _ _ _ _ => False, fun _ _ _ _ _ => False⟩
def Yg (c : CF) (k : KV) (m : Nat) : Afp := Nat.rec Bdx (fun _ J => ⟨Adm c k J, Adl c k J, Adk c k J⟩) m
def f128 (J : Afp) : Jump := fun L f h => match L with
  | 0 => asS (f 0) fun l_0 c_0 => J.a0 l_0 c_0 h
  | 1 => asS (f 0) fun l_0 c_0 => asI .i64 (f 4) fun n_4 => J.a1 l_0 c_0 (f 3) n_4 h
  | 2 => asS (f 0) fun l_0 c_0 => asI .i64 (f 4) fun n_4 => J.a2 l_0 c_0 (f 3) n_4 h
  | _ => False
def Au0 : Ax := [(.root, 0), ((.l (.r (.l (.r (.r .root))))), 1), ((.r (.l (.r (.l (.l (.r (.l (.r (.r .root))))))))), 2)]
def d129 : Code := Option.rec .skip (fun c => c) Tryz.f129.body
def A9s : An := []
structure Auh where
  a0 : AV → Int → H → Prop
def Adj (_c : CF) (k : KV) (_J : Auh) (v_0 : AV) (n_1 : Int) (h : H) : Prop :=
 Al (fun k1 => gate false (Cs n_1 (Int.ofNat 0))
 (Gg v_0 fun m4 =>
 k1 (Gu (Int.ofNat m4) n_1) h)
 (k1 true h)) fun b3 h2 =>
 cnd b3
 (k (.int .u8 (Int.ofNat 0)) h2)
 (De n_1 fun m5 =>
 Cc 3 m5 v_0 fun v6 =>
 Ao 0 v6 fun v7 =>
 ld1 v7 h2 fun v8 =>
 asI .u8 v8 fun n9 =>
 k (.int .u8 n9) h2)
def Bdw : Auh := ⟨fun _ _ _ => False⟩
def Ap3 (c : CF) (k : KV) (m : Nat) : Auh := Nat.rec Bdw (fun _ J => ⟨Adj c k J⟩) m
def f129 (J : Auh) : Jump := fun L f h => match L with
  | 0 => asI .i64 (f 1) fun n_1 => J.a0 (f 0) n_1 h
  | _ => False
def A8n : Ax := [(.root, 0)]
def d130 : Code := Option.rec .skip (fun c => c) Tryz.f130.body
def A9r : An := []
structure Aug where
  a0 : AV → Int → H → Prop
def Adi (c : CF) (k : KV) (_J : Aug) (v_0 : AV) (n_1 : Int) (h : H) : Prop :=
 c (.func 129) [v_0, (.int .i64 n_1)] h fun v1 h2 =>
 asI .u8 v1 fun n3 =>
 Al (fun k4 => gate false (Av n3 (Int.ofNat 34))
 (k4 (Av n3 (Int.ofNat 39)) h2)
 (k4 true h2)) fun b6 h5 =>
 cnd b6
 (k (.int .i64 (Int.ofNat 0)) h5)
 (Al (fun k7 => gate true (Av n3 (Int.ofNat 117))
 (fI (wrap .i64 (Cf n_1 (Int.ofNat 1))) fun n10 =>
 c (.func 129) [v_0, (.int .i64 n10)] h5 fun v11 h12 =>
 asI .u8 v11 fun n13 =>
 k7 (Av n13 (Int.ofNat 56)) h12)
 (k7 false h5)) fun b9 h8 =>
 Al (fun k14 => gate true b9
 (fI (wrap .i64 (Cf n_1 (Int.ofNat 2))) fun n17 =>
 c (.func 129) [v_0, (.int .i64 n17)] h8 fun v18 h19 =>
 asI .u8 v18 fun n20 =>
 k14 (Av n20 (Int.ofNat 34)) h19)
 (k14 false h8)) fun b16 h15 =>
 cnd b16
 (k (.int .i64 (Int.ofNat 2)) h15)
 (Al (fun k21 => gate false (Av n3 (Int.ofNat 76))
 (k21 (Av n3 (Int.ofNat 117)) h15)
 (k21 true h15)) fun b23 h22 =>
 Al (fun k24 => gate false b23
 (k24 (Av n3 (Int.ofNat 85)) h22)
 (k24 true h22)) fun b26 h25 =>
 Al (fun k27 => gate true b26
 (fI (wrap .i64 (Cf n_1 (Int.ofNat 1))) fun n30 =>
 c (.func 129) [v_0, (.int .i64 n30)] h25 fun v31 h32 =>
 asI .u8 v31 fun n33 =>
 Al (fun k34 => gate false (Av n33 (Int.ofNat 34))
 (fI (wrap .i64 (Cf n_1 (Int.ofNat 1))) fun n37 =>
 c (.func 129) [v_0, (.int .i64 n37)] h32 fun v38 h39 =>
 asI .u8 v38 fun n40 =>
 k34 (Av n40 (Int.ofNat 39)) h39)
 (k34 true h32)) fun b36 h35 =>
 k27 b36 h35)
 (k27 false h25)) fun b29 h28 =>
 cnd b29
 (k (.int .i64 (Int.ofNat 1)) h28)
 (k (.int .i64 (Int.negSucc 0)) h28)))
def z130 : Aug := ⟨fun _ _ _ => False⟩
def Ap2 (c : CF) (k : KV) (m : Nat) : Aug := Nat.rec z130 (fun _ J => ⟨Adi c k J⟩) m
def f130 (J : Aug) : Jump := fun L f h => match L with
  | 0 => asI .i64 (f 1) fun n_1 => J.a0 (f 0) n_1 h
  | _ => False
def A8m : Ax := [(.root, 0)]
def d131 : Code := Option.rec .skip (fun c => c) Tryz.f131.body
def Avp : An := []
structure Afo where
  a0 : AV → Int → H → Prop
  a1 : AV → Int → Int → H → Prop
  a2 : AV → Int → Int → H → Prop
def Adh (c : CF) (_k : KV) (J : Afo) (v_0 : AV) (n_1 : Int) (h : H) : Prop :=
 c (.func 129) [v_0, (.int .i64 n_1)] h fun v1 h2 =>
 asI .u8 v1 fun n3 =>
 fI (wrap .i64 (Cf n_1 (Int.ofNat 1))) fun n4 =>
 J.a1 v_0 n3 n4 h2
def Adg (_c : CF) (k : KV) (J : Afo) (v_0 : AV) (n_5 n_6 : Int) (h : H) : Prop :=
 Gg v_0 fun m5 =>
 Al (fun k6 => gate true (Cs n_6 (Int.ofNat m5))
 (De n_6 fun m9 =>
 Cc 3 m9 v_0 fun v10 =>
 Ao 0 v10 fun v11 =>
 ld1 v11 h fun v12 =>
 asI .u8 v12 fun n13 =>
 k6 (Ck (Av n13 (Int.ofNat 10))) h)
 (k6 false h)) fun b8 h7 =>
 cnd b8
 (De n_6 fun m14 =>
 Cc 3 m14 v_0 fun v15 =>
 Ao 0 v15 fun v16 =>
 ld1 v16 h7 fun v17 =>
 asI .u8 v17 fun n18 =>
 Al (fun k19 => gate true (Av n18 (Int.ofNat 92))
 (fI (wrap .i64 (Cf n_6 (Int.ofNat 1))) fun n22 =>
 Gg v_0 fun m23 =>
 k19 (Cs n22 (Int.ofNat m23)) h7)
 (k19 false h7)) fun b21 h20 =>
 Al (fun k24 => gate true b21
 (fI (wrap .i64 (Cf n_6 (Int.ofNat 1))) fun n27 =>
 De n27 fun m28 =>
 Cc 3 m28 v_0 fun v29 =>
 Ao 0 v29 fun v30 =>
 ld1 v30 h20 fun v31 =>
 asI .u8 v31 fun n32 =>
 k24 (Ck (Av n32 (Int.ofNat 10))) h20)
 (k24 false h20)) fun b26 h25 =>
 cnd b26
 (fI (wrap .i64 (Cf n_6 (Int.ofNat 1))) fun n33 =>
 J.a2 v_0 n_5 n33 h25)
 (De n_6 fun m34 =>
 Cc 3 m34 v_0 fun v35 =>
 Ao 0 v35 fun v36 =>
 ld1 v36 h25 fun v37 =>
 asI .u8 v37 fun n38 =>
 cnd (Av n38 n_5)
 (fI (wrap .i64 (Cf n_6 (Int.ofNat 1))) fun n39 =>
 k (.int .i64 n39) h25)
 (J.a2 v_0 n_5 n_6 h25)))
 (k (.int .i64 (Int.ofNat 0)) h7)
def Xw (_c : CF) (_k : KV) (J : Afo) (v_0 : AV) (n_5 n_6 : Int) (h : H) : Prop :=
 fI (wrap .i64 (Cf n_6 (Int.ofNat 1))) fun n40 =>
 J.a1 v_0 n_5 n40 h
def z131 : Afo := ⟨fun _ _ _ => False, fun _ _ _ _ => False, fun _ _ _ _ => False⟩
def Yf (c : CF) (k : KV) (m : Nat) : Afo := Nat.rec z131 (fun _ J => ⟨Adh c k J, Adg c k J, Xw c k J⟩) m
def f131 (J : Afo) : Jump := fun L f h => match L with
  | 0 => asI .i64 (f 1) fun n_1 => J.a0 (f 0) n_1 h
  | 1 => asI .u8 (f 5) fun n_5 => asI .i64 (f 6) fun n_6 => J.a1 (f 0) n_5 n_6 h
  | 2 => asI .u8 (f 5) fun n_5 => asI .i64 (f 6) fun n_6 => J.a2 (f 0) n_5 n_6 h
  | _ => False
def Auz : Ax := [(.root, 0), ((.l (.r (.l (.r (.r .root))))), 1), ((.r (.r (.l (.l (.r (.l (.r (.r .root)))))))), 2)]
def d132 : Code := Option.rec .skip (fun c => c) Tryz.f132.body
def A9q : An := []
structure Auf where
  a0 : Int → H → Prop
def Adf (_c : CF) (k : KV) (_J : Auf) (n_0 : Int) (h : H) : Prop :=
 Al (fun k1 => gate true (Gu (Int.ofNat 97) n_0)
 (k1 (Gu n_0 (Int.ofNat 122)) h)
 (k1 false h)) fun b3 h2 =>
 Al (fun k4 => gate false b3
 (Al (fun k7 => gate true (Gu (Int.ofNat 65) n_0)
 (k7 (Gu n_0 (Int.ofNat 90)) h2)
 (k7 false h2)) fun b9 h8 =>
 k4 b9 h8)
 (k4 true h2)) fun b6 h5 =>
 Al (fun k10 => gate false b6
 (k10 (Av n_0 (Int.ofNat 95)) h5)
 (k10 true h5)) fun b12 h11 =>
 k (.bool b12) h11
def Bdv : Auf := ⟨fun _ _ => False⟩
def Ap1 (c : CF) (k : KV) (m : Nat) : Auf := Nat.rec Bdv (fun _ J => ⟨Adf c k J⟩) m
def f132 (J : Auf) : Jump := fun L f h => match L with
  | 0 => asI .u8 (f 0) fun n_0 => J.a0 n_0 h
  | _ => False
def A8l : Ax := [(.root, 0)]
def d133 : Code := Option.rec .skip (fun c => c) Tryz.f133.body
def A9p : An := []
structure Aue where
  a0 : Int → H → Prop
def Ade (_c : CF) (k : KV) (_J : Aue) (n_0 : Int) (h : H) : Prop :=
 Al (fun k1 => gate true (Gu (Int.ofNat 48) n_0)
 (k1 (Gu n_0 (Int.ofNat 57)) h)
 (k1 false h)) fun b3 h2 =>
 k (.bool b3) h2
def Bdu : Aue := ⟨fun _ _ => False⟩
def Ap0 (c : CF) (k : KV) (m : Nat) : Aue := Nat.rec Bdu (fun _ J => ⟨Ade c k J⟩) m
def f133 (J : Aue) : Jump := fun L f h => match L with
  | 0 => asI .u8 (f 0) fun n_0 => J.a0 n_0 h
  | _ => False
def A8k : Ax := [(.root, 0)]
def d134 : Code := Option.rec .skip (fun c => c) Tryz.f134.body
def A15 : An := []
structure Aka where
  a0 : AV → Int → H → Prop
  a1 : AV → Int → H → Prop
def Adc (c : CF) (k : KV) (J : Aka) (v_0 : AV) (n_1 : Int) (h : H) : Prop :=
 c (.func 129) [v_0, (.int .i64 n_1)] h fun v1 h2 =>
 asI .u8 v1 fun n3 =>
 c (.func 133) [(.int .u8 n3)] h2 fun v4 h5 =>
 asB v4 fun b6 =>
 Al (fun k7 => gate true (Ck b6)
 (c (.func 129) [v_0, (.int .i64 n_1)] h5 fun v10 h11 =>
 asI .u8 v10 fun n12 =>
 Al (fun k13 => gate false (Ck (Av n12 (Int.ofNat 46)))
 (fI (wrap .i64 (Cf n_1 (Int.ofNat 1))) fun n16 =>
 c (.func 129) [v_0, (.int .i64 n16)] h11 fun v17 h18 =>
 asI .u8 v17 fun n19 =>
 c (.func 133) [(.int .u8 n19)] h18 fun v20 h21 =>
 asB v20 fun b22 =>
 k13 (Ck b22) h21)
 (k13 true h11)) fun b15 h14 =>
 k7 b15 h14)
 (k7 false h5)) fun b9 h8 =>
 cnd b9
 (k (.int .i64 n_1) h8)
 (fI (wrap .i64 (Cf n_1 (Int.ofNat 1))) fun n23 =>
 J.a1 v_0 n23 h8)
def Adb (c : CF) (k : KV) (J : Aka) (v_0 : AV) (n_5 : Int) (h : H) : Prop :=
 c (.func 129) [v_0, (.int .i64 n_5)] h fun v24 h25 =>
 asI .u8 v24 fun n26 =>
 fI (wrap .i64 (Cf n_5 (Int.ofNat 1))) fun n27 =>
 c (.func 129) [v_0, (.int .i64 n27)] h25 fun v28 h29 =>
 asI .u8 v28 fun n30 =>
 Al (fun k31 => gate false (Av n26 (Int.ofNat 101))
 (k31 (Av n26 (Int.ofNat 69)) h29)
 (k31 true h29)) fun b33 h32 =>
 Al (fun k34 => gate false b33
 (k34 (Av n26 (Int.ofNat 112)) h32)
 (k34 true h32)) fun b36 h35 =>
 Al (fun k37 => gate false b36
 (k37 (Av n26 (Int.ofNat 80)) h35)
 (k37 true h35)) fun b39 h38 =>
 Al (fun k40 => gate true b39
 (Al (fun k43 => gate false (Av n30 (Int.ofNat 43))
 (k43 (Av n30 (Int.ofNat 45)) h38)
 (k43 true h38)) fun b45 h44 =>
 k40 b45 h44)
 (k40 false h38)) fun b42 h41 =>
 cnd b42
 (fI (wrap .i64 (Cf n_5 (Int.ofNat 2))) fun n46 =>
 J.a1 v_0 n46 h41)
 (c (.func 132) [(.int .u8 n26)] h41 fun v47 h48 =>
 asB v47 fun b49 =>
 Al (fun k50 => gate false b49
 (c (.func 133) [(.int .u8 n26)] h48 fun v53 h54 =>
 asB v53 fun b55 =>
 k50 b55 h54)
 (k50 true h48)) fun b52 h51 =>
 Al (fun k56 => gate false b52
 (k56 (Av n26 (Int.ofNat 46)) h51)
 (k56 true h51)) fun b58 h57 =>
 cnd b58
 (fI (wrap .i64 (Cf n_5 (Int.ofNat 1))) fun n59 =>
 J.a1 v_0 n59 h57)
 (k (.int .i64 n_5) h57))
def Bdt : Aka := ⟨fun _ _ _ => False, fun _ _ _ => False⟩
def Agf (c : CF) (k : KV) (m : Nat) : Aka := Nat.rec Bdt (fun _ J => ⟨Adc c k J, Adb c k J⟩) m
def f134 (J : Aka) : Jump := fun L f h => match L with
  | 0 => asI .i64 (f 1) fun n_1 => J.a0 (f 0) n_1 h
  | 1 => asI .i64 (f 5) fun n_5 => J.a1 (f 0) n_5 h
  | _ => False
def A0e : Ax := [(.root, 0), ((.l (.r (.r (.r .root)))), 1)]
def d135 : Code := Option.rec .skip (fun c => c) Tryz.f135.body
def Avo : An := [(6, [0, 1, 2, 3, 4, 5, 6, 7, 8, 9, 10, 11, 13, 14, 15, 16, 17, 18, 12, 19, 20])]
structure Afn where
  a0 : AV → Int → H → Prop
  a1 : AV → Int → AV → Int → H → Prop
  a2 : AV → Int → AV → Int → Int → H → Prop
def Ada (c : CF) (_k : KV) (J : Afn) (v_0 : AV) (n_1 : Int) (h : H) : Prop :=
 c (.func 182) [] h fun v1 h2 =>
 J.a1 v_0 n_1 v1 (Int.ofNat 0) h2
def Ac9 (_c : CF) (k : KV) (J : Afn) (v_0 : AV) (n_1 : Int) (v_5 : AV) (n_6 : Int) (h : H) : Prop :=
 Gg v_5 fun m3 =>
 cnd (Cs n_6 (Int.ofNat m3))
 (J.a2 v_0 n_1 v_5 n_6 (Int.ofNat 0) h)
 (k (.int .i64 (Int.ofNat 0)) h)
def Ac8 (c : CF) (k : KV) (J : Afn) (v_0 : AV) (n_1 : Int) (v_5 : AV) (n_6 n_7 : Int) (h : H) : Prop :=
 De n_6 fun m4 =>
 Cc 1 m4 v_5 fun v5 =>
 ld1 v5 h fun v6 =>
 asS v6 fun l7 _ =>
 Al (fun k9 => gate true (Cs n_7 (Int.ofNat l7))
 (fI (wrap .i64 (Cf n_1 n_7)) fun n12 =>
 De n_6 fun m13 =>
 Cc 1 m13 v_5 fun v14 =>
 ld1 v14 h fun v15 =>
 asS v15 fun l16 c17 =>
 De n_7 fun m18 =>
 Jf l16 c17 m18 fun m19 =>
 c (.func 129) [v_0, (.int .i64 n12)] h fun v20 h21 =>
 asI .u8 v20 fun n22 =>
 ld1 v14 h21 fun v23 =>
 asS v23 fun l24 c25 =>
 eqC (.str l24 c25) (.str l16 c17) <|
 k9 (Av n22 (Int.ofNat m19)) h21)
 (k9 false h)) fun b11 h10 =>
 cnd b11
 (fI (wrap .i64 (Cf n_7 (Int.ofNat 1))) fun n26 =>
 J.a2 v_0 n_1 v_5 n_6 n26 h10)
 (De n_6 fun m27 =>
 Cc 1 m27 v_5 fun v28 =>
 ld1 v28 h10 fun v29 =>
 asS v29 fun l30 _ =>
 cnd (Av n_7 (Int.ofNat l30))
 (k (.int .i64 n_7) h10)
 (fI (wrap .i64 (Cf n_6 (Int.ofNat 1))) fun n32 =>
 J.a1 v_0 n_1 v_5 n32 h10))
def Bds : Afn := ⟨fun _ _ _ => False, fun _ _ _ _ _ => False, fun _ _ _ _ _ _ => False⟩
def Ye (c : CF) (k : KV) (m : Nat) : Afn := Nat.rec Bds (fun _ J => ⟨Ada c k J, Ac9 c k J, Ac8 c k J⟩) m
def f135 (J : Afn) : Jump := fun L f h => match L with
  | 0 => asI .i64 (f 1) fun n_1 => J.a0 (f 0) n_1 h
  | 1 => asI .i64 (f 1) fun n_1 => asI .i64 (f 6) fun n_6 => J.a1 (f 0) n_1 (f 5) n_6 h
  | 2 => asI .i64 (f 1) fun n_1 => asI .i64 (f 6) fun n_6 => asI .i64 (f 7) fun n_7 => J.a2 (f 0) n_1 (f 5) n_6 n_7 h
  | _ => False
def Auy : Ax := [(.root, 0), ((.l (.r (.l (.r (.r .root))))), 1), ((.l (.l (.r (.l (.l (.r (.l (.l (.r (.l (.r (.r .root)))))))))))), 2)]
def d136 : Code := Option.rec .skip (fun c => c) Tryz.f136.body
def A9o : An := []
structure Aud where
  a0 : AV → Nat → Nat → H → Prop
def Ac7 (_c : CF) (k : KV) (_J : Aud) (v_0 : AV) (l_1 c_1 : Nat) (h : H) : Prop :=
 asG v_0 fun g1 =>
 chk (Nat.ble 1 (len g1)) <|
 Hp.Dm h (rowOf 43 g1) fun p2 h3 =>
 Ao 0 (.ptr p2 0) fun v4 =>
 ld1 v4 h3 fun v5 =>
 asI .i64 v5 fun n6 =>
 Al (fun k7 => gate true (Av n6 (Int.ofNat 5))
 (Ao 1 (.ptr p2 0) fun v10 =>
 ld1 v10 h3 fun v11 =>
 asS v11 fun l12 c13 =>
 k7 (Bm l12 c13 l_1 c_1) h3)
 (k7 false h3)) fun b9 h8 =>
 k (.bool b9) h8
def Bdr : Aud := ⟨fun _ _ _ _ => False⟩
def Apz (c : CF) (k : KV) (m : Nat) : Aud := Nat.rec Bdr (fun _ J => ⟨Ac7 c k J⟩) m
def f136 (J : Aud) : Jump := fun L f h => match L with
  | 0 => asS (f 1) fun l_1 c_1 => J.a0 (f 0) l_1 c_1 h
  | _ => False
def A8j : Ax := [(.root, 0)]
def d137 : Code := Option.rec .skip (fun c => c) Tryz.f137.body
def A14 : An := []
def A0d : Ax := [(.root, 0)]
def d138 : Code := Option.rec .skip (fun c => c) Tryz.f138.body
def A13 : An := []
def A0c : Ax := [(.root, 0), ((.l (.r .root)), 1)]
def d139 : Code := Option.rec .skip (fun c => c) Tryz.f139.body
def A9n : An := []
structure Auc where
  a0 : AV → Bool → H → Prop
def Ac6 (c : CF) (k : KV) (_J : Auc) (v_0 : AV) (b_1 : Bool) (h : H) : Prop :=
 Hp.Dm h Dd fun p1 h2 =>
 c (.func 88) [v_0, (.str 1 43)] h2 fun v3 h4 =>
 asB v3 fun b5 =>
 cnd b5
 (c (.func 139) [v_0, (.bool b_1)] h4 fun v6 h7 =>
 stn 2 (.ptr p1 0) v6 h7 fun h8 =>
 ldn 2 (.ptr p1 0) h8 fun v9 =>
 k v9 h8)
 (c (.func 88) [v_0, (.str 1 45)] h4 fun v10 h11 =>
 asB v10 fun b12 =>
 cnd b12
 (c (.func 139) [v_0, (.bool b_1)] h11 fun v13 h14 =>
 stn 2 (.ptr p1 0) v13 h14 fun h15 =>
 Ao 0 (.ptr p1 0) fun v16 =>
 ld1 v16 h15 fun v17 =>
 asI .u64 v17 fun n18 =>
 oV (unA .neg (.int .u64 n18)) fun v19 =>
 asI .u64 v19 fun n20 =>
 Ao 0 (.ptr p1 0) fun v21 =>
 st1 v21 (.int .u64 n20) h15 fun h22 =>
 ldn 2 (.ptr p1 0) h22 fun v23 =>
 stn 2 (.ptr p1 0) v23 h22 fun h24 =>
 ldn 2 (.ptr p1 0) h24 fun v25 =>
 k v25 h24)
 (c (.func 88) [v_0, (.str 1 126)] h11 fun v26 h27 =>
 asB v26 fun b28 =>
 cnd b28
 (c (.func 139) [v_0, (.bool b_1)] h27 fun v29 h30 =>
 stn 2 (.ptr p1 0) v29 h30 fun h31 =>
 Ao 0 (.ptr p1 0) fun v32 =>
 ld1 v32 h31 fun v33 =>
 asI .u64 v33 fun n34 =>
 oV (unA .xor (.int .u64 n34)) fun v35 =>
 asI .u64 v35 fun n36 =>
 Ao 0 (.ptr p1 0) fun v37 =>
 st1 v37 (.int .u64 n36) h31 fun h38 =>
 ldn 2 (.ptr p1 0) h38 fun v39 =>
 stn 2 (.ptr p1 0) v39 h38 fun h40 =>
 ldn 2 (.ptr p1 0) h40 fun v41 =>
 k v41 h40)
 (c (.func 88) [v_0, (.str 1 33)] h27 fun v42 h43 =>
 asB v42 fun b44 =>
 cnd b44
 (c (.func 139) [v_0, (.bool b_1)] h43 fun v45 h46 =>
 Awo 0 v45 fun v47 =>
 asI .u64 v47 fun n48 =>
 c (.func 141) [(.bool (Av n48 (Int.ofNat 0)))] h46 fun v49 h50 =>
 stn 2 (.ptr p1 0) v49 h50 fun h51 =>
 ldn 2 (.ptr p1 0) h51 fun v52 =>
 k v52 h51)
 (c (.func 88) [v_0, (.str 1 40)] h43 fun v53 h54 =>
 asB v53 fun b55 =>
 cnd b55
 (c (.func 49) [v_0, (.bool b_1)] h54 fun v56 h57 =>
 stn 2 (.ptr p1 0) v56 h57 fun h58 =>
 oK (Cz v_0 h58) fun v59 h60 =>
 Ao 2 v59 fun v61 =>
 ld1 v61 h60 fun v62 =>
 asB v62 fun b63 =>
 Al (fun k64 => gate false b63
 (c (.func 88) [v_0, (.str 1 41)] h60 fun v67 h68 =>
 asB v67 fun b69 =>
 k64 (Ck b69) h68)
 (k64 true h60)) fun b66 h65 =>
 oK (Cz v_0 h65) fun v70 h71 =>
 Ao 2 v70 fun v72 =>
 st1 v72 (.bool b66) h71 fun h73 =>
 ldn 2 (.ptr p1 0) h73 fun v74 =>
 stn 2 (.ptr p1 0) v74 h73 fun h75 =>
 ldn 2 (.ptr p1 0) h75 fun v76 =>
 k v76 h75)
 (c (.func 184) [v_0] h54 fun v77 h78 =>
 stn 2 (.ptr p1 0) v77 h78 fun h79 =>
 ldn 2 (.ptr p1 0) h79 fun v80 =>
 k v80 h79)))))
def z139 : Auc := ⟨fun _ _ _ => False⟩
def Apy (c : CF) (k : KV) (m : Nat) : Auc := Nat.rec z139 (fun _ J => ⟨Ac6 c k J⟩) m
def f139 (J : Auc) : Jump := fun L f h => match L with
  | 0 => asB (f 1) fun b_1 => J.a0 (f 0) b_1 h
  | _ => False
def A8i : Ax := [(.root, 0)]
def d140 : Code := Option.rec .skip (fun c => c) Tryz.f140.body
def A12 : An := [(1, [0, 1, 2, 3, 4, 5, 6, 7, 8, 9, 10, 11, 12, 13, 14, 15, 16, 17, 18, 19, 20, 21, 22, 23]), (3, [0, 1, 2, 3, 4, 5, 6, 7, 8, 9, 10, 11])]
structure Aj9 where
  a0 : AV → H → Prop
  a1 : Nat → Nat → AV → Int → Int → H → Prop
def Ac5 (_c : CF) (k : KV) (J : Aj9) (v_0 : AV) (h : H) : Prop :=
 oK (Cz v_0 h) fun v1 h2 =>
 Ao 1 v1 fun v3 =>
 ld1 v3 h2 fun v4 =>
 asI .i64 v4 fun n5 =>
 oK (Cz v_0 h2) fun v6 h7 =>
 Ao 0 v6 fun v8 =>
 ld1 v8 h7 fun v9 =>
 Gg v9 fun m10 =>
 Al (fun k11 => gate false (Gu (Int.ofNat m10) n5)
 (oK (Cz v_0 h7) fun v14 h15 =>
 Ao 0 v14 fun v16 =>
 ld1 v16 h15 fun v17 =>
 oK (Cz v_0 h15) fun v18 h19 =>
 Ao 1 v18 fun v20 =>
 ld1 v20 h19 fun v21 =>
 asI .i64 v21 fun n22 =>
 De n22 fun m23 =>
 Cc 8 m23 v17 fun v24 =>
 Ao 0 v24 fun v25 =>
 ld1 v25 h19 fun v26 =>
 asI .i64 v26 fun n27 =>
 k11 (Ck (Av n27 (Int.ofNat 5))) h19)
 (k11 true h7)) fun b13 h12 =>
 cnd b13
 (k (.tuple [(.str 0 0), (.int .i64 (Int.ofNat 0))]) h12)
 (oK (Cz v_0 h12) fun v28 h29 =>
 Ao 0 v28 fun v30 =>
 ld1 v30 h29 fun v31 =>
 oK (Cz v_0 h29) fun v32 h33 =>
 Ao 1 v32 fun v34 =>
 ld1 v34 h33 fun v35 =>
 asI .i64 v35 fun n36 =>
 De n36 fun m37 =>
 Cc 8 m37 v31 fun v38 =>
 Ao 1 v38 fun v39 =>
 ld1 v39 h33 fun v40 =>
 asS v40 fun l41 c42 =>
 oK (Ak env 44 (fun e ei => Ae 1 [(0, (.str 2 31868))] h33 e ei)) fun v43 h44 =>
 oK (Ak env 44 (fun e ei => Ae 1 [(0, (.str 2 9766))] h44 e ei)) fun v45 h46 =>
 oK (Ak env 44 (fun e ei => Ae 1 [(0, (.str 1 124))] h46 e ei)) fun v47 h48 =>
 oK (Ak env 44 (fun e ei => Ae 1 [(0, (.str 1 94))] h48 e ei)) fun v49 h50 =>
 oK (Ak env 44 (fun e ei => Ae 1 [(0, (.str 1 38))] h50 e ei)) fun v51 h52 =>
 oK (Ak env 44 (fun e ei => Ae 2 [(0, (.str 2 15677)), (1, (.str 2 15649))] h52 e ei)) fun v53 h54 =>
 oK (Ak env 44 (fun e ei => Ae 4 [(0, (.str 1 60)), (1, (.str 1 62)), (2, (.str 2 15676)), (3, (.str 2 15678))] h54 e ei)) fun v55 h56 =>
 oK (Ak env 44 (fun e ei => Ae 2 [(0, (.str 2 15420)), (1, (.str 2 15934))] h56 e ei)) fun v57 h58 =>
 oK (Ak env 44 (fun e ei => Ae 2 [(0, (.str 1 43)), (1, (.str 1 45))] h58 e ei)) fun v59 h60 =>
 oK (Ak env 44 (fun e ei => Ae 3 [(0, (.str 1 42)), (1, (.str 1 47)), (2, (.str 1 37))] h60 e ei)) fun v61 h62 =>
 oK (Ak env 245 (fun e ei => Ae 10 [(0, v43), (1, v45), (2, v47), (3, v49), (4, v51), (5, v53), (6, v55), (7, v57), (8, v59), (9, v61)] h62 e ei)) fun v63 h64 =>
 Gg v63 fun m65 =>
 J.a1 l41 c42 v63 (Int.ofNat m65) (Int.ofNat 0) h64)
def Ac4 (c : CF) (k : KV) (J : Aj9) (l_2 c_2 : Nat) (v_51 : AV) (n_52 n_53 : Int) (h : H) : Prop :=
 cnd (Cs n_53 n_52)
 (De n_53 fun m66 =>
 Cc 1 m66 v_51 fun v67 =>
 ld1 v67 h fun v68 =>
 c (.func 185) [v68, (.str l_2 c_2)] h fun v69 h70 =>
 asB v69 fun b71 =>
 cnd b71
 (fI (wrap .i64 (Cf n_53 (Int.ofNat 1))) fun n72 =>
 k (.tuple [(.str l_2 c_2), (.int .i64 n72)]) h70)
 (fI (wrap .i64 (Cf n_53 (Int.ofNat 1))) fun n73 =>
 J.a1 l_2 c_2 v_51 n_52 n73 h70))
 (k (.tuple [(.str 0 0), (.int .i64 (Int.ofNat 0))]) h)
def Bdq : Aj9 := ⟨fun _ _ => False, fun _ _ _ _ _ _ => False⟩
def Adv (c : CF) (k : KV) (m : Nat) : Aj9 := Nat.rec Bdq (fun _ J => ⟨Ac5 c k J, Ac4 c k J⟩) m
def f140 (J : Aj9) : Jump := fun L f h => match L with
  | 0 => J.a0 (f 0) h
  | 1 => asS (f 2) fun l_2 c_2 => asI .i64 (f 52) fun n_52 => asI .i64 (f 53) fun n_53 => J.a1 l_2 c_2 (f 51) n_52 n_53 h
  | _ => False
def A0b : Ax := [(.root, 0), ((.l (.r (.l (.r (.r (.r .root)))))), 1)]
def d141 : Code := Option.rec .skip (fun c => c) Tryz.f141.body
def A11 : An := []
def A0a : Ax := [(.root, 0)]
def d142 : Code := Option.rec .skip (fun c => c) Tryz.f142.body
def Avn : An := []
structure Afm where
  a0 : AV → Nat → Nat → AV → AV → Bool → H → Prop
  a1 : Nat → Nat → AV → AV → AV → Bool → Bool → H → Prop
  a2 : AV → Nat → Nat → Bool → AV → AV → AV → Bool → AV → Nat → Nat → Bool → H → Prop
def Ac3 (_c : CF) (k : KV) (J : Afm) (v_0 : AV) (l_1 c_1 : Nat) (v_2 v_3 : AV) (b_4 : Bool) (h : H) : Prop :=
 asG v_2 fun g1 =>
 chk (Nat.ble 1 (len g1)) <|
 Hp.Dm h (rowOf 55 g1) fun p2 h3 =>
 asG v_3 fun g4 =>
 chk (Nat.ble 1 (len g4)) <|
 Hp.Dm h3 (rowOf 55 g4) fun p5 h6 =>
 Hp.Dm h6 Dd fun p7 h8 =>
 Ao 1 (.ptr p2 0) fun v9 =>
 ld1 v9 h8 fun v10 =>
 asB v10 fun b11 =>
 Al (fun k12 => gate false b11
 (Ao 1 (.ptr p5 0) fun v15 =>
 ld1 v15 h8 fun v16 =>
 asB v16 fun b17 =>
 k12 b17 h8)
 (k12 true h8)) fun b14 h13 =>
 oK (Bt env (env.ty 55) [(1, (.bool b14))] h13) fun v18 h19 =>
 Hp.Dm h19 Dd fun p20 h21 =>
 stn 2 (.ptr p20 0) v18 h21 fun h22 =>
 cnd (Bm l_1 c_1 1 124)
 (Ao 0 (.ptr p2 0) fun v23 =>
 ld1 v23 h22 fun v24 =>
 asI .u64 v24 fun n25 =>
 Ao 0 (.ptr p5 0) fun v26 =>
 ld1 v26 h22 fun v27 =>
 asI .u64 v27 fun n28 =>
 Ml Nat.lor .u64 n25 n28 fun n29 =>
 Ao 0 (.ptr p20 0) fun v30 =>
 st1 v30 (.int .u64 n29) h22 fun h31 =>
 ldn 2 (.ptr p20 0) h31 fun v32 =>
 stn 2 (.ptr p7 0) v32 h31 fun h33 =>
 ldn 2 (.ptr p7 0) h33 fun v34 =>
 k v34 h33)
 (cnd (Bm l_1 c_1 1 94)
 (Ao 0 (.ptr p2 0) fun v35 =>
 ld1 v35 h22 fun v36 =>
 asI .u64 v36 fun n37 =>
 Ao 0 (.ptr p5 0) fun v38 =>
 ld1 v38 h22 fun v39 =>
 asI .u64 v39 fun n40 =>
 Ml Nat.xor .u64 n37 n40 fun n41 =>
 Ao 0 (.ptr p20 0) fun v42 =>
 st1 v42 (.int .u64 n41) h22 fun h43 =>
 ldn 2 (.ptr p20 0) h43 fun v44 =>
 stn 2 (.ptr p7 0) v44 h43 fun h45 =>
 ldn 2 (.ptr p7 0) h45 fun v46 =>
 k v46 h45)
 (cnd (Bm l_1 c_1 1 38)
 (Ao 0 (.ptr p2 0) fun v47 =>
 ld1 v47 h22 fun v48 =>
 asI .u64 v48 fun n49 =>
 Ao 0 (.ptr p5 0) fun v50 =>
 ld1 v50 h22 fun v51 =>
 asI .u64 v51 fun n52 =>
 Ml Nat.land .u64 n49 n52 fun n53 =>
 Ao 0 (.ptr p20 0) fun v54 =>
 st1 v54 (.int .u64 n53) h22 fun h55 =>
 ldn 2 (.ptr p20 0) h55 fun v56 =>
 stn 2 (.ptr p7 0) v56 h55 fun h57 =>
 ldn 2 (.ptr p7 0) h57 fun v58 =>
 k v58 h57)
 (cnd (Bm l_1 c_1 1 43)
 (Ao 0 (.ptr p2 0) fun v59 =>
 ld1 v59 h22 fun v60 =>
 asI .u64 v60 fun n61 =>
 Ao 0 (.ptr p5 0) fun v62 =>
 ld1 v62 h22 fun v63 =>
 asI .u64 v63 fun n64 =>
 fI (wrap .u64 (Cf n61 n64)) fun n65 =>
 Ao 0 (.ptr p20 0) fun v66 =>
 st1 v66 (.int .u64 n65) h22 fun h67 =>
 ldn 2 (.ptr p20 0) h67 fun v68 =>
 stn 2 (.ptr p7 0) v68 h67 fun h69 =>
 ldn 2 (.ptr p7 0) h69 fun v70 =>
 k v70 h69)
 (cnd (Bm l_1 c_1 1 45)
 (Ao 0 (.ptr p2 0) fun v71 =>
 ld1 v71 h22 fun v72 =>
 asI .u64 v72 fun n73 =>
 Ao 0 (.ptr p5 0) fun v74 =>
 ld1 v74 h22 fun v75 =>
 asI .u64 v75 fun n76 =>
 fI (wrap .u64 (Kv n73 n76)) fun n77 =>
 Ao 0 (.ptr p20 0) fun v78 =>
 st1 v78 (.int .u64 n77) h22 fun h79 =>
 ldn 2 (.ptr p20 0) h79 fun v80 =>
 stn 2 (.ptr p7 0) v80 h79 fun h81 =>
 ldn 2 (.ptr p7 0) h81 fun v82 =>
 k v82 h81)
 (cnd (Bm l_1 c_1 1 42)
 (Ao 0 (.ptr p2 0) fun v83 =>
 ld1 v83 h22 fun v84 =>
 asI .u64 v84 fun n85 =>
 Ao 0 (.ptr p5 0) fun v86 =>
 ld1 v86 h22 fun v87 =>
 asI .u64 v87 fun n88 =>
 fI (wrap .u64 (n85 * n88)) fun n89 =>
 Ao 0 (.ptr p20 0) fun v90 =>
 st1 v90 (.int .u64 n89) h22 fun h91 =>
 ldn 2 (.ptr p20 0) h91 fun v92 =>
 stn 2 (.ptr p7 0) v92 h91 fun h93 =>
 ldn 2 (.ptr p7 0) h93 fun v94 =>
 k v94 h93)
 (cnd (Bm l_1 c_1 1 47)
 (J.a2 v_0 l_1 c_1 b_4 (.ptr p2 0) (.ptr p5 0) (.ptr p7 0) b14 (.ptr p20 0) l_1 c_1 (Bm l_1 c_1 1 47) h22)
 (J.a2 v_0 l_1 c_1 b_4 (.ptr p2 0) (.ptr p5 0) (.ptr p7 0) b14 (.ptr p20 0) l_1 c_1 (Bm l_1 c_1 1 37) h22)))))))
def Ac2 (c : CF) (k : KV) (_J : Afm) (l_1 c_1 : Nat) (v_7 v_8 v_10 : AV) (b_11 b_103 : Bool) (h : H) : Prop :=
 cnd b_103
 (ldn 2 v_7 h fun v95 =>
 Ao 0 v_8 fun v96 =>
 ld1 v96 h fun v97 =>
 asI .u64 v97 fun n98 =>
 Ml Nat.land .u64 n98 (Int.ofNat 63) fun n99 =>
 c (.func 187) [(.str l_1 c_1), v95, (.int .u64 n99)] h fun v100 h101 =>
 stn 2 v_10 v100 h101 fun h102 =>
 ldn 2 v_10 h102 fun v103 =>
 k v103 h102)
 (Ao 0 v_7 fun v104 =>
 ld1 v104 h fun v105 =>
 asI .u64 v105 fun n106 =>
 Ao 0 v_8 fun v107 =>
 ld1 v107 h fun v108 =>
 asI .u64 v108 fun n109 =>
 c (.func 188) [(.str l_1 c_1), (.int .u64 n106), (.int .u64 n109), (.bool b_11)] h fun v110 h111 =>
 asB v110 fun b112 =>
 c (.func 141) [(.bool b112)] h111 fun v113 h114 =>
 stn 2 v_10 v113 h114 fun h115 =>
 ldn 2 v_10 h115 fun v116 =>
 k v116 h115)
def Ac1 (c : CF) (k : KV) (J : Afm) (v_0 : AV) (l_1 c_1 : Nat) (b_4 : Bool) (v_7 v_8 v_10 : AV) (b_11 : Bool) (v_12 : AV) (l_21 c_21 : Nat) (b_78 : Bool) (h : H) : Prop :=
 cnd b_78
 (Ao 0 v_8 fun v117 =>
 ld1 v117 h fun v118 =>
 asI .u64 v118 fun n119 =>
 cnd (Av n119 (Int.ofNat 0))
 (oK (Cz v_0 h) fun v120 h121 =>
 Ao 2 v120 fun v122 =>
 ld1 v122 h121 fun v123 =>
 asB v123 fun b124 =>
 Al (fun k125 => gate false b124
 (k125 b_4 h121)
 (k125 true h121)) fun b127 h126 =>
 oK (Cz v_0 h126) fun v128 h129 =>
 Ao 2 v128 fun v130 =>
 st1 v130 (.bool b127) h129 fun h131 =>
 ldn 2 v_12 h131 fun v132 =>
 stn 2 v_10 v132 h131 fun h133 =>
 ldn 2 v_10 h133 fun v134 =>
 k v134 h133)
 (Ao 0 v_7 fun v135 =>
 ld1 v135 h fun v136 =>
 asI .u64 v136 fun n137 =>
 Ao 0 v_8 fun v138 =>
 ld1 v138 h fun v139 =>
 asI .u64 v139 fun n140 =>
 c (.func 186) [(.str l_1 c_1), (.int .u64 n137), (.int .u64 n140), (.bool b_11)] h fun v141 h142 =>
 asI .u64 v141 fun n143 =>
 Ao 0 v_12 fun v144 =>
 st1 v144 (.int .u64 n143) h142 fun h145 =>
 ldn 2 v_12 h145 fun v146 =>
 stn 2 v_10 v146 h145 fun h147 =>
 ldn 2 v_10 h147 fun v148 =>
 k v148 h147))
 (cnd (Bm l_21 c_21 2 15420)
 (J.a1 l_1 c_1 v_7 v_8 v_10 b_11 (Bm l_21 c_21 2 15420) h)
 (J.a1 l_1 c_1 v_7 v_8 v_10 b_11 (Bm l_21 c_21 2 15934) h))
def Bdp : Afm := ⟨fun _ _ _ _ _ _ _ => False, fun _ _ _ _ _ _ _ _ => False, fun _ _ _ _ _ _ _ _ _ _ _ _ _ => False⟩
def Yd (c : CF) (k : KV) (m : Nat) : Afm := Nat.rec Bdp (fun _ J => ⟨Ac3 c k J, Ac2 c k J, Ac1 c k J⟩) m
def f142 (J : Afm) : Jump := fun L f h => match L with
  | 0 => asS (f 1) fun l_1 c_1 => asB (f 4) fun b_4 => J.a0 (f 0) l_1 c_1 (f 2) (f 3) b_4 h
  | 1 => asS (f 1) fun l_1 c_1 => asB (f 11) fun b_11 => asB (f 103) fun b_103 => J.a1 l_1 c_1 (f 7) (f 8) (f 10) b_11 b_103 h
  | 2 => asS (f 1) fun l_1 c_1 => asB (f 4) fun b_4 => asB (f 11) fun b_11 => asS (f 21) fun l_21 c_21 => asB (f 78) fun b_78 => J.a2 (f 0) l_1 c_1 b_4 (f 7) (f 8) (f 10) b_11 (f 12) l_21 c_21 b_78 h
  | _ => False
def Aux : Ax := [(.root, 0), ((.r (.r (.r (.r (.r (.r (.r (.r (.r (.r (.r (.r (.r (.r (.r (.l (.r (.l (.r (.r (.r .root))))))))))))))))))))), 1), ((.r (.r (.r (.r (.r (.r (.r (.r (.r (.r (.r (.r (.r (.l (.r (.l (.r (.r (.r .root))))))))))))))))))), 2)]
def d147 : Code := Option.rec .skip (fun c => c) Tryz.f147.body
def A10 : An := []
def Az9 : Ax := [(.root, 0)]
def d149 : Code := Option.rec .skip (fun c => c) Tryz.f149.body
def A1z : An := []
def Az8 : Ax := [(.root, 0)]
def d154 : Code := Option.rec .skip (fun c => c) Tryz.f154.body
def A1y : An := []
def Az7 : Ax := [(.root, 0), ((.l (.r .root)), 1)]
def d155 : Code := Option.rec .skip (fun c => c) Tryz.f155.body
def A1x : An := [(1, [0, 1, 2, 3, 4, 5, 6, 7, 8, 9, 10, 11, 12, 13, 14])]
def Az6 : Ax := [(.root, 0)]
def d156 : Code := Option.rec .skip (fun c => c) Tryz.f156.body
def A1w : An := [(7, [0, 1, 2, 3, 4, 5, 6, 7, 8, 9, 10, 11, 12]), (8, [0, 1, 2, 3, 4, 5, 6, 7, 8, 9, 10, 11]), (9, [0, 1, 2, 3, 4, 5, 6, 7, 8, 9, 10, 11])]
def Az5 : Ax := [(.root, 0), ((.r (.r (.r (.r .root)))), 1)]
def d157 : Code := Option.rec .skip (fun c => c) Tryz.f157.body
def A1v : An := []
def Az4 : Ax := [(.root, 0), ((.r (.r .root)), 1)]
def d158 : Code := Option.rec .skip (fun c => c) Tryz.f158.body
def A1u : An := [(17, [0, 1, 2, 3, 4, 5, 6, 7, 8, 9, 10, 11, 12, 13, 14])]
def Az3 : Ax := [(.root, 0), ((.l (.r (.r .root))), 1), ((.r (.r (.r (.r (.r (.r (.r (.l (.l (.l (.r (.r .root)))))))))))), 2), ((.r (.r (.r (.r (.r (.r (.l (.l (.l (.r (.r .root))))))))))), 3), ((.r (.r (.r (.r (.l (.l (.l (.r (.r .root))))))))), 4)]
def d159 : Code := Option.rec .skip (fun c => c) Tryz.f159.body
def A1t : An := []
def Az2 : Ax := [(.root, 0)]
def d168 : Code := Option.rec .skip (fun c => c) Tryz.f168.body
def A1s : An := []
def Az1 : Ax := [(.root, 0), ((.l (.r (.l (.r .root)))), 1)]
def d169 : Code := Option.rec .skip (fun c => c) Tryz.f169.body
def A1r : An := []
structure Aj8 where
  a0 : Nat → Nat → AV → H → Prop
  a1 : Nat → Nat → AV → H → Prop
def Ac0 (_c : CF) (_k : KV) (J : Aj8) (l_0 c_0 : Nat) (v_1 : AV) (h : H) : Prop :=
 J.a1 l_0 c_0 v_1 h
def Acz (c : CF) (k : KV) (J : Aj8) (l_0 c_0 : Nat) (v_1 : AV) (h : H) : Prop :=
 cnd (Cs (Int.ofNat 0) (Int.ofNat l_0))
 (fI (wrap .i64 (Kv (Int.ofNat l_0) (Int.ofNat 1))) fun n1 =>
 De n1 fun m2 =>
 Jf l_0 c_0 m2 fun m3 =>
 c (.func 215) [v_1, (.int .u8 (Int.ofNat m3))] h fun v4 h5 =>
 asB v4 fun b6 =>
 cnd (Ck b6)
 (k (.str l_0 c_0) h5)
 (fI (wrap .i64 (Kv (Int.ofNat l_0) (Int.ofNat 1))) fun n7 =>
 De n7 fun m8 =>
 Oo l_0 c_0 0 m8 fun l9 c10 =>
 J.a1 l9 c10 v_1 h5))
 (k (.str l_0 c_0) h)
def Bdo : Aj8 := ⟨fun _ _ _ _ => False, fun _ _ _ _ => False⟩
def Age (c : CF) (k : KV) (m : Nat) : Aj8 := Nat.rec Bdo (fun _ J => ⟨Ac0 c k J, Acz c k J⟩) m
def f169 (J : Aj8) : Jump := fun L f h => match L with
  | 0 => asS (f 0) fun l_0 c_0 => J.a0 l_0 c_0 (f 1) h
  | 1 => asS (f 0) fun l_0 c_0 => J.a1 l_0 c_0 (f 1) h
  | _ => False
def Az0 : Ax := [(.root, 0), ((.l (.l (.r .root))), 1)]
def d171 : Code := Option.rec .skip (fun c => c) Tryz.f171.body
def A9m : An := []
structure Aub where
  a0 : Nat → Nat → Nat → Nat → H → Prop
def Acy (_c : CF) (k : KV) (_J : Aub) (l_0 c_0 : Nat) (l_1 c_1 : Nat) (h : H) : Prop :=
 Al (fun k1 => gate true (Gu (Int.ofNat l_1) (Int.ofNat l_0))
 (Oo l_0 c_0 0 l_1 fun l4 c5 =>
 k1 (Bm l4 c5 l_1 c_1) h)
 (k1 false h)) fun b3 h2 =>
 k (.bool b3) h2
def z171 : Aub := ⟨fun _ _ _ _ _ => False⟩
def Apx (c : CF) (k : KV) (m : Nat) : Aub := Nat.rec z171 (fun _ J => ⟨Acy c k J⟩) m
def f171 (J : Aub) : Jump := fun L f h => match L with
  | 0 => asS (f 0) fun l_0 c_0 => asS (f 1) fun l_1 c_1 => J.a0 l_0 c_0 l_1 c_1 h
  | _ => False
def A8h : Ax := [(.root, 0)]
def d172 : Code := Option.rec .skip (fun c => c) Tryz.f172.body
def A9l : An := []
structure Aua where
  a0 : Nat → Nat → Nat → Nat → H → Prop
def Acx (c : CF) (k : KV) (_J : Aua) (l_0 c_0 : Nat) (l_1 c_1 : Nat) (h : H) : Prop :=
 Al (fun k1 => gate false (Bm l_0 c_0 0 0)
 (k1 (Bm l_1 c_1 0 0) h)
 (k1 true h)) fun b3 h2 =>
 cnd b3
 (k (.str l_0 c_0) h2)
 (Al (fun k4 => gate true (Av (Int.ofNat l_1) (Int.ofNat 1))
 (Jf l_1 c_1 0 fun m7 =>
 k4 (Cs (Int.ofNat m7) (Int.ofNat 128)) h2)
 (k4 false h2)) fun b6 h5 =>
 cnd b6
 (Jf l_1 c_1 0 fun m8 =>
 c (.func 218) [(.str l_0 c_0), (.int .u8 (Int.ofNat m8))] h5 fun v9 h10 =>
 asS v9 fun l11 c12 =>
 k (.str l11 c12) h10)
 (c (.func 168) [(.str l_1 c_1)] h5 fun v13 h14 =>
 ext 0 v13 fun v15 =>
 ext 1 v13 fun v16 =>
 asB v16 fun b17 =>
 Hp.Dm h14 Ax1 fun p18 h19 =>
 stn 256 (.ptr p18 0) v15 h19 fun h20 =>
 cnd b17
 (c (.func 219) [(.str l_0 c_0), (.ptr p18 0)] h20 fun v21 h22 =>
 asS v21 fun l23 c24 =>
 k (.str l23 c24) h22)
 (c (.func 220) [(.str l_0 c_0), (.str l_1 c_1)] h20 fun v25 h26 =>
 asS v25 fun l27 c28 =>
 k (.str l27 c28) h26)))
def Bdn : Aua := ⟨fun _ _ _ _ _ => False⟩
def Apw (c : CF) (k : KV) (m : Nat) : Aua := Nat.rec Bdn (fun _ J => ⟨Acx c k J⟩) m
def f172 (J : Aua) : Jump := fun L f h => match L with
  | 0 => asS (f 0) fun l_0 c_0 => asS (f 1) fun l_1 c_1 => J.a0 l_0 c_0 l_1 c_1 h
  | _ => False
def A8g : Ax := [(.root, 0)]
def d173 : Code := Option.rec .skip (fun c => c) Tryz.f173.body
def Aiu : An := []
structure Ss where
  a0 : Nat → Nat → Int → Int → H → Prop
  a1 : Int → Bool → Nat → Nat → Int → Int → Bool → Int → AV → Int → Int → H → Prop
  a2 : Int → Bool → Nat → Nat → Int → Int → Bool → Int → Int → AV → Int → Int → H → Prop
  a3 : Nat → Nat → Int → Int → Bool → Nat → Nat → Int → H → Prop
  a4 : Nat → Nat → Int → Int → Bool → Nat → Nat → H → Prop
  a5 : Nat → Nat → Int → Int → Bool → Nat → Nat → H → Prop
def Acw (c : CF) (k : KV) (J : Ss) (l_0 c_0 : Nat) (n_1 n_2 : Int) (h : H) : Prop :=
 cnd (Bm l_0 c_0 0 0)
 (k (.tuple [(.int .u64 (Int.ofNat 0)), (.iface 304 (.int .i64 (Int.ofNat 2)))]) h)
 (Al (fun k1 => gate true (Gu (Int.ofNat 2) n_1)
 (k1 (Gu n_1 (Int.ofNat 36)) h)
 (k1 false h)) fun b3 h2 =>
 cnd b3
 (J.a5 l_0 c_0 n_1 n_2 (Av n_1 (Int.ofNat 0)) l_0 c_0 h2)
 (cnd (Av n_1 (Int.ofNat 0))
 (Jf l_0 c_0 0 fun m4 =>
 cnd (Av (Int.ofNat m4) (Int.ofNat 48))
 (Al (fun k5 => gate true (Gu (Int.ofNat 3) (Int.ofNat l_0))
 (Jf l_0 c_0 1 fun m8 =>
 c (.func 221) [(.int .u8 (Int.ofNat m8))] h2 fun v9 h10 =>
 asI .u8 v9 fun n11 =>
 k5 (Av n11 (Int.ofNat 98)) h10)
 (k5 false h2)) fun b7 h6 =>
 cnd b7
 (Oo l_0 c_0 2 l_0 fun l12 c13 =>
 J.a5 l12 c13 (Int.ofNat 2) n_2 (Av n_1 (Int.ofNat 0)) l_0 c_0 h6)
 (Al (fun k14 => gate true (Gu (Int.ofNat 3) (Int.ofNat l_0))
 (Jf l_0 c_0 1 fun m17 =>
 c (.func 221) [(.int .u8 (Int.ofNat m17))] h6 fun v18 h19 =>
 asI .u8 v18 fun n20 =>
 k14 (Av n20 (Int.ofNat 111)) h19)
 (k14 false h6)) fun b16 h15 =>
 cnd b16
 (Oo l_0 c_0 2 l_0 fun l21 c22 =>
 J.a5 l21 c22 (Int.ofNat 8) n_2 (Av n_1 (Int.ofNat 0)) l_0 c_0 h15)
 (Al (fun k23 => gate true (Gu (Int.ofNat 3) (Int.ofNat l_0))
 (Jf l_0 c_0 1 fun m26 =>
 c (.func 221) [(.int .u8 (Int.ofNat m26))] h15 fun v27 h28 =>
 asI .u8 v27 fun n29 =>
 k23 (Av n29 (Int.ofNat 120)) h28)
 (k23 false h15)) fun b25 h24 =>
 cnd b25
 (Oo l_0 c_0 2 l_0 fun l30 c31 =>
 J.a5 l30 c31 (Int.ofNat 16) n_2 (Av n_1 (Int.ofNat 0)) l_0 c_0 h24)
 (Oo l_0 c_0 1 l_0 fun l32 c33 =>
 J.a5 l32 c33 (Int.ofNat 8) n_2 (Av n_1 (Int.ofNat 0)) l_0 c_0 h24))))
 (J.a5 l_0 c_0 (Int.ofNat 10) n_2 (Av n_1 (Int.ofNat 0)) l_0 c_0 h2))
 (k (.tuple [(.int .u64 (Int.ofNat 0)), (.iface 304 (.int .i64 (Int.ofNat 3)))]) h2)))
def Acv (c : CF) (k : KV) (J : Ss) (n_1 : Int) (b_8 : Bool) (l_9 c_9 : Nat) (n_10 n_11 : Int) (b_12 : Bool) (n_13 : Int) (v_99 : AV) (n_100 n_101 : Int) (h : H) : Prop :=
 cnd (Cs n_101 n_100)
 (De n_101 fun m34 =>
 Cc 1 m34 v_99 fun v35 =>
 ld1 v35 h fun v36 =>
 asI .u8 v36 fun n37 =>
 Al (fun k38 => gate true (Av n37 (Int.ofNat 95))
 (k38 b_8 h)
 (k38 false h)) fun b40 h39 =>
 cnd b40
 (fI (wrap .i64 (Cf n_101 (Int.ofNat 1))) fun n41 =>
 J.a1 n_1 b_8 l_9 c_9 n_10 n_11 true n_13 v_99 n_100 n41 h39)
 (Al (fun k42 => gate true (Gu (Int.ofNat 48) n37)
 (k42 (Gu n37 (Int.ofNat 57)) h39)
 (k42 false h39)) fun b44 h43 =>
 cnd b44
 (fI (wrap .u8 (Kv n37 (Int.ofNat 48))) fun n45 =>
 J.a2 n_1 b_8 l_9 c_9 n_10 n_11 b_12 n_13 n45 v_99 n_100 n_101 h43)
 (c (.func 221) [(.int .u8 n37)] h43 fun v46 h47 =>
 asI .u8 v46 fun n48 =>
 Al (fun k49 => gate true (Gu (Int.ofNat 97) n48)
 (c (.func 221) [(.int .u8 n37)] h47 fun v52 h53 =>
 asI .u8 v52 fun n54 =>
 k49 (Gu n54 (Int.ofNat 122)) h53)
 (k49 false h47)) fun b51 h50 =>
 cnd b51
 (c (.func 221) [(.int .u8 n37)] h50 fun v55 h56 =>
 asI .u8 v55 fun n57 =>
 fI (wrap .u8 (Kv n57 (Int.ofNat 97))) fun n58 =>
 fI (wrap .u8 (Cf n58 (Int.ofNat 10))) fun n59 =>
 J.a2 n_1 b_8 l_9 c_9 n_10 n_11 b_12 n_13 n59 v_99 n_100 n_101 h56)
 (k (.tuple [(.int .u64 (Int.ofNat 0)), (.iface 304 (.int .i64 (Int.ofNat 2)))]) h50))))
 (Al (fun k60 => gate true b_12
 (c (.func 222) [(.str l_9 c_9)] h fun v63 h64 =>
 asB v63 fun b65 =>
 k60 (Ck b65) h64)
 (k60 false h)) fun b62 h61 =>
 cnd b62
 (k (.tuple [(.int .u64 (Int.ofNat 0)), (.iface 304 (.int .i64 (Int.ofNat 2)))]) h61)
 (k (.tuple [(.int .u64 n_13), .Il]) h61))
def Acu (_c : CF) (k : KV) (J : Ss) (n_1 : Int) (b_8 : Bool) (l_9 c_9 : Nat) (n_10 n_11 : Int) (b_12 : Bool) (n_13 n_16 : Int) (v_99 : AV) (n_100 n_101 : Int) (h : H) : Prop :=
 fI (wrap .u8 n_1) fun n66 =>
 cnd (Gu n66 n_16)
 (k (.tuple [(.int .u64 (Int.ofNat 0)), (.iface 304 (.int .i64 (Int.ofNat 2)))]) h)
 (cnd (Gu n_10 n_13)
 (k (.tuple [(.int .u64 n_11), (.iface 304 (.int .i64 (Int.ofNat 1)))]) h)
 (fI (wrap .u64 n_1) fun n67 =>
 fI (wrap .u64 (n_13 * n67)) fun n68 =>
 fI (wrap .u64 n_16) fun n69 =>
 fI (wrap .u64 (Cf n68 n69)) fun n70 =>
 Al (fun k71 => gate false (Cs n70 n68)
 (k71 (Cs n_11 n70) h)
 (k71 true h)) fun b73 h72 =>
 cnd b73
 (k (.tuple [(.int .u64 n_11), (.iface 304 (.int .i64 (Int.ofNat 1)))]) h72)
 (fI (wrap .i64 (Cf n_101 (Int.ofNat 1))) fun n74 =>
 J.a1 n_1 b_8 l_9 c_9 n_10 n_11 b_12 n70 v_99 n_100 n74 h72)))
def Acs (_c : CF) (_k : KV) (J : Ss) (l_0 c_0 : Nat) (n_1 n_2 : Int) (b_8 : Bool) (l_9 c_9 : Nat) (n_10 : Int) (h : H) : Prop :=
 fI (wrap .u64 n_2) fun n75 =>
 Ain .u64 (Int.ofNat 1) n75 fun n76 =>
 fI (wrap .u64 (Kv n76 (Int.ofNat 1))) fun n77 =>
 oK (Ie env h 9 115 (.str l_0 c_0)) fun v78 h79 =>
 Gg v78 fun m80 =>
 J.a1 n_1 b_8 l_9 c_9 n_10 n77 false (Int.ofNat 0) v78 (Int.ofNat m80) (Int.ofNat 0) h79
def Acr (_c : CF) (_k : KV) (J : Ss) (l_0 c_0 : Nat) (n_1 n_2 : Int) (b_8 : Bool) (l_9 c_9 : Nat) (h : H) : Prop :=
 cnd (Av n_1 (Int.ofNat 10))
 (J.a3 l_0 c_0 n_1 n_2 b_8 l_9 c_9 (Int.ofNat 1844674407370955162) h)
 (cnd (Av n_1 (Int.ofNat 16))
 (J.a3 l_0 c_0 n_1 n_2 b_8 l_9 c_9 (Int.ofNat 1152921504606846976) h)
 (fI (wrap .u64 n_1) fun n81 =>
 Sf .u64 (Int.ofNat 18446744073709551615) n81 fun n82 =>
 fI (wrap .u64 (Cf n82 (Int.ofNat 1))) fun n83 =>
 J.a3 l_0 c_0 n_1 n_2 b_8 l_9 c_9 n83 h))
def Acq (_c : CF) (k : KV) (J : Ss) (l_0 c_0 : Nat) (n_1 n_2 : Int) (b_8 : Bool) (l_9 c_9 : Nat) (h : H) : Prop :=
 cnd (Av n_2 (Int.ofNat 0))
 (J.a4 l_0 c_0 n_1 (Int.ofNat 64) b_8 l_9 c_9 h)
 (Al (fun k84 => gate false (Cs n_2 (Int.ofNat 0))
 (k84 (Cs (Int.ofNat 64) n_2) h)
 (k84 true h)) fun b86 h85 =>
 cnd b86
 (k (.tuple [(.int .u64 (Int.ofNat 0)), (.iface 304 (.int .i64 (Int.ofNat 4)))]) h85)
 (J.a4 l_0 c_0 n_1 n_2 b_8 l_9 c_9 h85))
def z173 : Ss := ⟨fun _ _ _ _ _ => False, fun _ _ _ _ _ _ _ _ _ _ _ _ => False, fun _ _ _ _ _ _ _ _ _ _ _ _ _ => False, fun _ _ _ _ _ _ _ _ _ => False, fun _ _ _ _ _ _ _ _ => False, fun _ _ _ _ _ _ _ _ => False⟩
def Om (c : CF) (k : KV) (m : Nat) : Ss := Nat.rec z173 (fun _ J => ⟨Acw c k J, Acv c k J, Acu c k J, Acs c k J, Acr c k J, Acq c k J⟩) m
def f173 (J : Ss) : Jump := fun L f h => match L with
  | 0 => asS (f 0) fun l_0 c_0 => asI .i64 (f 1) fun n_1 => asI .i64 (f 2) fun n_2 => J.a0 l_0 c_0 n_1 n_2 h
  | 1 => asI .i64 (f 1) fun n_1 => asB (f 8) fun b_8 => asS (f 9) fun l_9 c_9 => asI .u64 (f 10) fun n_10 => asI .u64 (f 11) fun n_11 => asB (f 12) fun b_12 => asI .u64 (f 13) fun n_13 => asI .i64 (f 100) fun n_100 => asI .i64 (f 101) fun n_101 => J.a1 n_1 b_8 l_9 c_9 n_10 n_11 b_12 n_13 (f 99) n_100 n_101 h
  | 2 => asI .i64 (f 1) fun n_1 => asB (f 8) fun b_8 => asS (f 9) fun l_9 c_9 => asI .u64 (f 10) fun n_10 => asI .u64 (f 11) fun n_11 => asB (f 12) fun b_12 => asI .u64 (f 13) fun n_13 => asI .u8 (f 16) fun n_16 => asI .i64 (f 100) fun n_100 => asI .i64 (f 101) fun n_101 => J.a2 n_1 b_8 l_9 c_9 n_10 n_11 b_12 n_13 n_16 (f 99) n_100 n_101 h
  | 3 => asS (f 0) fun l_0 c_0 => asI .i64 (f 1) fun n_1 => asI .i64 (f 2) fun n_2 => asB (f 8) fun b_8 => asS (f 9) fun l_9 c_9 => asI .u64 (f 10) fun n_10 => J.a3 l_0 c_0 n_1 n_2 b_8 l_9 c_9 n_10 h
  | 4 => asS (f 0) fun l_0 c_0 => asI .i64 (f 1) fun n_1 => asI .i64 (f 2) fun n_2 => asB (f 8) fun b_8 => asS (f 9) fun l_9 c_9 => J.a4 l_0 c_0 n_1 n_2 b_8 l_9 c_9 h
  | 5 => asS (f 0) fun l_0 c_0 => asI .i64 (f 1) fun n_1 => asI .i64 (f 2) fun n_2 => asB (f 8) fun b_8 => asS (f 9) fun l_9 c_9 => J.a5 l_0 c_0 n_1 n_2 b_8 l_9 c_9 h
  | _ => False
def Aih : Ax := [(.root, 0), ((.l (.r (.l (.r (.r (.r (.r (.r (.r (.r (.r (.r (.r (.r .root)))))))))))))), 1), ((.r (.r (.r (.l (.l (.r (.r (.l (.l (.r (.l (.r (.r (.r (.r (.r (.r (.r (.r (.r (.r (.r .root)))))))))))))))))))))), 2), ((.r (.r (.r (.r (.r (.r (.r (.r .root)))))))), 3), ((.r (.r (.r (.r (.r (.r .root)))))), 4), ((.r (.r (.r (.r (.r .root))))), 5)]
def d181 : Code := Option.rec .skip (fun c => c) Tryz.f181.body
def A1q : An := []
structure Aj7 where
  a0 : Int → H → Prop
  a1 : Int → Int → H → Prop
def Acp (_c : CF) (_k : KV) (J : Aj7) (n_0 : Int) (h : H) : Prop :=
 J.a1 n_0 (Int.ofNat 0) h
def Aco (_c : CF) (k : KV) (J : Aj7) (n_0 n_4 : Int) (h : H) : Prop :=
 cnd (Cs n_4 (Int.ofNat 9))
 (De n_4 fun m1 =>
 Jf 9 834587979106535026493 m1 fun m2 =>
 cnd (Av (Int.ofNat m2) n_0)
 (De n_4 fun m3 =>
 Jf 9 2333331710704686619683 m3 fun m4 =>
 k (.tuple [(.int .u8 (Int.ofNat m4)), (.bool true)]) h)
 (fI (wrap .i64 (Cf n_4 (Int.ofNat 1))) fun n5 =>
 J.a1 n_0 n5 h))
 (k (.tuple [(.int .u8 (Int.ofNat 0)), (.bool false)]) h)
def Bdm : Aj7 := ⟨fun _ _ => False, fun _ _ _ => False⟩
def Agd (c : CF) (k : KV) (m : Nat) : Aj7 := Nat.rec Bdm (fun _ J => ⟨Acp c k J, Aco c k J⟩) m
def f181 (J : Aj7) : Jump := fun L f h => match L with
  | 0 => asI .u8 (f 0) fun n_0 => J.a0 n_0 h
  | 1 => asI .u8 (f 0) fun n_0 => asI .i64 (f 4) fun n_4 => J.a1 n_0 n_4 h
  | _ => False
def Azz : Ax := [(.root, 0), ((.l (.r (.l (.r .root)))), 1)]
def d182 : Code := Option.rec .skip (fun c => c) Tryz.f182.body
def A9k : An := []
structure At9 where
  a0 : H → Prop
def Acn (_c : CF) (k : KV) (_J : At9) (h : H) : Prop :=
 oK (Ak env 44 (fun e ei => Ae 54 [(0, (.str 4 975518245)), (1, (.str 3 3026478)), (2, (.str 3 4013116)), (3, (.str 3 4013630)), (4, (.str 2 15917)), (5, (.str 2 11051)), (6, (.str 2 11565)), (7, (.str 2 15420)), (8, (.str 2 15934)), (9, (.str 2 15676)), (10, (.str 2 15678)), (11, (.str 2 15677)), (12, (.str 2 15649)), (13, (.str 2 9766)), (14, (.str 2 31868)), (15, (.str 2 15658)), (16, (.str 2 15663)), (17, (.str 2 15653)), (18, (.str 2 15659)), (19, (.str 2 15661)), (20, (.str 2 15654)), (21, (.str 2 15710)), (22, (.str 2 15740)), (23, (.str 2 8995)), (24, (.str 2 14908)), (25, (.str 2 15930)), (26, (.str 2 9532)), (27, (.str 2 15909)), (28, (.str 2 14885)), (29, (.str 1 91)), (30, (.str 1 93)), (31, (.str 1 40)), (32, (.str 1 41)), (33, (.str 1 123)), (34, (.str 1 125)), (35, (.str 1 46)), (36, (.str 1 38)), (37, (.str 1 42)), (38, (.str 1 43)), (39, (.str 1 45)), (40, (.str 1 126)), (41, (.str 1 33)), (42, (.str 1 47)), (43, (.str 1 37)), (44, (.str 1 60)), (45, (.str 1 62)), (46, (.str 1 94)), (47, (.str 1 124)), (48, (.str 1 63)), (49, (.str 1 58)), (50, (.str 1 59)), (51, (.str 1 61)), (52, (.str 1 44)), (53, (.str 1 35))] h e ei)) fun v1 h2 =>
 k v1 h2
def z182 : At9 := ⟨fun _ => False⟩
def Apv (c : CF) (k : KV) (m : Nat) : At9 := Nat.rec z182 (fun _ J => ⟨Acn c k J⟩) m
def f182 (J : At9) : Jump := fun L _ h => match L with
  | 0 => J.a0 h
  | _ => False
def A8f : Ax := [(.root, 0)]
def d183 : Code := Option.rec .skip (fun c => c) Tryz.f183.body
def A1p : An := [(4294967294, [2]), (4294967295, [13])]
def Azy : Ax := [(.root, 0)]
def d184 : Code := Option.rec .skip (fun c => c) Tryz.f184.body
def A1o : An := [(2, [0, 1, 2, 3, 4, 5, 6, 7, 8, 9]), (3, [0, 1, 2, 3, 4, 5, 6, 7, 8, 9, 10, 11])]
structure Aj6 where
  a0 : AV → H → Prop
  a1 : AV → AV → Bool → H → Prop
def Acm (c : CF) (_k : KV) (J : Aj6) (v_0 : AV) (h : H) : Prop :=
 Hp.Dm h Dd fun p1 h2 =>
 oK (Cz v_0 h2) fun v3 h4 =>
 Ao 1 v3 fun v5 =>
 ld1 v5 h4 fun v6 =>
 asI .i64 v6 fun n7 =>
 oK (Cz v_0 h4) fun v8 h9 =>
 Ao 0 v8 fun v10 =>
 ld1 v10 h9 fun v11 =>
 Gg v11 fun m12 =>
 cnd (Cs n7 (Int.ofNat m12))
 (oK (Cz v_0 h9) fun v13 h14 =>
 Ao 0 v13 fun v15 =>
 ld1 v15 h14 fun v16 =>
 oK (Cz v_0 h14) fun v17 h18 =>
 Ao 1 v17 fun v19 =>
 ld1 v19 h18 fun v20 =>
 asI .i64 v20 fun n21 =>
 De n21 fun m22 =>
 Cc 8 m22 v16 fun v23 =>
 ldn 8 v23 h18 fun v24 =>
 Hp.Dm h18 A93 fun p25 h26 =>
 ld1 v15 h26 fun v27 =>
 eqC v27 v16 <|
 ld1 v19 h26 fun v28 =>
 asI .i64 v28 fun n29 =>
 eqC (.int .i64 n29) (.int .i64 n21) <|
 ldn 8 v23 h26 fun v30 =>
 eqC v30 v24 <|
 stn 8 (.ptr p25 0) v24 h26 fun h31 =>
 Ao 0 (.ptr p25 0) fun v32 =>
 ld1 v32 h31 fun v33 =>
 asI .i64 v33 fun n34 =>
 cnd (Av n34 (Int.ofNat 2))
 (Ao 1 (.ptr p25 0) fun v35 =>
 ld1 v35 h31 fun v36 =>
 asS v36 fun l37 c38 =>
 c (.func 64) [(.str l37 c38)] h31 fun v39 h40 =>
 ext 0 v39 fun v41 =>
 ext 1 v39 fun v42 =>
 asB v42 fun b43 =>
 stn 2 (.ptr p1 0) v41 h40 fun h44 =>
 J.a1 v_0 (.ptr p1 0) b43 h44)
 (cnd (Av n34 (Int.ofNat 3))
 (Ao 1 (.ptr p25 0) fun v45 =>
 ld1 v45 h31 fun v46 =>
 asS v46 fun l47 c48 =>
 c (.func 66) [(.str l47 c48)] h31 fun v49 h50 =>
 ext 0 v49 fun v51 =>
 ext 1 v49 fun v52 =>
 asB v52 fun b53 =>
 stn 2 (.ptr p1 0) v51 h50 fun h54 =>
 J.a1 v_0 (.ptr p1 0) b53 h54)
 (Ao 0 (.ptr p25 0) fun v55 =>
 ld1 v55 h31 fun v56 =>
 asI .i64 v56 fun n57 =>
 J.a1 v_0 (.ptr p1 0) (Av n57 (Int.ofNat 1)) h31)))
 (J.a1 v_0 (.ptr p1 0) false h9)
def Acl (_c : CF) (k : KV) (_J : Aj6) (v_0 v_2 : AV) (b_3 : Bool) (h : H) : Prop :=
 oK (Cz v_0 h) fun v58 h59 =>
 Ao 1 v58 fun v60 =>
 ld1 v60 h59 fun v61 =>
 asI .i64 v61 fun n62 =>
 fI (wrap .i64 (Cf n62 (Int.ofNat 1))) fun n63 =>
 oK (Cz v_0 h59) fun v64 h65 =>
 Ao 1 v64 fun v66 =>
 st1 v66 (.int .i64 n63) h65 fun h67 =>
 oK (Cz v_0 h67) fun v68 h69 =>
 Ao 2 v68 fun v70 =>
 ld1 v70 h69 fun v71 =>
 asB v71 fun b72 =>
 Al (fun k73 => gate false b72
 (k73 (Ck b_3) h69)
 (k73 true h69)) fun b75 h74 =>
 oK (Cz v_0 h74) fun v76 h77 =>
 Ao 2 v76 fun v78 =>
 st1 v78 (.bool b75) h77 fun h79 =>
 ldn 2 v_2 h79 fun v80 =>
 stn 2 v_2 v80 h79 fun h81 =>
 ldn 2 v_2 h81 fun v82 =>
 k v82 h81
def Bdl : Aj6 := ⟨fun _ _ => False, fun _ _ _ _ => False⟩
def Adu (c : CF) (k : KV) (m : Nat) : Aj6 := Nat.rec Bdl (fun _ J => ⟨Acm c k J, Acl c k J⟩) m
def f184 (J : Aj6) : Jump := fun L f h => match L with
  | 0 => J.a0 (f 0) h
  | 1 => asB (f 3) fun b_3 => J.a1 (f 0) (f 2) b_3 h
  | _ => False
def Azx : Ax := [(.root, 0), ((.r (.r (.r .root))), 1)]
def d185 : Code := Option.rec .skip (fun c => c) Tryz.f185.body
def A9j : An := []
structure At8 where
  a0 : AV → Nat → Nat → H → Prop
def Ack (c : CF) (k : KV) (_J : At8) (v_0 : AV) (l_1 c_1 : Nat) (h : H) : Prop :=
 c (.func 233) [v_0, (.str l_1 c_1)] h fun v1 h2 =>
 asI .i64 v1 fun n3 =>
 k (.bool (Gu (Int.ofNat 0) n3)) h2
def Bdk : At8 := ⟨fun _ _ _ _ => False⟩
def Apu (c : CF) (k : KV) (m : Nat) : At8 := Nat.rec Bdk (fun _ J => ⟨Ack c k J⟩) m
def f185 (J : At8) : Jump := fun L f h => match L with
  | 0 => asS (f 1) fun l_1 c_1 => J.a0 (f 0) l_1 c_1 h
  | _ => False
def A8e : Ax := [(.root, 0)]
def d186 : Code := Option.rec .skip (fun c => c) Tryz.f186.body
def A9i : An := []
structure At7 where
  a0 : Nat → Nat → Int → Int → Bool → H → Prop
def Acj (_c : CF) (k : KV) (_J : At7) (l_0 c_0 : Nat) (n_1 n_2 : Int) (b_3 : Bool) (h : H) : Prop :=
 Al (fun k1 => gate true b_3
 (k1 (Bm l_0 c_0 1 47) h)
 (k1 false h)) fun b3 h2 =>
 cnd b3
 (Sf .u64 n_1 n_2 fun n4 =>
 k (.int .u64 n4) h2)
 (cnd b_3
 (Vb n_1 n_2 fun n5 =>
 k (.int .u64 n5) h2)
 (cnd (Bm l_0 c_0 1 47)
 (fI (wrap .i64 n_1) fun n6 =>
 fI (wrap .i64 n_2) fun n7 =>
 Sf .i64 n6 n7 fun n8 =>
 fI (wrap .u64 n8) fun n9 =>
 k (.int .u64 n9) h2)
 (fI (wrap .i64 n_1) fun n10 =>
 fI (wrap .i64 n_2) fun n11 =>
 Vb n10 n11 fun n12 =>
 fI (wrap .u64 n12) fun n13 =>
 k (.int .u64 n13) h2)))
def Bdj : At7 := ⟨fun _ _ _ _ _ _ => False⟩
def Apt (c : CF) (k : KV) (m : Nat) : At7 := Nat.rec Bdj (fun _ J => ⟨Acj c k J⟩) m
def f186 (J : At7) : Jump := fun L f h => match L with
  | 0 => asS (f 0) fun l_0 c_0 => asI .u64 (f 1) fun n_1 => asI .u64 (f 2) fun n_2 => asB (f 3) fun b_3 => J.a0 l_0 c_0 n_1 n_2 b_3 h
  | _ => False
def A8d : Ax := [(.root, 0)]
def d187 : Code := Option.rec .skip (fun c => c) Tryz.f187.body
def A9h : An := []
structure At6 where
  a0 : Nat → Nat → AV → Int → H → Prop
def Aci (_c : CF) (k : KV) (_J : At6) (l_0 c_0 : Nat) (v_1 : AV) (n_2 : Int) (h : H) : Prop :=
 asG v_1 fun g1 =>
 chk (Nat.ble 1 (len g1)) <|
 Hp.Dm h (rowOf 55 g1) fun p2 h3 =>
 Hp.Dm h3 Dd fun p4 h5 =>
 cnd (Bm l_0 c_0 2 15420)
 (Ao 0 (.ptr p2 0) fun v6 =>
 ld1 v6 h5 fun v7 =>
 asI .u64 v7 fun n8 =>
 Ain .u64 n8 n_2 fun n9 =>
 Ao 0 (.ptr p2 0) fun v10 =>
 st1 v10 (.int .u64 n9) h5 fun h11 =>
 ldn 2 (.ptr p2 0) h11 fun v12 =>
 stn 2 (.ptr p4 0) v12 h11 fun h13 =>
 ldn 2 (.ptr p4 0) h13 fun v14 =>
 k v14 h13)
 (Ao 1 (.ptr p2 0) fun v15 =>
 ld1 v15 h5 fun v16 =>
 asB v16 fun b17 =>
 cnd b17
 (Ao 0 (.ptr p2 0) fun v18 =>
 ld1 v18 h5 fun v19 =>
 asI .u64 v19 fun n20 =>
 Ab6 .u64 n20 n_2 fun n21 =>
 Ao 0 (.ptr p2 0) fun v22 =>
 st1 v22 (.int .u64 n21) h5 fun h23 =>
 ldn 2 (.ptr p2 0) h23 fun v24 =>
 stn 2 (.ptr p4 0) v24 h23 fun h25 =>
 ldn 2 (.ptr p4 0) h25 fun v26 =>
 k v26 h25)
 (Ao 0 (.ptr p2 0) fun v27 =>
 ld1 v27 h5 fun v28 =>
 asI .u64 v28 fun n29 =>
 fI (wrap .i64 n29) fun n30 =>
 Ab6 .i64 n30 n_2 fun n31 =>
 fI (wrap .u64 n31) fun n32 =>
 Ao 0 (.ptr p2 0) fun v33 =>
 st1 v33 (.int .u64 n32) h5 fun h34 =>
 ldn 2 (.ptr p2 0) h34 fun v35 =>
 stn 2 (.ptr p4 0) v35 h34 fun h36 =>
 ldn 2 (.ptr p4 0) h36 fun v37 =>
 k v37 h36))
def Bdi : At6 := ⟨fun _ _ _ _ _ => False⟩
def Aps (c : CF) (k : KV) (m : Nat) : At6 := Nat.rec Bdi (fun _ J => ⟨Aci c k J⟩) m
def f187 (J : At6) : Jump := fun L f h => match L with
  | 0 => asS (f 0) fun l_0 c_0 => asI .u64 (f 2) fun n_2 => J.a0 l_0 c_0 (f 1) n_2 h
  | _ => False
def A8c : Ax := [(.root, 0)]
def d188 : Code := Option.rec .skip (fun c => c) Tryz.f188.body
def A1n : An := []
structure Aj5 where
  a0 : Nat → Nat → Int → Int → Bool → H → Prop
  a1 : Nat → Nat → Int → Int → Bool → H → Prop
def Ach (_c : CF) (_k : KV) (J : Aj5) (l_0 c_0 : Nat) (n_1 n_2 : Int) (b_3 : Bool) (h : H) : Prop :=
 cnd (Ck b_3)
 (fI (wrap .i64 n_1) fun n1 =>
 fI (wrap .i64 n_2) fun n2 =>
 J.a1 l_0 c_0 n_1 n_2 (Cs n1 n2) h)
 (J.a1 l_0 c_0 n_1 n_2 (Cs n_1 n_2) h)
def Acg (_c : CF) (k : KV) (_J : Aj5) (l_0 c_0 : Nat) (n_1 n_2 : Int) (b_9 : Bool) (h : H) : Prop :=
 cnd (Bm l_0 c_0 2 15677)
 (k (.bool (Av n_1 n_2)) h)
 (cnd (Bm l_0 c_0 2 15649)
 (k (.bool (Ck (Av n_1 n_2))) h)
 (cnd (Bm l_0 c_0 1 60)
 (k (.bool b_9) h)
 (cnd (Bm l_0 c_0 2 15678)
 (k (.bool (Ck b_9)) h)
 (cnd (Bm l_0 c_0 1 62)
 (Al (fun k3 => gate true (Ck b_9)
 (k3 (Ck (Av n_1 n_2)) h)
 (k3 false h)) fun b5 h4 =>
 k (.bool b5) h4)
 (Al (fun k6 => gate false b_9
 (k6 (Av n_1 n_2) h)
 (k6 true h)) fun b8 h7 =>
 k (.bool b8) h7)))))
def Bdh : Aj5 := ⟨fun _ _ _ _ _ _ => False, fun _ _ _ _ _ _ => False⟩
def Agc (c : CF) (k : KV) (m : Nat) : Aj5 := Nat.rec Bdh (fun _ J => ⟨Ach c k J, Acg c k J⟩) m
def f188 (J : Aj5) : Jump := fun L f h => match L with
  | 0 => asS (f 0) fun l_0 c_0 => asI .u64 (f 1) fun n_1 => asI .u64 (f 2) fun n_2 => asB (f 3) fun b_3 => J.a0 l_0 c_0 n_1 n_2 b_3 h
  | 1 => asS (f 0) fun l_0 c_0 => asI .u64 (f 1) fun n_1 => asI .u64 (f 2) fun n_2 => asB (f 9) fun b_9 => J.a1 l_0 c_0 n_1 n_2 b_9 h
  | _ => False
def Azw : Ax := [(.root, 0), ((.r (.r (.r .root))), 1)]
def d190 : Code := Option.rec .skip (fun c => c) Tryz.f190.body
def A1m : An := []
def Azv : Ax := [(.root, 0)]
def d191 : Code := Option.rec .skip (fun c => c) Tryz.f191.body
def A1l : An := [(1, [0, 1, 2, 3, 4, 5, 6, 7, 8, 9, 10, 11, 12, 13]), (2, [0, 1, 2, 3, 4, 5, 6, 7, 8, 9, 10])]
def Azu : Ax := [(.root, 0)]
def d192 : Code := Option.rec .skip (fun c => c) Tryz.f192.body
def A1k : An := [(4, [0, 1, 2, 3, 4, 5, 6, 7, 12, 8, 9, 10, 11, 13, 14, 15])]
def Azt : Ax := [(.root, 0), ((.r (.r .root)), 1)]
def d194 : Code := Option.rec .skip (fun c => c) Tryz.f194.body
def A1j : An := [(1, [0, 1, 2, 3, 4, 5, 6, 7, 8, 9, 10, 11, 12, 13, 14, 15, 16, 17, 18, 19, 20, 21, 22, 23]), (2, [0, 1, 2, 3, 4, 5, 8, 9, 6, 7, 10, 11]), (3, [0, 1, 3, 5, 6, 7, 8, 9, 10, 11, 12, 13, 14, 15, 16, 17, 18, 2, 4, 19, 20, 21, 22, 23, 24]), (4, [0, 1, 2, 3, 4, 5, 6, 7, 8, 9, 10, 11, 12, 13, 14, 15]), (5, [0, 1, 2, 3, 4, 5, 6, 7, 8, 9]), (12, [0, 1, 2, 3, 4, 5, 6, 7, 8, 9, 10, 11, 12, 13]), (14, [0, 1, 2, 3, 4, 5, 6, 7, 8, 9, 10, 11, 12, 13]), (15, [0, 1, 2, 3, 4, 5, 6, 7, 8, 9, 10]), (4294967294, [6, 9, 10, 11]), (4294967295, [167])]
def Azs : Ax := [(.root, 0), ((.r (.r (.r (.r .root)))), 1)]
def d195 : Code := Option.rec .skip (fun c => c) Tryz.f195.body
def A1i : An := []
def Azr : Ax := [(.root, 0)]
def d196 : Code := Option.rec .skip (fun c => c) Tryz.f196.body
def A1h : An := [(4, [0, 1, 2, 3, 4, 5, 6, 7, 8, 9, 10, 11, 12, 13, 14]), (6, [0, 1, 2, 3, 4, 5, 6, 7, 8, 9, 10, 11, 12, 13, 14, 15, 16, 17])]
def Azq : Ax := [(.root, 0), ((.l (.r .root)), 1), ((.l (.r (.l (.l (.r (.l (.l (.r .root)))))))), 2)]
def d202 : Code := Option.rec .skip (fun c => c) Tryz.f202.body
def A1g : An := []
def Azp : Ax := [(.root, 0)]
def d206 : Code := Option.rec .skip (fun c => c) Tryz.f206.body
def A1f : An := []
def Azo : Ax := [(.root, 0), ((.r (.r (.r (.r .root)))), 1), ((.r (.r (.r .root))), 2), ((.r (.r .root)), 3)]
def d215 : Code := Option.rec .skip (fun c => c) Tryz.f215.body
def A9g : An := []
structure At5 where
  a0 : AV → Int → H → Prop
def Acf (_c : CF) (k : KV) (_J : At5) (v_0 : AV) (n_1 : Int) (h : H) : Prop :=
 oK (Cz v_0 h) fun v1 h2 =>
 oK (Eg env 264 v1 (Bn (.int .u8 n_1)) h2) fun v3 h4 =>
 ld1 v3 h4 fun v5 =>
 asB v5 fun b6 =>
 k (.bool b6) h4
def Bdg : At5 := ⟨fun _ _ _ => False⟩
def Apr (c : CF) (k : KV) (m : Nat) : At5 := Nat.rec Bdg (fun _ J => ⟨Acf c k J⟩) m
def f215 (J : At5) : Jump := fun L f h => match L with
  | 0 => asI .u8 (f 1) fun n_1 => J.a0 (f 0) n_1 h
  | _ => False
def A8b : Ax := [(.root, 0)]
def d219 : Code := Option.rec .skip (fun c => c) Tryz.f219.body
def A1e : An := []
structure Aj4 where
  a0 : Nat → Nat → AV → H → Prop
  a1 : Nat → Nat → AV → H → Prop
def Ace (_c : CF) (_k : KV) (J : Aj4) (l_0 c_0 : Nat) (v_1 : AV) (h : H) : Prop :=
 J.a1 l_0 c_0 v_1 h
def Xv (c : CF) (k : KV) (J : Aj4) (l_0 c_0 : Nat) (v_1 : AV) (h : H) : Prop :=
 cnd (Cs (Int.ofNat 0) (Int.ofNat l_0))
 (Jf l_0 c_0 0 fun m1 =>
 c (.func 215) [v_1, (.int .u8 (Int.ofNat m1))] h fun v2 h3 =>
 asB v2 fun b4 =>
 cnd (Ck b4)
 (k (.str l_0 c_0) h3)
 (Oo l_0 c_0 1 l_0 fun l5 c6 =>
 J.a1 l5 c6 v_1 h3))
 (k (.str l_0 c_0) h)
def Bdf : Aj4 := ⟨fun _ _ _ _ => False, fun _ _ _ _ => False⟩
def Agb (c : CF) (k : KV) (m : Nat) : Aj4 := Nat.rec Bdf (fun _ J => ⟨Ace c k J, Xv c k J⟩) m
def f219 (J : Aj4) : Jump := fun L f h => match L with
  | 0 => asS (f 0) fun l_0 c_0 => J.a0 l_0 c_0 (f 1) h
  | 1 => asS (f 0) fun l_0 c_0 => J.a1 l_0 c_0 (f 1) h
  | _ => False
def Azn : Ax := [(.root, 0), ((.l (.l (.r .root))), 1)]
def d221 : Code := Option.rec .skip (fun c => c) Tryz.f221.body
def A9f : An := []
structure At4 where
  a0 : Int → H → Prop
def Acd (_c : CF) (k : KV) (_J : At4) (n_0 : Int) (h : H) : Prop :=
 Ml Nat.lor .u8 n_0 (Int.ofNat 32) fun n1 =>
 k (.int .u8 n1) h
def Bde : At4 := ⟨fun _ _ => False⟩
def Apq (c : CF) (k : KV) (m : Nat) : At4 := Nat.rec Bde (fun _ J => ⟨Acd c k J⟩) m
def f221 (J : At4) : Jump := fun L f h => match L with
  | 0 => asI .u8 (f 0) fun n_0 => J.a0 n_0 h
  | _ => False
def A8a : Ax := [(.root, 0)]
def d224 : Code := Option.rec .skip (fun c => c) Tryz.f224.body
def A9e : An := [(1, [0, 1, 3, 2, 4, 5, 6])]
structure At3 where
  a0 : Nat → Nat → Nat → Nat → H → Prop
def Acb (c : CF) (k : KV) (_J : At3) (l_0 c_0 : Nat) (l_1 c_1 : Nat) (h : H) : Prop :=
 ld1 (.ptr (.r (.r .z)) 0) h fun v1 =>
 c (.func 265) [(.str l_1 c_1)] h fun v2 h3 =>
 asS v2 fun l4 c5 =>
 ld1 (.ptr (.r (.r .z)) 0) h3 fun v6 =>
 eqC v6 v1 <|
 oK (Bt env (env.ty 365) [(0, (.str l_0 c_0)), (1, (.str l4 c5)), (2, v1)] h3) fun v7 h8 =>
 asG v7 fun g9 =>
 chk (Nat.ble 1 (len g9)) <|
 Hp.Dm h8 (rowOf 365 g9) fun p10 h11 =>
 k (.ptr p10 0) h11
def Bdd : At3 := ⟨fun _ _ _ _ _ => False⟩
def Apo (c : CF) (k : KV) (m : Nat) : At3 := Nat.rec Bdd (fun _ J => ⟨Acb c k J⟩) m
def f224 (J : At3) : Jump := fun L f h => match L with
  | 0 => asS (f 0) fun l_0 c_0 => asS (f 1) fun l_1 c_1 => J.a0 l_0 c_0 l_1 c_1 h
  | _ => False
def A79 : Ax := [(.root, 0)]
def d233 : Code := Option.rec .skip (fun c => c) Tryz.f233.body
def A1d : An := []
structure Aj3 where
  a0 : AV → Nat → Nat → H → Prop
  a1 : AV → Nat → Nat → Int → Int → H → Prop
def Aca (_c : CF) (_k : KV) (J : Aj3) (v_0 : AV) (l_1 c_1 : Nat) (h : H) : Prop :=
 Gg v_0 fun m1 =>
 J.a1 v_0 l_1 c_1 (Int.ofNat m1) (Int.ofNat 0) h
def Ab9 (_c : CF) (k : KV) (J : Aj3) (v_0 : AV) (l_1 c_1 : Nat) (n_7 n_8 : Int) (h : H) : Prop :=
 cnd (Cs n_8 n_7)
 (De n_8 fun m2 =>
 Cc 1 m2 v_0 fun v3 =>
 ld1 v3 h fun v4 =>
 asS v4 fun l5 c6 =>
 cnd (Bm l_1 c_1 l5 c6)
 (k (.int .i64 n_8) h)
 (fI (wrap .i64 (Cf n_8 (Int.ofNat 1))) fun n7 =>
 J.a1 v_0 l_1 c_1 n_7 n7 h))
 (k (.int .i64 (Int.negSucc 0)) h)
def z233 : Aj3 := ⟨fun _ _ _ _ => False, fun _ _ _ _ _ _ => False⟩
def Aga (c : CF) (k : KV) (m : Nat) : Aj3 := Nat.rec z233 (fun _ J => ⟨Aca c k J, Ab9 c k J⟩) m
def f233 (J : Aj3) : Jump := fun L f h => match L with
  | 0 => asS (f 1) fun l_1 c_1 => J.a0 (f 0) l_1 c_1 h
  | 1 => asS (f 1) fun l_1 c_1 => asI .i64 (f 7) fun n_7 => asI .i64 (f 8) fun n_8 => J.a1 (f 0) l_1 c_1 n_7 n_8 h
  | _ => False
def Azm : Ax := [(.root, 0), ((.l (.r (.l (.r .root)))), 1)]
def d234 : Code := Option.rec .skip (fun c => c) Tryz.f234.body
def A1c : An := []
def Azl : Ax := [(.root, 0), ((.l (.l (.r (.r (.r .root))))), 1)]
def d235 : Code := Option.rec .skip (fun c => c) Tryz.f235.body
def A1b : An := []
def Azk : Ax := [(.root, 0), ((.r (.r .root)), 1)]
def d247 : Code := Option.rec .skip (fun c => c) Tryz.f247.body
def A1a : An := []
def Azj : Ax := [(.root, 0), ((.l (.r (.l (.r (.r .root))))), 1), ((.l (.r (.l (.r (.r (.r (.l (.l (.r (.r (.l (.l (.r (.l (.r (.r .root)))))))))))))))), 2)]
def d248 : Code := Option.rec .skip (fun c => c) Tryz.f248.body
def A09 : An := []
def Azi : Ax := [(.root, 0), ((.l (.r (.l (.r .root)))), 1), ((.l (.r (.l (.r (.r (.l (.l (.r (.r (.l (.l (.r (.l (.r .root)))))))))))))), 2)]
def d249 : Code := Option.rec .skip (fun c => c) Tryz.f249.body
def A08 : An := [(13, [0, 1, 2, 3, 4, 5, 6, 7, 8, 9, 10, 11, 12, 13])]
def Azh : Ax := [(.root, 0), ((.l (.r (.l (.r (.r (.r (.r .root))))))), 1)]
def d250 : Code := Option.rec .skip (fun c => c) Tryz.f250.body
def A07 : An := []
def Azg : Ax := [(.root, 0)]
def d256 : Code := Option.rec .skip (fun c => c) Tryz.f256.body
def A06 : An := []
def Azf : Ax := [(.root, 0)]
def d265 : Code := Option.rec .skip (fun c => c) Tryz.f265.body
def A9d : An := []
structure At2 where
  a0 : Nat → Nat → H → Prop
def Ab8 (_c : CF) (k : KV) (_J : At2) (l_0 c_0 : Nat) (h : H) : Prop :=
 cnd (Av (Int.ofNat l_0) (Int.ofNat 0))
 (k (.str 0 0) h)
 (oK (Ak env 115 (fun e ei => Ef (Bn (.int .i64 (Int.ofNat l_0))) (Bn (.int .i64 (Int.ofNat l_0))) h e ei)) fun v1 h2 =>
 oK (Bw env .copy [115, 9] [v1, (.str l_0 c_0)] h2) fun v3 h4 =>
 asI .i64 v3 fun _ =>
 Cc 1 0 v1 fun v6 =>
 Gg v1 fun m7 =>
 oK (Bw env .unsafeString [225, 3] [v6, (.int .i64 (Int.ofNat m7))] h4) fun v8 h9 =>
 asS v8 fun l10 c11 =>
 k (.str l10 c11) h9)
def Bdc : At2 := ⟨fun _ _ _ => False⟩
def Apn (c : CF) (k : KV) (m : Nat) : At2 := Nat.rec Bdc (fun _ J => ⟨Ab8 c k J⟩) m
def f265 (J : At2) : Jump := fun L f h => match L with
  | 0 => asS (f 0) fun l_0 c_0 => J.a0 l_0 c_0 h
  | _ => False
def A78 : Ax := [(.root, 0)]
def d276 : Code := Option.rec .skip (fun c => c) Tryz.f276.body
def A05 : An := []
def Aze : Ax := [(.root, 0), ((.l (.r (.r .root))), 1)]
def d283 : Code := Option.rec .skip (fun c => c) Tryz.f283.body
def A04 : An := [(3, [0, 1, 2, 3, 4, 5, 6])]
def Azd : Ax := [(.root, 0)]
def d286 : Code := Option.rec .skip (fun c => c) Tryz.f286.body
def A03 : An := [(5, [0, 1, 2, 3, 4, 5, 6, 7, 8, 9, 10, 11, 12, 13, 14, 15, 16, 17, 18, 19, 20, 21, 22]), (6, [0, 1, 2, 3, 4, 5, 6, 7, 8, 9, 10, 11]), (8, [0, 1, 2, 3, 4, 5, 6])]
def Azc : Ax := [(.root, 0), ((.l (.r (.l (.r (.r (.r (.r (.r (.r (.r (.r (.r .root)))))))))))), 1), ((.r (.r (.l (.l (.r (.r (.l (.l (.r (.l (.r (.r (.r (.r (.r (.r (.r (.r (.r .root))))))))))))))))))), 2), ((.r (.r (.r (.r (.r (.r (.r (.r (.r .root))))))))), 3), ((.r (.r (.l (.r (.l (.r (.r (.r .root)))))))), 4), ((.r (.r (.r (.r (.r (.r (.r (.r .root)))))))), 5)]
def d288 : Code := Option.rec .skip (fun c => c) Tryz.f288.body
def A02 : An := []
def Azb : Ax := [(.root, 0), ((.l (.r .root)), 1)]
def d302 : Code := Option.rec .skip (fun c => c) Tryz.f302.body
def A01 : An := []
def Aza : Ax := [(.root, 0)]
def d303 : Code := Option.rec .skip (fun c => c) Tryz.f303.body
def A00 : An := []
def Ay9 : Ax := [(.root, 0)]
def d307 : Code := Option.rec .skip (fun c => c) Tryz.f307.body
def A0z : An := []
def Ay8 : Ax := [(.root, 0)]
end Go.Den
