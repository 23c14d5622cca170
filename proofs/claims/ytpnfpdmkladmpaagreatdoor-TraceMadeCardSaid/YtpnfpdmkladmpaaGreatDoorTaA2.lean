/-
  A part of the proof: the functions, in pieces.
-/
import Derived.Test.YtpnfpdmkladmpaaGreatDoorTaA
namespace Go.Den
set_option maxRecDepth 100000
noncomputable def d198 : Code := Option.rec .skip (fun c => c) Go.Proofs.Tryz.f198.body
noncomputable def q198 : Plans := []
structure J198 where
  a0 : AV → H → Prop
noncomputable def s198_0 (c : Caller Prop FT) (k : KV) (_J : J198) (v_0 : AV) (h : H) : Prop :=
 oK (exNil v_0 h) fun v1 h2 =>
 fAddr 0 v1 fun v3 =>
 c (.func 228) [v3] h2 fun v4 h5 =>
 asI .u32 v4 fun n6 =>
 k (.bool (bnot (ibeq n6 (Int.ofNat 0)))) h5
noncomputable def z198 : J198 := ⟨fun _ _ => False⟩
noncomputable def r198 (c : Caller Prop FT) (k : KV) (m : Nat) : J198 := Nat.rec z198 (fun _ J => ⟨s198_0 c k J⟩) m
noncomputable def f198 (J : J198) : Jump := fun L f h => match L with
  | 0 => J.a0 (f 0) h
  | _ => False
noncomputable def u198 : Cuts := [(.root, 0)]
noncomputable def d199 : Code := Option.rec .skip (fun c => c) Go.Proofs.Tryz.f199.body
noncomputable def q199 : Plans := []
structure J199 where
  a0 : AV → AV → H → Prop
noncomputable def s199_0 (c : Caller Prop FT) (_k : KV) (_J : J199) (v_0 : AV) (_v_1 : AV) (h : H) : Prop :=
 oK (exNil v_0 h) fun v1 h2 =>
 fAddr 1 v1 fun v3 =>
 c (.func 229) [v3] h2 fun _ h5 =>
 oK (exNil v_0 h5) fun v6 _ =>
 fAddr 1 v6 fun _ =>
 False
noncomputable def z199 : J199 := ⟨fun _ _ _ => False⟩
noncomputable def r199 (c : Caller Prop FT) (k : KV) (m : Nat) : J199 := Nat.rec z199 (fun _ J => ⟨s199_0 c k J⟩) m
noncomputable def f199 (J : J199) : Jump := fun L f h => match L with
  | 0 => J.a0 (f 0) (f 1) h
  | _ => False
noncomputable def u199 : Cuts := [(.root, 0)]
noncomputable def d206 : Code := Option.rec .skip (fun c => c) Go.Proofs.Tryz.f206.body
noncomputable def q206 : Plans := []
structure J206 where
  a0 : AV → H → Prop
  a1 : AV → AV → AV → AV → Int → Int → H → Prop
  a2 : AV → AV → AV → H → Prop
  a3 : AV → AV → AV → AV → AV → Bool → H → Prop
  a4 : AV → AV → AV → AV → AV → Bool → Bool → H → Prop
noncomputable def s206_0 (c : Caller Prop FT) (k : KV) (J : J206) (v_0 : AV) (h : H) : Prop :=
 Hp.newK h ob224 fun p1 h2 =>
 lenV v_0 fun m3 =>
 cnd (ibeq (Int.ofNat m3) (Int.ofNat 0))
 (oK (exBuild env (env.ty 33) [] h2) fun v4 h5 =>
 callV (CP env) c (.func (.func 239) [] []) [(.int .i64 (Int.ofNat 4)), v4] h5 fun v6 h7 =>
 ext 0 v6 fun v8 =>
 ext 1 v6 fun v9 =>
 stn 8 (.ptr p1 0) v8 h7 fun h10 =>
 ldn 8 (.ptr p1 0) h10 fun v11 =>
 k (.tuple [v11, v9]) h10)
 (elemA 8 0 v_0 fun v12 =>
 ldn 8 v12 h2 fun v13 =>
 Hp.newK h2 ob53 fun p14 h15 =>
 stn 8 (.ptr p14 0) v13 h15 fun h16 =>
 fAddr 0 (.ptr p14 0) fun v17 =>
 ld1 v17 h16 fun v18 =>
 asI .i64 v18 fun n19 =>
 cnd (bnot (ibeq n19 (Int.ofNat 1)))
 (fAddr 3 (.ptr p14 0) fun v20 =>
 ldn 3 v20 h16 fun v21 =>
 callV (CP env) c (.func (.func 239) [] []) [(.int .i64 (Int.ofNat 4)), v21] h16 fun v22 h23 =>
 ext 0 v22 fun v24 =>
 ext 1 v22 fun v25 =>
 stn 8 (.ptr p1 0) v24 h23 fun h26 =>
 ldn 8 (.ptr p1 0) h26 fun v27 =>
 k (.tuple [v27, v25]) h26)
 (fAddr 1 (.ptr p14 0) fun v28 =>
 ld1 v28 h16 fun v29 =>
 asS v29 fun l30 c31 =>
 fAddr 3 (.ptr p14 0) fun v32 =>
 ldn 3 v32 h16 fun v33 =>
 oK (exBuild env (env.ty 224) [(0, (.str l30 c31)), (5, v33)] h16) fun v34 h35 =>
 Hp.newK h35 ob224 fun p36 h37 =>
 stn 8 (.ptr p36 0) v34 h37 fun h38 =>
 oK (slice3 env h38 26 v_0 (some (natOf (.int .i64 (Int.ofNat 1)))) none none) fun v39 h40 =>
 fAddr 1 (.ptr p14 0) fun v41 =>
 ld1 v41 h40 fun v42 =>
 asS v42 fun l43 c44 =>
 c (.func 208) [(.str l43 c44)] h40 fun v45 h46 =>
 asB v45 fun b47 =>
 joinB (fun k48 => gate true (bnot b47)
 (lenV v39 fun m51 =>
 k48 (iblt (Int.ofNat 0) (Int.ofNat m51)) h46)
 (k48 false h46)) fun b50 h49 =>
 joinB (fun k52 => gate true b50
 (elemA 8 0 v39 fun v55 =>
 ldn 8 v55 h49 fun v56 =>
 c (.func 97) [v56, (.str 1 40)] h49 fun v57 h58 =>
 asB v57 fun b59 =>
 k52 b59 h58)
 (k52 false h49)) fun b54 h53 =>
 joinB (fun k60 => gate true b54
 (elemA 8 0 v39 fun v63 =>
 fAddr 2 v63 fun v64 =>
 ld1 v64 h53 fun v65 =>
 asB v65 fun b66 =>
 k60 (bnot b66) h53)
 (k60 false h53)) fun b62 h61 =>
 J.a4 v39 (.ptr p1 0) (.func (.func 239) [] []) (.ptr p14 0) (.ptr p36 0) (bnot b47) b62 h61))
noncomputable def s206_1 (c : Caller Prop FT) (k : KV) (J : J206) (v_2 : AV) (v_4 : AV) (v_6 : AV) (v_87 : AV) (n_88 : Int) (n_89 : Int) (h : H) : Prop :=
 cnd (iblt n_89 n_88)
 (natI n_89 fun m67 =>
 elemA 8 m67 v_87 fun v68 =>
 ldn 8 v68 h fun v69 =>
 Hp.newK h ob53 fun p70 h71 =>
 stn 8 (.ptr p70 0) v69 h71 fun h72 =>
 c (.func 241) [v_6, (.int .i64 n_89)] h72 fun v73 h74 =>
 asB v73 fun b75 =>
 cnd b75
 (fAddr 3 (.ptr p70 0) fun v76 =>
 ldn 3 v76 h74 fun v77 =>
 callV (CP env) c v_4 [(.int .i64 (Int.ofNat 5)), v77] h74 fun v78 h79 =>
 ext 0 v78 fun v80 =>
 ext 1 v78 fun v81 =>
 stn 8 v_2 v80 h79 fun h82 =>
 ldn 8 v_2 h82 fun v83 =>
 k (.tuple [v83, v81]) h82)
 (fI (wrap .i64 (iadd n_89 (Int.ofNat 1))) fun n84 =>
 J.a1 v_2 v_4 v_6 v_87 n_88 n84 h74))
 (ldn 8 v_6 h fun v85 =>
 stn 8 v_2 v85 h fun h86 =>
 ldn 8 v_2 h86 fun v87 =>
 k (.tuple [v87, .nils]) h86)
noncomputable def s206_2 (_c : Caller Prop FT) (_k : KV) (J : J206) (v_2 : AV) (v_4 : AV) (v_6 : AV) (h : H) : Prop :=
 fAddr 4 v_6 fun v88 =>
 ld1 v88 h fun v89 =>
 lenV v89 fun m90 =>
 J.a1 v_2 v_4 v_6 v89 (Int.ofNat m90) (Int.ofNat 0) h
noncomputable def s206_3 (c : Caller Prop FT) (k : KV) (J : J206) (v_0 : AV) (v_2 : AV) (v_4 : AV) (v_5 : AV) (v_6 : AV) (b_7 : Bool) (h : H) : Prop :=
 cnd (bnot b_7)
 (fAddr 3 v_5 fun v91 =>
 ldn 3 v91 h fun v92 =>
 callV (CP env) c v_4 [(.int .i64 (Int.ofNat 5)), v92] h fun v93 h94 =>
 ext 0 v93 fun v95 =>
 ext 1 v93 fun v96 =>
 stn 8 v_2 v95 h94 fun h97 =>
 ldn 8 v_2 h97 fun v98 =>
 k (.tuple [v98, v96]) h97)
 (c (.func 224) [v_0] h fun v99 h100 =>
 fAddr 4 v_6 fun v101 =>
 st1 v101 v99 h100 fun h102 =>
 fAddr 4 v_6 fun v103 =>
 ld1 v103 h102 fun v104 =>
 lenV v104 fun m105 =>
 cnd (iblt (Int.ofNat 0) (Int.ofNat m105))
 (fAddr 4 v_6 fun v106 =>
 ld1 v106 h102 fun v107 =>
 elemA 8 0 v107 fun v108 =>
 fAddr 2 v108 fun v109 =>
 st1 v109 (.bool false) h102 fun h110 =>
 J.a2 v_2 v_4 v_6 h110)
 (J.a2 v_2 v_4 v_6 h102))
noncomputable def s206_4 (c : Caller Prop FT) (_k : KV) (J : J206) (v_0 : AV) (v_2 : AV) (v_4 : AV) (v_5 : AV) (v_6 : AV) (b_7 : Bool) (b_59 : Bool) (h : H) : Prop :=
 cnd b_59
 (fAddr 1 v_6 fun v111 =>
 st1 v111 (.bool true) h fun h112 =>
 oK (slice3 env h112 26 v_0 (some (natOf (.int .i64 (Int.ofNat 1)))) none none) fun v113 h114 =>
 c (.func 240) [v_6, v113] h114 fun v115 h116 =>
 ext 0 v115 fun v117 =>
 ext 1 v115 fun v118 =>
 asB v118 fun b119 =>
 J.a3 v117 v_2 v_4 v_5 v_6 b119 h116)
 (J.a3 v_0 v_2 v_4 v_5 v_6 b_7 h)
noncomputable def z206 : J206 := ⟨fun _ _ => False, fun _ _ _ _ _ _ _ => False, fun _ _ _ _ => False, fun _ _ _ _ _ _ _ => False, fun _ _ _ _ _ _ _ _ => False⟩
noncomputable def r206 (c : Caller Prop FT) (k : KV) (m : Nat) : J206 := Nat.rec z206 (fun _ J => ⟨s206_0 c k J, s206_1 c k J, s206_2 c k J, s206_3 c k J, s206_4 c k J⟩) m
noncomputable def f206 (J : J206) : Jump := fun L f h => match L with
  | 0 => J.a0 (f 0) h
  | 1 => asI .i64 (f 88) fun n_88 => asI .i64 (f 89) fun n_89 => J.a1 (f 2) (f 4) (f 6) (f 87) n_88 n_89 h
  | 2 => J.a2 (f 2) (f 4) (f 6) h
  | 3 => asB (f 7) fun b_7 => J.a3 (f 0) (f 2) (f 4) (f 5) (f 6) b_7 h
  | 4 => asB (f 7) fun b_7 => asB (f 59) fun b_59 => J.a4 (f 0) (f 2) (f 4) (f 5) (f 6) b_7 b_59 h
  | _ => False
noncomputable def u206 : Cuts := [(.root, 0), ((.l (.r (.l (.r (.r (.r (.r (.r (.r (.r (.r (.r (.r (.r .root)))))))))))))), 1), ((.r (.r (.r (.r (.r (.r (.r (.r (.r (.r (.r .root))))))))))), 2), ((.r (.r (.r (.r (.r (.r (.r (.r (.r .root))))))))), 3), ((.r (.l (.r (.r (.r (.r (.r (.r (.r (.r .root)))))))))), 4)]
noncomputable def d207 : Code := Option.rec .skip (fun c => c) Go.Proofs.Tryz.f207.body
noncomputable def q207 : Plans := [(5, [0, 1, 2, 3, 4, 5, 6]), (6, [0, 1, 2, 3, 4, 5, 6, 7, 8, 9])]
structure J207 where
  a0 : AV → AV → H → Prop
noncomputable def s207_0 (c : Caller Prop FT) (k : KV) (_J : J207) (v_0 : AV) (v_1 : AV) (h : H) : Prop :=
 asG v_1 fun g1 =>
 chk (Nat.ble 1 (len g1)) <|
 Hp.newK h (rowOf 224 g1) fun p2 h3 =>
 oV (binA env .eql 98 v_0 .nilp) fun v4 =>
 asB v4 fun b5 =>
 cnd b5
 (k (.bool false) h3)
 (fAddr 0 (.ptr p2 0) fun v6 =>
 ld1 v6 h3 fun v7 =>
 asS v7 fun l8 c9 =>
 c (.func 96) [v_0, (.str l8 c9)] h3 fun v10 h11 =>
 ldn 8 (.ptr p2 0) h11 fun v12 =>
 c (.func 242) [v12] h11 fun v13 h14 =>
 stn 8 (.ptr p2 0) v13 h14 fun h15 =>
 oK (exNil v_0 h15) fun v16 h17 =>
 fAddr 0 v16 fun v18 =>
 ld1 v18 h17 fun v19 =>
 fAddr 0 (.ptr p2 0) fun v20 =>
 ld1 v20 h17 fun v21 =>
 asS v21 fun l22 c23 =>
 oK (exMapUpdate env 142 v19 (.str l22 c23) (.ptr p2 0) h17) fun _ h25 =>
 oV (binA env .eql 221 v10 .nilp) fun v26 =>
 asB v26 fun b27 =>
 joinB (fun k28 => gate false b27
 (oK (exNil v10 h25) fun v31 h32 =>
 ldn 8 v31 h32 fun v33 =>
 ldn 8 (.ptr p2 0) h32 fun v34 =>
 c (.func 243) [v33, v34] h32 fun v35 h36 =>
 asB v35 fun b37 =>
 k28 b37 h36)
 (k28 true h25)) fun b30 h29 =>
 k (.bool b30) h29)
noncomputable def z207 : J207 := ⟨fun _ _ _ => False⟩
noncomputable def r207 (c : Caller Prop FT) (k : KV) (m : Nat) : J207 := Nat.rec z207 (fun _ J => ⟨s207_0 c k J⟩) m
noncomputable def f207 (J : J207) : Jump := fun L f h => match L with
  | 0 => J.a0 (f 0) (f 1) h
  | _ => False
noncomputable def u207 : Cuts := [(.root, 0)]
noncomputable def d208 : Code := Option.rec .skip (fun c => c) Go.Proofs.Tryz.f208.body
noncomputable def q208 : Plans := []
structure J208 where
  a0 : Nat → Nat → H → Prop
noncomputable def s208_0 (_c : Caller Prop FT) (k : KV) (_J : J208) (l_0 : Nat) (c_0 : Nat) (h : H) : Prop :=
 joinB (fun k1 => gate false (strEq l_0 c_0 7 28259022560191844)
 (k1 (strEq l_0 c_0 8 6872287750339845983) h)
 (k1 true h)) fun b3 h2 =>
 joinB (fun k4 => gate false b3
 (k4 (strEq l_0 c_0 8 6872287758930173791) h2)
 (k4 true h2)) fun b6 h5 =>
 joinB (fun k7 => gate false b6
 (k7 (strEq l_0 c_0 11 115298113898262507942207327) h5)
 (k7 true h5)) fun b9 h8 =>
 k (.bool b9) h8
noncomputable def z208 : J208 := ⟨fun _ _ _ => False⟩
noncomputable def r208 (c : Caller Prop FT) (k : KV) (m : Nat) : J208 := Nat.rec z208 (fun _ J => ⟨s208_0 c k J⟩) m
noncomputable def f208 (J : J208) : Jump := fun L f h => match L with
  | 0 => asS (f 0) fun l_0 c_0 => J.a0 l_0 c_0 h
  | _ => False
noncomputable def u208 : Cuts := [(.root, 0)]
noncomputable def d211 : Code := Option.rec .skip (fun c => c) Go.Proofs.Tryz.f211.body
noncomputable def q211 : Plans := []
structure J211 where
  a0 : AV → H → Prop
noncomputable def s211_0 (c : Caller Prop FT) (k : KV) (_J : J211) (v_0 : AV) (h : H) : Prop :=
 oK (exNil v_0 h) fun v1 h2 =>
 fAddr 0 v1 fun v3 =>
 c (.func 246) [v3] h2 fun v4 h5 =>
 asI .i64 v4 fun n6 =>
 k (.int .i64 n6) h5
noncomputable def z211 : J211 := ⟨fun _ _ => False⟩
noncomputable def r211 (c : Caller Prop FT) (k : KV) (m : Nat) : J211 := Nat.rec z211 (fun _ J => ⟨s211_0 c k J⟩) m
noncomputable def f211 (J : J211) : Jump := fun L f h => match L with
  | 0 => J.a0 (f 0) h
  | _ => False
noncomputable def u211 : Cuts := [(.root, 0)]
noncomputable def d212 : Code := Option.rec .skip (fun c => c) Go.Proofs.Tryz.f212.body
noncomputable def q212 : Plans := []
structure J212 where
  a0 : AV → Int → Int → H → Prop
noncomputable def s212_0 (c : Caller Prop FT) (k : KV) (_J : J212) (v_0 : AV) (n_1 : Int) (n_2 : Int) (h : H) : Prop :=
 oK (exNil v_0 h) fun v1 h2 =>
 fAddr 0 v1 fun v3 =>
 c (.func 247) [v3, (.int .i64 n_1), (.int .i64 n_2)] h2 fun v4 h5 =>
 asB v4 fun b6 =>
 k (.bool b6) h5
noncomputable def z212 : J212 := ⟨fun _ _ _ _ => False⟩
noncomputable def r212 (c : Caller Prop FT) (k : KV) (m : Nat) : J212 := Nat.rec z212 (fun _ J => ⟨s212_0 c k J⟩) m
noncomputable def f212 (J : J212) : Jump := fun L f h => match L with
  | 0 => asI .i64 (f 1) fun n_1 => asI .i64 (f 2) fun n_2 => J.a0 (f 0) n_1 n_2 h
  | _ => False
noncomputable def u212 : Cuts := [(.root, 0)]
noncomputable def d214 : Code := Option.rec .skip (fun c => c) Go.Proofs.Tryz.f214.body
noncomputable def q214 : Plans := []
structure J214 where
  a0 : AV → H → Prop
  a1 : AV → AV → Int → Int → H → Prop
noncomputable def s214_0 (_c : Caller Prop FT) (_k : KV) (J : J214) (v_0 : AV) (h : H) : Prop :=
 oK (withElem env 22 (fun e ei => exBuildSlice 5 [(0, (.str 0 0)), (1, (.str 1 76)), (2, (.str 1 117)), (3, (.str 1 85)), (4, (.str 2 14453))] h e ei)) fun v1 h2 =>
 lenV v1 fun m3 =>
 J.a1 v_0 v1 (Int.ofNat m3) (Int.ofNat 0) h2
noncomputable def s214_1 (c : Caller Prop FT) (k : KV) (J : J214) (v_0 : AV) (v_6 : AV) (n_7 : Int) (n_8 : Int) (h : H) : Prop :=
 cnd (iblt n_8 n_7)
 (natI n_8 fun m4 =>
 elemA 1 m4 v_6 fun v5 =>
 ld1 v5 h fun v6 =>
 asS v6 fun l7 c8 =>
 c (.func 173) [v_0, (.int .i64 (Int.ofNat l7))] h fun v9 h10 =>
 asI .u8 v9 fun n11 =>
 c (.func 170) [v_0, (.str l7 c8)] h10 fun v12 h13 =>
 asB v12 fun b14 =>
 joinB (fun k15 => gate true b14
 (joinB (fun k18 => gate false (ibeq n11 (Int.ofNat 34))
 (joinB (fun k21 => gate true (ibeq n11 (Int.ofNat 39))
 (k21 (bnot (strEq l7 c8 2 14453)) h13)
 (k21 false h13)) fun b23 h22 =>
 k18 b23 h22)
 (k18 true h13)) fun b20 h19 =>
 k15 b20 h19)
 (k15 false h13)) fun b17 h16 =>
 cnd b17
 (k (.int .i64 (Int.ofNat l7)) h16)
 (fI (wrap .i64 (iadd n_8 (Int.ofNat 1))) fun n24 =>
 J.a1 v_0 v_6 n_7 n24 h16))
 (k (.int .i64 (Int.negSucc 0)) h)
noncomputable def z214 : J214 := ⟨fun _ _ => False, fun _ _ _ _ _ => False⟩
noncomputable def r214 (c : Caller Prop FT) (k : KV) (m : Nat) : J214 := Nat.rec z214 (fun _ J => ⟨s214_0 c k J, s214_1 c k J⟩) m
noncomputable def f214 (J : J214) : Jump := fun L f h => match L with
  | 0 => J.a0 (f 0) h
  | 1 => asI .i64 (f 7) fun n_7 => asI .i64 (f 8) fun n_8 => J.a1 (f 0) (f 6) n_7 n_8 h
  | _ => False
noncomputable def u214 : Cuts := [(.root, 0), ((.l (.r (.l (.r .root)))), 1)]
noncomputable def d216 : Code := Option.rec .skip (fun c => c) Go.Proofs.Tryz.f216.body
noncomputable def q216 : Plans := []
noncomputable def u216 : Cuts := [(.root, 0), ((.r (.r (.r (.r (.l (.r (.l (.r .root)))))))), 1)]
noncomputable def d217 : Code := Option.rec .skip (fun c => c) Go.Proofs.Tryz.f217.body
noncomputable def q217 : Plans := []
noncomputable def u217 : Cuts := [(.root, 0), ((.r (.r .root)), 1)]
noncomputable def d218 : Code := Option.rec .skip (fun c => c) Go.Proofs.Tryz.f218.body
noncomputable def q218 : Plans := []
noncomputable def u218 : Cuts := [(.root, 0)]
noncomputable def d220 : Code := Option.rec .skip (fun c => c) Go.Proofs.Tryz.f220.body
noncomputable def q220 : Plans := []
structure J220 where
  a0 : AV → Nat → Nat → H → Prop
noncomputable def s220_0 (c : Caller Prop FT) (k : KV) (_J : J220) (v_0 : AV) (l_1 : Nat) (c_1 : Nat) (h : H) : Prop :=
 asG v_0 fun g1 =>
 chk (Nat.ble 1 (len g1)) <|
 Hp.newK h (rowOf 224 g1) fun p2 h3 =>
 fAddr 3 (.ptr p2 0) fun v4 =>
 ld1 v4 h3 fun v5 =>
 c (.func 253) [v5, (.str l_1 c_1)] h3 fun v6 h7 =>
 asI .i64 v6 fun n8 =>
 k (.int .i64 n8) h7
noncomputable def z220 : J220 := ⟨fun _ _ _ _ => False⟩
noncomputable def r220 (c : Caller Prop FT) (k : KV) (m : Nat) : J220 := Nat.rec z220 (fun _ J => ⟨s220_0 c k J⟩) m
noncomputable def f220 (J : J220) : Jump := fun L f h => match L with
  | 0 => asS (f 1) fun l_1 c_1 => J.a0 (f 0) l_1 c_1 h
  | _ => False
noncomputable def u220 : Cuts := [(.root, 0)]
noncomputable def d221 : Code := Option.rec .skip (fun c => c) Go.Proofs.Tryz.f221.body
noncomputable def q221 : Plans := []
structure J221 where
  a0 : AV → H → Prop
noncomputable def s221_0 (c : Caller Prop FT) (k : KV) (_J : J221) (v_0 : AV) (h : H) : Prop :=
 asG v_0 fun g1 =>
 chk (Nat.ble 1 (len g1)) <|
 Hp.newK h (rowOf 53 g1) fun p2 h3 =>
 ldn 8 (.ptr p2 0) h3 fun v4 =>
 c (.func 97) [v4, (.str 2 8995)] h3 fun v5 h6 =>
 asB v5 fun b7 =>
 joinB (fun k8 => gate false b7
 (ldn 8 (.ptr p2 0) h6 fun v11 =>
 c (.func 97) [v11, (.str 4 975518245)] h6 fun v12 h13 =>
 asB v12 fun b14 =>
 k8 b14 h13)
 (k8 true h6)) fun b10 h9 =>
 k (.bool b10) h9
noncomputable def z221 : J221 := ⟨fun _ _ => False⟩
noncomputable def r221 (c : Caller Prop FT) (k : KV) (m : Nat) : J221 := Nat.rec z221 (fun _ J => ⟨s221_0 c k J⟩) m
noncomputable def f221 (J : J221) : Jump := fun L f h => match L with
  | 0 => J.a0 (f 0) h
  | _ => False
noncomputable def u221 : Cuts := [(.root, 0)]
noncomputable def d222 : Code := Option.rec .skip (fun c => c) Go.Proofs.Tryz.f222.body
noncomputable def q222 : Plans := []
noncomputable def u222 : Cuts := [(.root, 0)]
noncomputable def d223 : Code := Option.rec .skip (fun c => c) Go.Proofs.Tryz.f223.body
noncomputable def q223 : Plans := []
noncomputable def u223 : Cuts := [(.root, 0), ((.l (.r (.l (.r (.r (.r .root)))))), 1), ((.r (.r (.l (.l (.r (.r (.l (.l (.r (.l (.r (.r (.r .root))))))))))))), 2)]
noncomputable def d224 : Code := Option.rec .skip (fun c => c) Go.Proofs.Tryz.f224.body
noncomputable def q224 : Plans := []
structure J224 where
  a0 : AV → H → Prop
  a1 : AV → AV → Int → Int → H → Prop
noncomputable def s224_0 (_c : Caller Prop FT) (_k : KV) (J : J224) (v_0 : AV) (h : H) : Prop :=
 lenV v_0 fun m1 =>
 J.a1 .nils v_0 (Int.ofNat m1) (Int.ofNat 0) h
noncomputable def s224_1 (c : Caller Prop FT) (k : KV) (J : J224) (v_2 : AV) (v_5 : AV) (n_6 : Int) (n_7 : Int) (h : H) : Prop :=
 cnd (iblt n_7 n_6)
 (natI n_7 fun m2 =>
 elemA 8 m2 v_5 fun v3 =>
 ldn 8 v3 h fun v4 =>
 Hp.newK h ob53 fun p5 h6 =>
 stn 8 (.ptr p5 0) v4 h6 fun h7 =>
 fAddr 7 (.ptr p5 0) fun v8 =>
 ld1 v8 h7 fun v9 =>
 c (.func 48) [v9] h7 fun v10 h11 =>
 fAddr 7 (.ptr p5 0) fun v12 =>
 st1 v12 v10 h11 fun h13 =>
 ldn 8 (.ptr p5 0) h13 fun v14 =>
 oK (withElem env 26 (fun e ei => exBuildSlice 1 [(0, v14)] h13 e ei)) fun v15 h16 =>
 oK (builtinA env .append [26, 26] [v_2, v15] h16) fun v17 h18 =>
 fI (wrap .i64 (iadd n_7 (Int.ofNat 1))) fun n19 =>
 J.a1 v17 v_5 n_6 n19 h18)
 (k v_2 h)
noncomputable def z224 : J224 := ⟨fun _ _ => False, fun _ _ _ _ _ => False⟩
noncomputable def r224 (c : Caller Prop FT) (k : KV) (m : Nat) : J224 := Nat.rec z224 (fun _ J => ⟨s224_0 c k J, s224_1 c k J⟩) m
noncomputable def f224 (J : J224) : Jump := fun L f h => match L with
  | 0 => J.a0 (f 0) h
  | 1 => asI .i64 (f 6) fun n_6 => asI .i64 (f 7) fun n_7 => J.a1 (f 2) (f 5) n_6 n_7 h
  | _ => False
noncomputable def u224 : Cuts := [(.root, 0), ((.l (.r (.l (.r .root)))), 1)]
noncomputable def d225 : Code := Option.rec .skip (fun c => c) Go.Proofs.Tryz.f225.body
noncomputable def q225 : Plans := [(4, [0, 1, 2, 3, 4, 5, 7, 6, 8, 9, 10, 11, 12, 13, 14])]
noncomputable def u225 : Cuts := [(.root, 0)]
noncomputable def d229 : Code := Option.rec .skip (fun c => c) Go.Proofs.Tryz.f229.body
noncomputable def q229 : Plans := []
structure J229 where
  a0 : AV → H → Prop
noncomputable def s229_0 (c : Caller Prop FT) (k : KV) (_J : J229) (v_0 : AV) (h : H) : Prop :=
 oK (exNil v_0 h) fun v1 h2 =>
 fAddr 0 v1 fun v3 =>
 c (.func 255) [v3] h2 fun _ h5 =>
 k (.tuple []) h5
noncomputable def z229 : J229 := ⟨fun _ _ => False⟩
noncomputable def r229 (c : Caller Prop FT) (k : KV) (m : Nat) : J229 := Nat.rec z229 (fun _ J => ⟨s229_0 c k J⟩) m
noncomputable def f229 (J : J229) : Jump := fun L f h => match L with
  | 0 => J.a0 (f 0) h
  | _ => False
noncomputable def u229 : Cuts := [(.root, 0)]
noncomputable def d230 : Code := Option.rec .skip (fun c => c) Go.Proofs.Tryz.f230.body
noncomputable def q230 : Plans := []
structure J230 where
  a0 : AV → H → Prop
noncomputable def s230_0 (c : Caller Prop FT) (k : KV) (_J : J230) (v_0 : AV) (h : H) : Prop :=
 oK (exNil v_0 h) fun v1 h2 =>
 fAddr 0 v1 fun v3 =>
 c (.func 256) [v3] h2 fun _ h5 =>
 k (.tuple []) h5
noncomputable def z230 : J230 := ⟨fun _ _ => False⟩
noncomputable def r230 (c : Caller Prop FT) (k : KV) (m : Nat) : J230 := Nat.rec z230 (fun _ J => ⟨s230_0 c k J⟩) m
noncomputable def f230 (J : J230) : Jump := fun L f h => match L with
  | 0 => J.a0 (f 0) h
  | _ => False
noncomputable def u230 : Cuts := [(.root, 0)]
noncomputable def d231 : Code := Option.rec .skip (fun c => c) Go.Proofs.Tryz.f231.body
noncomputable def q231 : Plans := [(0, [0, 1, 2, 3, 4, 5])]
structure J231 where
  a0 : AV → Bool → H → Prop
noncomputable def s231_0 (c : Caller Prop FT) (k : KV) (_J : J231) (v_0 : AV) (b_1 : Bool) (h : H) : Prop :=
 oK (exNil v_0 h) fun v1 h2 =>
 fAddr 0 v1 fun v3 =>
 c (.func 258) [(.bool b_1)] h2 fun v4 h5 =>
 asI .u32 v4 fun n6 =>
 c (.func 257) [v3, (.int .u32 n6)] h5 fun _ h8 =>
 k (.tuple []) h8
noncomputable def z231 : J231 := ⟨fun _ _ _ => False⟩
noncomputable def r231 (c : Caller Prop FT) (k : KV) (m : Nat) : J231 := Nat.rec z231 (fun _ J => ⟨s231_0 c k J⟩) m
noncomputable def f231 (J : J231) : Jump := fun L f h => match L with
  | 0 => asB (f 1) fun b_1 => J.a0 (f 0) b_1 h
  | _ => False
noncomputable def u231 : Cuts := [(.root, 0)]
noncomputable def d240 : Code := Option.rec .skip (fun c => c) Go.Proofs.Tryz.f240.body
noncomputable def q240 : Plans := []
structure J240 where
  a0 : AV → AV → H → Prop
  a1 : AV → AV → Nat → Nat → H → Prop
  a2 : AV → AV → H → Prop
  a3 : AV → AV → Nat → Nat → H → Prop
noncomputable def s240_0 (c : Caller Prop FT) (k : KV) (J : J240) (v_0 : AV) (v_1 : AV) (h : H) : Prop :=
 lenV v_1 fun m1 =>
 joinB (fun k2 => gate true (iblt (Int.ofNat 0) (Int.ofNat m1))
 (elemA 8 0 v_1 fun v5 =>
 ldn 8 v5 h fun v6 =>
 c (.func 97) [v6, (.str 1 41)] h fun v7 h8 =>
 asB v7 fun b9 =>
 k2 b9 h8)
 (k2 false h)) fun b4 h3 =>
 cnd b4
 (oK (slice3 env h3 26 v_1 (some (natOf (.int .i64 (Int.ofNat 1)))) none none) fun v10 h11 =>
 k (.tuple [v10, (.bool true)]) h11)
 (lenV v_1 fun m12 =>
 joinB (fun k13 => gate false (iblt (Int.ofNat m12) (Int.ofNat 2))
 (oK (exNil v_0 h3) fun v16 h17 =>
 fAddr 2 v16 fun v18 =>
 ld1 v18 h17 fun v19 =>
 asB v19 fun b20 =>
 k13 b20 h17)
 (k13 true h3)) fun b15 h14 =>
 cnd b15
 (k (.tuple [.nils, (.bool false)]) h14)
 (elemA 8 0 v_1 fun v21 =>
 fAddr 1 v21 fun v22 =>
 ld1 v22 h14 fun v23 =>
 asS v23 fun l24 c25 =>
 elemA 8 0 v_1 fun v26 =>
 ldn 8 v26 h14 fun v27 =>
 c (.func 97) [v27, (.str 3 3026478)] h14 fun v28 h29 =>
 asB v28 fun b30 =>
 cnd b30
 (oK (exNil v_0 h29) fun v31 h32 =>
 fAddr 2 v31 fun v33 =>
 st1 v33 (.bool true) h32 fun h34 =>
 J.a1 v_0 v_1 11 115298113898262507942207327 h34)
 (elemA 8 0 v_1 fun v35 =>
 fAddr 0 v35 fun v36 =>
 ld1 v36 h29 fun v37 =>
 asI .i64 v37 fun n38 =>
 joinB (fun k39 => gate false (bnot (ibeq n38 (Int.ofNat 1)))
 (k39 (strEq l24 c25 11 115298113898262507942207327) h29)
 (k39 true h29)) fun b41 h40 =>
 joinB (fun k42 => gate false b41
 (oK (exNil v_0 h40) fun v45 h46 =>
 ldn 8 v45 h46 fun v47 =>
 c (.func 220) [v47, (.str l24 c25)] h46 fun v48 h49 =>
 asI .i64 v48 fun n50 =>
 k42 (ible (Int.ofNat 0) n50) h49)
 (k42 true h40)) fun b44 h43 =>
 cnd b44
 (k (.tuple [.nils, (.bool false)]) h43)
 (J.a1 v_0 v_1 l24 c25 h43))))
noncomputable def s240_1 (c : Caller Prop FT) (k : KV) (J : J240) (v_0 : AV) (v_1 : AV) (l_6 : Nat) (c_6 : Nat) (h : H) : Prop :=
 oK (exNil v_0 h) fun v51 h52 =>
 fAddr 3 v51 fun v53 =>
 ld1 v53 h52 fun v54 =>
 oK (withElem env 22 (fun e ei => exBuildSlice 1 [(0, (.str l_6 c_6))] h52 e ei)) fun v55 h56 =>
 oK (builtinA env .append [22, 22] [v54, v55] h56) fun v57 h58 =>
 oK (exNil v_0 h58) fun v59 h60 =>
 fAddr 3 v59 fun v61 =>
 st1 v61 v57 h60 fun h62 =>
 elemA 8 1 v_1 fun v63 =>
 ldn 8 v63 h62 fun v64 =>
 c (.func 97) [v64, (.str 1 41)] h62 fun v65 h66 =>
 asB v65 fun b67 =>
 cnd b67
 (oK (slice3 env h66 26 v_1 (some (natOf (.int .i64 (Int.ofNat 2)))) none none) fun v68 h69 =>
 k (.tuple [v68, (.bool true)]) h69)
 (elemA 8 1 v_1 fun v70 =>
 ldn 8 v70 h66 fun v71 =>
 c (.func 97) [v71, (.str 1 44)] h66 fun v72 h73 =>
 asB v72 fun b74 =>
 cnd b74
 (oK (slice3 env h73 26 v_1 (some (natOf (.int .i64 (Int.ofNat 2)))) none none) fun v75 h76 =>
 J.a2 v_0 v75 h76)
 (k (.tuple [.nils, (.bool false)]) h73))
noncomputable def s240_2 (c : Caller Prop FT) (k : KV) (J : J240) (v_0 : AV) (v_1 : AV) (h : H) : Prop :=
 lenV v_1 fun m77 =>
 joinB (fun k78 => gate false (iblt (Int.ofNat m77) (Int.ofNat 2))
 (oK (exNil v_0 h) fun v81 h82 =>
 fAddr 2 v81 fun v83 =>
 ld1 v83 h82 fun v84 =>
 asB v84 fun b85 =>
 k78 b85 h82)
 (k78 true h)) fun b80 h79 =>
 cnd b80
 (k (.tuple [.nils, (.bool false)]) h79)
 (elemA 8 0 v_1 fun v86 =>
 fAddr 1 v86 fun v87 =>
 ld1 v87 h79 fun v88 =>
 asS v88 fun l89 c90 =>
 elemA 8 0 v_1 fun v91 =>
 ldn 8 v91 h79 fun v92 =>
 c (.func 97) [v92, (.str 3 3026478)] h79 fun v93 h94 =>
 asB v93 fun b95 =>
 cnd b95
 (oK (exNil v_0 h94) fun v96 h97 =>
 fAddr 2 v96 fun v98 =>
 st1 v98 (.bool true) h97 fun h99 =>
 J.a3 v_0 v_1 11 115298113898262507942207327 h99)
 (elemA 8 0 v_1 fun v100 =>
 fAddr 0 v100 fun v101 =>
 ld1 v101 h94 fun v102 =>
 asI .i64 v102 fun n103 =>
 joinB (fun k104 => gate false (bnot (ibeq n103 (Int.ofNat 1)))
 (k104 (strEq l89 c90 11 115298113898262507942207327) h94)
 (k104 true h94)) fun b106 h105 =>
 joinB (fun k107 => gate false b106
 (oK (exNil v_0 h105) fun v110 h111 =>
 ldn 8 v110 h111 fun v112 =>
 c (.func 220) [v112, (.str l89 c90)] h111 fun v113 h114 =>
 asI .i64 v113 fun n115 =>
 k107 (ible (Int.ofNat 0) n115) h114)
 (k107 true h105)) fun b109 h108 =>
 cnd b109
 (k (.tuple [.nils, (.bool false)]) h108)
 (J.a3 v_0 v_1 l89 c90 h108)))
noncomputable def s240_3 (c : Caller Prop FT) (k : KV) (J : J240) (v_0 : AV) (v_1 : AV) (l_6 : Nat) (c_6 : Nat) (h : H) : Prop :=
 oK (exNil v_0 h) fun v116 h117 =>
 fAddr 3 v116 fun v118 =>
 ld1 v118 h117 fun v119 =>
 oK (withElem env 22 (fun e ei => exBuildSlice 1 [(0, (.str l_6 c_6))] h117 e ei)) fun v120 h121 =>
 oK (builtinA env .append [22, 22] [v119, v120] h121) fun v122 h123 =>
 oK (exNil v_0 h123) fun v124 h125 =>
 fAddr 3 v124 fun v126 =>
 st1 v126 v122 h125 fun h127 =>
 elemA 8 1 v_1 fun v128 =>
 ldn 8 v128 h127 fun v129 =>
 c (.func 97) [v129, (.str 1 41)] h127 fun v130 h131 =>
 asB v130 fun b132 =>
 cnd b132
 (oK (slice3 env h131 26 v_1 (some (natOf (.int .i64 (Int.ofNat 2)))) none none) fun v133 h134 =>
 k (.tuple [v133, (.bool true)]) h134)
 (elemA 8 1 v_1 fun v135 =>
 ldn 8 v135 h131 fun v136 =>
 c (.func 97) [v136, (.str 1 44)] h131 fun v137 h138 =>
 asB v137 fun b139 =>
 cnd b139
 (oK (slice3 env h138 26 v_1 (some (natOf (.int .i64 (Int.ofNat 2)))) none none) fun v140 h141 =>
 J.a2 v_0 v140 h141)
 (k (.tuple [.nils, (.bool false)]) h138))
noncomputable def z240 : J240 := ⟨fun _ _ _ => False, fun _ _ _ _ _ => False, fun _ _ _ => False, fun _ _ _ _ _ => False⟩
noncomputable def r240 (c : Caller Prop FT) (k : KV) (m : Nat) : J240 := Nat.rec z240 (fun _ J => ⟨s240_0 c k J, s240_1 c k J, s240_2 c k J, s240_3 c k J⟩) m
noncomputable def f240 (J : J240) : Jump := fun L f h => match L with
  | 0 => J.a0 (f 0) (f 1) h
  | 1 => asS (f 6) fun l_6 c_6 => J.a1 (f 0) (f 1) l_6 c_6 h
  | 2 => J.a2 (f 0) (f 1) h
  | 3 => asS (f 6) fun l_6 c_6 => J.a3 (f 0) (f 1) l_6 c_6 h
  | _ => False
noncomputable def u240 : Cuts := [(.root, 0), ((.r (.r (.r (.r (.r (.r (.l (.r .root)))))))), 1), ((.lab (.r .root) 0), 2), ((.r (.r (.r (.r (.lab (.r .root) 0))))), 3)]
noncomputable def d241 : Code := Option.rec .skip (fun c => c) Go.Proofs.Tryz.f241.body
noncomputable def q241 : Plans := [(1, [0, 1, 2, 3, 4, 5, 6, 7, 8, 9, 10, 11, 12, 13, 14, 15])]
structure J241 where
  a0 : AV → Int → H → Prop
noncomputable def s241_0 (c : Caller Prop FT) (k : KV) (_J : J241) (v_0 : AV) (n_1 : Int) (h : H) : Prop :=
 oK (exNil v_0 h) fun v1 h2 =>
 fAddr 4 v1 fun v3 =>
 ld1 v3 h2 fun v4 =>
 natI n_1 fun m5 =>
 elemA 8 m5 v4 fun v6 =>
 ldn 8 v6 h2 fun v7 =>
 oK (exNil v_0 h2) fun v8 h9 =>
 fAddr 4 v8 fun v10 =>
 ld1 v10 h9 fun v11 =>
 lenV v11 fun m12 =>
 fI (wrap .i64 (isub (Int.ofNat m12) (Int.ofNat 1))) fun n13 =>
 Hp.newK h9 ob53 fun p14 h15 =>
 ld1 v3 h15 fun v16 =>
 eqC v16 v4 <|
 ldn 8 v6 h15 fun v17 =>
 eqC v17 v7 <|
 ld1 v10 h15 fun v18 =>
 eqC v18 v11 <|
 stn 8 (.ptr p14 0) v7 h15 fun h19 =>
 ld1 v10 h19 fun v20 =>
 eqC v20 v11 <|
 ldn 8 (.ptr p14 0) h19 fun v21 =>
 c (.func 221) [v21] h19 fun v22 h23 =>
 asB v22 fun b24 =>
 cnd b24
 (joinB (fun k25 => gate false (ibeq n_1 (Int.ofNat 0))
 (k25 (ibeq n_1 n13) h23)
 (k25 true h23)) fun b27 h26 =>
 k (.bool b27) h26)
 (oK (exNil v_0 h23) fun v28 h29 =>
 fAddr 1 v28 fun v30 =>
 ld1 v30 h29 fun v31 =>
 asB v31 fun b32 =>
 joinB (fun k33 => gate true b32
 (ldn 8 (.ptr p14 0) h29 fun v36 =>
 c (.func 108) [v36] h29 fun v37 h38 =>
 asB v37 fun b39 =>
 k33 b39 h38)
 (k33 false h29)) fun b35 h34 =>
 cnd b35
 (joinB (fun k40 => gate false (ibeq n_1 n13)
 (oK (exNil v_0 h34) fun v43 h44 =>
 fAddr 4 v43 fun v45 =>
 ld1 v45 h44 fun v46 =>
 fI (wrap .i64 (iadd n_1 (Int.ofNat 1))) fun n47 =>
 natI n47 fun m48 =>
 elemA 8 m48 v46 fun v49 =>
 ldn 8 v49 h44 fun v50 =>
 c (.func 185) [v_0, v50] h44 fun v51 h52 =>
 asI .i64 v51 fun n53 =>
 k40 (iblt n53 (Int.ofNat 0)) h52)
 (k40 true h34)) fun b42 h41 =>
 k (.bool b42) h41)
 (fAddr 0 (.ptr p14 0) fun v54 =>
 ld1 v54 h34 fun v55 =>
 asI .i64 v55 fun n56 =>
 joinB (fun k57 => gate true (ibeq n56 (Int.ofNat 1))
 (fAddr 1 (.ptr p14 0) fun v60 =>
 ld1 v60 h34 fun v61 =>
 asS v61 fun l62 c63 =>
 k57 (strEq l62 c63 11 115298113898262507942207327) h34)
 (k57 false h34)) fun b59 h58 =>
 joinB (fun k64 => gate true b59
 (oK (exNil v_0 h58) fun v67 h68 =>
 fAddr 2 v67 fun v69 =>
 ld1 v69 h68 fun v70 =>
 asB v70 fun b71 =>
 k64 (bnot b71) h68)
 (k64 false h58)) fun b66 h65 =>
 k (.bool b66) h65))
noncomputable def z241 : J241 := ⟨fun _ _ _ => False⟩
noncomputable def r241 (c : Caller Prop FT) (k : KV) (m : Nat) : J241 := Nat.rec z241 (fun _ J => ⟨s241_0 c k J⟩) m
noncomputable def f241 (J : J241) : Jump := fun L f h => match L with
  | 0 => asI .i64 (f 1) fun n_1 => J.a0 (f 0) n_1 h
  | _ => False
noncomputable def u241 : Cuts := [(.root, 0)]
noncomputable def d242 : Code := Option.rec .skip (fun c => c) Go.Proofs.Tryz.f242.body
noncomputable def q242 : Plans := [(1, [0, 1, 3, 4, 2, 6, 5, 7, 8, 9])]
structure J242 where
  a0 : AV → H → Prop
noncomputable def s242_0 (c : Caller Prop FT) (k : KV) (_J : J242) (v_0 : AV) (h : H) : Prop :=
 asG v_0 fun g1 =>
 chk (Nat.ble 1 (len g1)) <|
 Hp.newK h (rowOf 224 g1) fun p2 h3 =>
 Hp.newK h3 ob224 fun p4 h5 =>
 fAddr 3 (.ptr p2 0) fun v6 =>
 ld1 v6 h5 fun v7 =>
 fAddr 4 (.ptr p2 0) fun v8 =>
 ld1 v8 h5 fun v9 =>
 c (.func 34) [v7] h5 fun v10 h11 =>
 ld1 v8 h11 fun v12 =>
 eqC v12 v9 <|
 fAddr 3 (.ptr p2 0) fun v13 =>
 c (.func 224) [v9] h11 fun v14 h15 =>
 st1 v13 v10 h15 fun h16 =>
 fAddr 4 (.ptr p2 0) fun v17 =>
 st1 v17 v14 h16 fun h18 =>
 ldn 8 (.ptr p2 0) h18 fun v19 =>
 stn 8 (.ptr p4 0) v19 h18 fun h20 =>
 ldn 8 (.ptr p4 0) h20 fun v21 =>
 k v21 h20
noncomputable def z242 : J242 := ⟨fun _ _ => False⟩
noncomputable def r242 (c : Caller Prop FT) (k : KV) (m : Nat) : J242 := Nat.rec z242 (fun _ J => ⟨s242_0 c k J⟩) m
noncomputable def f242 (J : J242) : Jump := fun L f h => match L with
  | 0 => J.a0 (f 0) h
  | _ => False
noncomputable def u242 : Cuts := [(.root, 0)]
noncomputable def d248 : Code := Option.rec .skip (fun c => c) Go.Proofs.Tryz.f248.body
noncomputable def q248 : Plans := []
noncomputable def u248 : Cuts := [(.root, 0)]
noncomputable def d252 : Code := Option.rec .skip (fun c => c) Go.Proofs.Tryz.f252.body
noncomputable def q252 : Plans := []
noncomputable def u252 : Cuts := [(.root, 0)]
noncomputable def d253 : Code := Option.rec .skip (fun c => c) Go.Proofs.Tryz.f253.body
noncomputable def q253 : Plans := []
structure J253 where
  a0 : AV → Nat → Nat → H → Prop
  a1 : AV → Nat → Nat → Int → Int → H → Prop
noncomputable def s253_0 (_c : Caller Prop FT) (_k : KV) (J : J253) (v_0 : AV) (l_1 : Nat) (c_1 : Nat) (h : H) : Prop :=
 lenV v_0 fun m1 =>
 J.a1 v_0 l_1 c_1 (Int.ofNat m1) (Int.ofNat 0) h
noncomputable def s253_1 (_c : Caller Prop FT) (k : KV) (J : J253) (v_0 : AV) (l_1 : Nat) (c_1 : Nat) (n_7 : Int) (n_8 : Int) (h : H) : Prop :=
 cnd (iblt n_8 n_7)
 (natI n_8 fun m2 =>
 elemA 1 m2 v_0 fun v3 =>
 ld1 v3 h fun v4 =>
 asS v4 fun l5 c6 =>
 cnd (strEq l_1 c_1 l5 c6)
 (k (.int .i64 n_8) h)
 (fI (wrap .i64 (iadd n_8 (Int.ofNat 1))) fun n7 =>
 J.a1 v_0 l_1 c_1 n_7 n7 h))
 (k (.int .i64 (Int.negSucc 0)) h)
noncomputable def z253 : J253 := ⟨fun _ _ _ _ => False, fun _ _ _ _ _ _ => False⟩
noncomputable def r253 (c : Caller Prop FT) (k : KV) (m : Nat) : J253 := Nat.rec z253 (fun _ J => ⟨s253_0 c k J, s253_1 c k J⟩) m
noncomputable def f253 (J : J253) : Jump := fun L f h => match L with
  | 0 => asS (f 1) fun l_1 c_1 => J.a0 (f 0) l_1 c_1 h
  | 1 => asS (f 1) fun l_1 c_1 => asI .i64 (f 7) fun n_7 => asI .i64 (f 8) fun n_8 => J.a1 (f 0) l_1 c_1 n_7 n_8 h
  | _ => False
noncomputable def u253 : Cuts := [(.root, 0), ((.l (.r (.l (.r .root)))), 1)]
noncomputable def d254 : Code := Option.rec .skip (fun c => c) Go.Proofs.Tryz.f254.body
noncomputable def q254 : Plans := [(5, [0, 1, 2, 3, 4, 5, 6, 7, 8, 9, 10, 11, 12, 13, 14, 15, 16]), (8, [0, 1, 2, 3, 4, 5, 6, 7, 8, 9, 10, 11, 12, 13, 14, 15, 16, 17, 18, 19, 20, 21, 22, 23, 24, 25])]
noncomputable def u254 : Cuts := [(.root, 0), ((.l (.r (.l (.r (.r .root))))), 1), ((.r (.r (.r (.r (.r .root))))), 2)]
noncomputable def d255 : Code := Option.rec .skip (fun c => c) Go.Proofs.Tryz.f255.body
noncomputable def q255 : Plans := []
structure J255 where
  a0 : AV → H → Prop
noncomputable def s255_0 (c : Caller Prop FT) (k : KV) (_J : J255) (v_0 : AV) (h : H) : Prop :=
 c (.func 279) [] h fun _ h2 =>
 oK (exNil v_0 h2) fun v3 h4 =>
 fAddr 0 v3 fun v5 =>
 c (.func 280) [v5, (.int .i32 (Int.ofNat 0)), (.int .i32 (Int.ofNat 1))] h4 fun v6 h7 =>
 asB v6 fun b8 =>
 cnd b8
 (cnd true
 (c (.func 281) [] h7 fun _ h10 =>
 oK (convA env h10 402 281 v_0) fun v11 h12 =>
 c (.func 282) [v11] h12 fun _ h14 =>
 k (.tuple []) h14)
 (k (.tuple []) h7))
 (c (.func 283) [v_0] h7 fun _ h16 =>
 k (.tuple []) h16)
noncomputable def z255 : J255 := ⟨fun _ _ => False⟩
noncomputable def r255 (c : Caller Prop FT) (k : KV) (m : Nat) : J255 := Nat.rec z255 (fun _ J => ⟨s255_0 c k J⟩) m
noncomputable def f255 (J : J255) : Jump := fun L f h => match L with
  | 0 => J.a0 (f 0) h
  | _ => False
noncomputable def u255 : Cuts := [(.root, 0)]
noncomputable def d256 : Code := Option.rec .skip (fun c => c) Go.Proofs.Tryz.f256.body
noncomputable def q256 : Plans := []
structure J256 where
  a0 : AV → H → Prop
  a1 : AV → H → Prop
noncomputable def s256_0 (c : Caller Prop FT) (_k : KV) (J : J256) (v_0 : AV) (h : H) : Prop :=
 cnd true
 (oK (exNil v_0 h) fun v1 h2 =>
 fAddr 0 v1 fun v3 =>
 ld1 v3 h2 fun v4 =>
 asI .i32 v4 fun _ =>
 oK (convA env h2 402 281 v_0) fun v6 h7 =>
 c (.func 284) [v6] h7 fun _ h9 =>
 c (.func 279) [] h9 fun _ h11 =>
 J.a1 v_0 h11)
 (J.a1 v_0 h)
noncomputable def s256_1 (c : Caller Prop FT) (k : KV) (_J : J256) (v_0 : AV) (h : H) : Prop :=
 oK (exNil v_0 h) fun v12 h13 =>
 fAddr 0 v12 fun v14 =>
 c (.func 285) [v14, (.int .i32 (Int.negSucc 0))] h13 fun v15 h16 =>
 asI .i32 v15 fun n17 =>
 cnd (bnot (ibeq n17 (Int.ofNat 0)))
 (c (.func 286) [v_0, (.int .i32 n17)] h16 fun _ h19 =>
 c (.func 281) [] h19 fun _ h21 =>
 k (.tuple []) h21)
 (c (.func 281) [] h16 fun _ h23 =>
 k (.tuple []) h23)
noncomputable def z256 : J256 := ⟨fun _ _ => False, fun _ _ => False⟩
noncomputable def r256 (c : Caller Prop FT) (k : KV) (m : Nat) : J256 := Nat.rec z256 (fun _ J => ⟨s256_0 c k J, s256_1 c k J⟩) m
noncomputable def f256 (J : J256) : Jump := fun L f h => match L with
  | 0 => J.a0 (f 0) h
  | 1 => J.a1 (f 0) h
  | _ => False
noncomputable def u256 : Cuts := [(.root, 0), ((.r .root), 1)]
noncomputable def d258 : Code := Option.rec .skip (fun c => c) Go.Proofs.Tryz.f258.body
noncomputable def q258 : Plans := []
structure J258 where
  a0 : Bool → H → Prop
noncomputable def s258_0 (_c : Caller Prop FT) (k : KV) (_J : J258) (b_0 : Bool) (h : H) : Prop :=
 cnd b_0
 (k (.int .u32 (Int.ofNat 1)) h)
 (k (.int .u32 (Int.ofNat 0)) h)
noncomputable def z258 : J258 := ⟨fun _ _ => False⟩
noncomputable def r258 (c : Caller Prop FT) (k : KV) (m : Nat) : J258 := Nat.rec z258 (fun _ J => ⟨s258_0 c k J⟩) m
noncomputable def f258 (J : J258) : Jump := fun L f h => match L with
  | 0 => asB (f 0) fun b_0 => J.a0 b_0 h
  | _ => False
noncomputable def u258 : Cuts := [(.root, 0)]
noncomputable def d278 : Code := Option.rec .skip (fun c => c) Go.Proofs.Tryz.f278.body
noncomputable def q278 : Plans := [(3, [0, 1, 2, 3, 4, 5, 6, 7, 8])]
noncomputable def u278 : Cuts := [(.root, 0), ((.l (.r (.l (.r (.r (.r (.r .root))))))), 1), ((.r (.r (.l (.l (.r (.l (.r (.r (.r (.r .root)))))))))), 2), ((.l (.r (.l (.r (.l (.r (.l (.r (.r (.r (.r (.r .root)))))))))))), 3), ((.l (.r (.l (.r (.r (.l (.r (.l (.r (.r (.r (.r (.r .root))))))))))))), 4), ((.l (.r (.l (.r (.r (.r (.r (.r (.r (.r .root)))))))))), 5), ((.r (.r (.r (.l (.l (.r (.l (.l (.r (.l (.r (.r (.r (.r (.r (.r (.r .root))))))))))))))))), 6)]
noncomputable def d391 : Code := Option.rec .skip (fun c => c) Go.Proofs.Tryz.f391.body
noncomputable def q391 : Plans := [(9, [0, 1, 2, 3, 4, 5, 6, 7, 8, 9, 10, 11, 12, 13]), (28, [0, 1, 2, 3, 4, 5, 6, 7, 8, 9, 10, 11, 12])]
noncomputable def u391 : Cuts := [(.root, 0), ((.l (.r (.l (.r (.l (.r (.r (.r .root)))))))), 1), ((.l (.r (.r (.r (.l (.r (.r (.r .root)))))))), 2), ((.r (.r (.l (.l (.r (.r (.r (.l (.r (.r (.r .root))))))))))), 3), ((.l (.r (.l (.r (.r (.r (.r (.r (.r (.r .root)))))))))), 4), ((.r (.r (.l (.l (.r (.l (.r (.r (.r (.r (.r (.r (.r .root))))))))))))), 5), ((.r (.r (.r (.r .root)))), 6)]
end Go.Den
