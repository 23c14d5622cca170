/-
  A part of the proof: the functions, in pieces.
-/
import Derived.Test.YtbjfkibkjjmdnaaGreatDoorRunA
namespace Go.Den
set_option maxRecDepth 100000
noncomputable def d150 : Code := Option.rec .skip (fun c => c) Go.Proofs.Tryz.f150.body
noncomputable def q150 : Plans := [(13, [0, 1, 2, 3, 4, 5, 6, 7, 8, 9, 10, 11, 12, 13])]
structure J150 where
  a0 : AV → AV → AV → AV → AV → H → Prop
  a1 : AV → AV → AV → AV → AV → AV → Int → H → Prop
noncomputable def s150_0 (_c : Caller Prop FT) (_k : KV) (J : J150) (v_0 : AV) (v_1 : AV) (v_2 : AV) (v_3 : AV) (v_4 : AV) (h : H) : Prop :=
 asG v_3 fun g1 =>
 chk (Nat.ble 1 (len g1)) <|
 Hp.newK h (rowOf 47 g1) fun p2 h3 =>
 ldn 5 (.ptr p2 0) h3 fun v4 =>
 oK (withElem env 43 (fun e ei => exBuildSlice 1 [(0, v4)] h3 e ei)) fun v5 h6 =>
 oK (builtinA env .append [43, 43] [v5, v_4] h6) fun v7 h8 =>
 oK (exBuild env (env.ty 318) [(0, v_0), (1, v_1), (2, v_2), (3, v7)] h8) fun v9 h10 =>
 asG v9 fun g11 =>
 chk (Nat.ble 1 (len g11)) <|
 Hp.newK h10 (rowOf 318 g11) fun p12 h13 =>
 J.a1 v_0 .nils .nils (.ptr p12 0) .nils .nilp (Int.ofNat 0) h13
noncomputable def s150_1 (c : Caller Prop FT) (k : KV) (J : J150) (v_0 : AV) (v_10 : AV) (v_11 : AV) (v_12 : AV) (v_13 : AV) (v_14 : AV) (n_15 : Int) (h : H) : Prop :=
 oK (exNil v_0 h) fun v14 h15 =>
 fAddr 4 v14 fun v16 =>
 ld1 v16 h15 fun v17 =>
 lenV v17 fun m18 =>
 cnd (iblt n_15 (Int.ofNat m18))
 (c (.func 195) [v_12, (.int .i64 n_15)] h15 fun v19 h20 =>
 ext 0 v19 fun v21 =>
 ext 1 v19 fun v22 =>
 asI .i64 v22 fun n23 =>
 Hp.newK h20 ob321 fun p24 h25 =>
 stn 5 (.ptr p24 0) v21 h25 fun h26 =>
 fI (wrap .i64 (iadd n_15 n23)) fun n27 =>
 fAddr 1 (.ptr p24 0) fun v28 =>
 ld1 v28 h26 fun v29 =>
 asB v29 fun b30 =>
 cnd b30
 (J.a1 v_0 v_10 v_11 v_12 v_13 (.ptr p24 0) n27 h26)
 (oV (binA env .neq 319 v_14 .nilp) fun v31 =>
 asB v31 fun b32 =>
 cnd b32
 (fAddr 0 (.ptr p24 0) fun v33 =>
 ld1 v33 h26 fun v34 =>
 oK (exNil v_14 h26) fun v35 h36 =>
 fAddr 2 v35 fun v37 =>
 ldn 3 v37 h36 fun v38 =>
 c (.func 196) [v_13, v34, v38, v_11] h36 fun v39 h40 =>
 ext 0 v39 fun v41 =>
 ext 1 v39 fun v42 =>
 J.a1 v_0 v_10 v42 v_12 v41 .nilp n27 h40)
 (oK (builtinA env .append [281, 281] [v_10, v_13] h26) fun v43 h44 =>
 fAddr 0 (.ptr p24 0) fun v45 =>
 ld1 v45 h44 fun v46 =>
 J.a1 v_0 v43 v_11 v_12 v46 v_14 n27 h44)))
 (oK (builtinA env .append [281, 281] [v_10, v_13] h15) fun v47 h48 =>
 k (.tuple [v47, v_11]) h48)
noncomputable def z150 : J150 := ⟨fun _ _ _ _ _ _ => False, fun _ _ _ _ _ _ _ _ => False⟩
noncomputable def r150 (c : Caller Prop FT) (k : KV) (m : Nat) : J150 := Nat.rec z150 (fun _ J => ⟨s150_0 c k J, s150_1 c k J⟩) m
noncomputable def f150 (J : J150) : Jump := fun L f h => match L with
  | 0 => J.a0 (f 0) (f 1) (f 2) (f 3) (f 4) h
  | 1 => asI .i64 (f 15) fun n_15 => J.a1 (f 0) (f 10) (f 11) (f 12) (f 13) (f 14) n_15 h
  | _ => False
noncomputable def u150 : Cuts := [(.root, 0), ((.l (.r (.l (.r (.r (.r (.r .root))))))), 1)]
noncomputable def d151 : Code := Option.rec .skip (fun c => c) Go.Proofs.Tryz.f151.body
noncomputable def q151 : Plans := []
structure J151 where
  a0 : AV → H → Prop
noncomputable def s151_0 (_c : Caller Prop FT) (k : KV) (_J : J151) (v_0 : AV) (h : H) : Prop :=
 one v_0 <|
 Hp.newK h (rowOf 281 [v_0]) fun p1 h2 =>
 k (.func (.func 197) [] [(.ptr p1 0)]) h2
noncomputable def z151 : J151 := ⟨fun _ _ => False⟩
noncomputable def r151 (c : Caller Prop FT) (k : KV) (m : Nat) : J151 := Nat.rec z151 (fun _ J => ⟨s151_0 c k J⟩) m
noncomputable def f151 (J : J151) : Jump := fun L f h => match L with
  | 0 => J.a0 (f 0) h
  | _ => False
noncomputable def u151 : Cuts := [(.root, 0)]
noncomputable def d152 : Code := Option.rec .skip (fun c => c) Go.Proofs.Tryz.f152.body
noncomputable def q152 : Plans := []
structure J152 where
  a0 : AV → H → Prop
  a1 : AV → Int → AV → Int → Int → H → Prop
  a2 : AV → AV → Int → Int → H → Prop
noncomputable def s152_0 (_c : Caller Prop FT) (_k : KV) (J : J152) (v_0 : AV) (h : H) : Prop :=
 lenV v_0 fun m1 =>
 J.a1 v_0 (Int.ofNat 0) v_0 (Int.ofNat m1) (Int.ofNat 0) h
noncomputable def s152_1 (c : Caller Prop FT) (_k : KV) (J : J152) (v_0 : AV) (n_3 : Int) (v_9 : AV) (n_10 : Int) (n_11 : Int) (h : H) : Prop :=
 cnd (iblt n_11 n_10)
 (natI n_11 fun m2 =>
 elemA 1 m2 v_9 fun v3 =>
 ld1 v3 h fun v4 =>
 lenV v4 fun m5 =>
 fI (wrap .i64 (iadd n_3 (Int.ofNat m5))) fun n6 =>
 cnd (iblt n6 (Int.ofNat 0))
 (False)
 (fI (wrap .i64 (iadd n_11 (Int.ofNat 1))) fun n7 =>
 J.a1 v_0 n6 v_9 n_10 n7 h))
 (c (.func 198) [.nils, (.int .i64 n_3)] h fun v8 h9 =>
 lenV v_0 fun m10 =>
 J.a2 v8 v_0 (Int.ofNat m10) (Int.ofNat 0) h9)
noncomputable def s152_2 (_c : Caller Prop FT) (k : KV) (J : J152) (v_6 : AV) (v_25 : AV) (n_26 : Int) (n_27 : Int) (h : H) : Prop :=
 cnd (iblt n_27 n_26)
 (natI n_27 fun m11 =>
 elemA 1 m11 v_25 fun v12 =>
 ld1 v12 h fun v13 =>
 oK (builtinA env .append [34, 34] [v_6, v13] h) fun v14 h15 =>
 fI (wrap .i64 (iadd n_27 (Int.ofNat 1))) fun n16 =>
 J.a2 v14 v_25 n_26 n16 h15)
 (k v_6 h)
noncomputable def z152 : J152 := ⟨fun _ _ => False, fun _ _ _ _ _ _ => False, fun _ _ _ _ _ => False⟩
noncomputable def r152 (c : Caller Prop FT) (k : KV) (m : Nat) : J152 := Nat.rec z152 (fun _ J => ⟨s152_0 c k J, s152_1 c k J, s152_2 c k J⟩) m
noncomputable def f152 (J : J152) : Jump := fun L f h => match L with
  | 0 => J.a0 (f 0) h
  | 1 => asI .i64 (f 3) fun n_3 => asI .i64 (f 10) fun n_10 => asI .i64 (f 11) fun n_11 => J.a1 (f 0) n_3 (f 9) n_10 n_11 h
  | 2 => asI .i64 (f 26) fun n_26 => asI .i64 (f 27) fun n_27 => J.a2 (f 6) (f 25) n_26 n_27 h
  | _ => False
noncomputable def u152 : Cuts := [(.root, 0), ((.l (.r (.l (.r (.r .root))))), 1), ((.l (.r (.l (.r (.r (.r (.r .root))))))), 2)]
noncomputable def d153 : Code := Option.rec .skip (fun c => c) Go.Proofs.Tryz.f153.body
noncomputable def q153 : Plans := [(6, [0, 1, 2, 3, 4, 5, 6, 7, 8, 9]), (11, [0, 1, 2, 3, 4, 5, 6, 7, 8, 9])]
structure J153 where
  a0 : AV → H → Prop
  a1 : AV → Int → H → Prop
  a2 : AV → Int → AV → Int → H → Prop
  a3 : AV → Int → AV → Int → H → Prop
noncomputable def s153_0 (_c : Caller Prop FT) (k : KV) (J : J153) (v_0 : AV) (h : H) : Prop :=
 lenV v_0 fun m1 =>
 cnd (iblt (Int.ofNat m1) (Int.ofNat 2))
 (k v_0 h)
 (J.a1 v_0 (Int.ofNat 1) h)
noncomputable def s153_1 (_c : Caller Prop FT) (k : KV) (J : J153) (v_0 : AV) (n_3 : Int) (h : H) : Prop :=
 lenV v_0 fun m2 =>
 cnd (iblt n_3 (Int.ofNat m2))
 (natI n_3 fun m3 =>
 elemA 1 m3 v_0 fun v4 =>
 ld1 v4 h fun v5 =>
 asS v5 fun l6 c7 =>
 fI (wrap .i64 (isub n_3 (Int.ofNat 1))) fun n8 =>
 natI n8 fun m9 =>
 elemA 1 m9 v_0 fun v10 =>
 ld1 v10 h fun v11 =>
 asS v11 fun l12 c13 =>
 cnd (strEq l6 c7 l12 c13)
 (oK (slice3 env h 34 v_0 (some (natOf (.int .i64 n_3))) none none) fun v14 h15 =>
 J.a2 v_0 n_3 v14 (Int.ofNat 1) h15)
 (fI (wrap .i64 (iadd n_3 (Int.ofNat 1))) fun n16 =>
 J.a1 v_0 n16 h))
 (k v_0 h)
noncomputable def s153_2 (_c : Caller Prop FT) (k : KV) (J : J153) (v_0 : AV) (n_3 : Int) (v_4 : AV) (n_5 : Int) (h : H) : Prop :=
 lenV v_4 fun m17 =>
 cnd (iblt n_5 (Int.ofNat m17))
 (natI n_5 fun m18 =>
 elemA 1 m18 v_4 fun v19 =>
 ld1 v19 h fun v20 =>
 asS v20 fun l21 c22 =>
 fI (wrap .i64 (isub n_5 (Int.ofNat 1))) fun n23 =>
 natI n23 fun m24 =>
 elemA 1 m24 v_4 fun v25 =>
 ld1 v25 h fun v26 =>
 asS v26 fun l27 c28 =>
 cnd (bnot (strEq l21 c22 l27 c28))
 (natI n_5 fun m29 =>
 elemA 1 m29 v_4 fun v30 =>
 ld1 v30 h fun v31 =>
 asS v31 fun l32 c33 =>
 natI n_3 fun m34 =>
 elemA 1 m34 v_0 fun v35 =>
 st1 v35 (.str l32 c33) h fun h36 =>
 fI (wrap .i64 (iadd n_3 (Int.ofNat 1))) fun n37 =>
 J.a3 v_0 n37 v_4 n_5 h36)
 (J.a3 v_0 n_3 v_4 n_5 h))
 (oK (slice3 env h 34 v_0 (some (natOf (.int .i64 n_3))) none none) fun v38 h39 =>
 oK (builtinA env .clear [34] [v38] h39) fun _ h41 =>
 oK (slice3 env h41 34 v_0 none (some (natOf (.int .i64 n_3))) none) fun v42 h43 =>
 k v42 h43)
noncomputable def s153_3 (_c : Caller Prop FT) (_k : KV) (J : J153) (v_0 : AV) (n_3 : Int) (v_4 : AV) (n_5 : Int) (h : H) : Prop :=
 fI (wrap .i64 (iadd n_5 (Int.ofNat 1))) fun n44 =>
 J.a2 v_0 n_3 v_4 n44 h
noncomputable def z153 : J153 := ⟨fun _ _ => False, fun _ _ _ => False, fun _ _ _ _ _ => False, fun _ _ _ _ _ => False⟩
noncomputable def r153 (c : Caller Prop FT) (k : KV) (m : Nat) : J153 := Nat.rec z153 (fun _ J => ⟨s153_0 c k J, s153_1 c k J, s153_2 c k J, s153_3 c k J⟩) m
noncomputable def f153 (J : J153) : Jump := fun L f h => match L with
  | 0 => J.a0 (f 0) h
  | 1 => asI .i64 (f 3) fun n_3 => J.a1 (f 0) n_3 h
  | 2 => asI .i64 (f 3) fun n_3 => asI .i64 (f 5) fun n_5 => J.a2 (f 0) n_3 (f 4) n_5 h
  | 3 => asI .i64 (f 3) fun n_3 => asI .i64 (f 5) fun n_5 => J.a3 (f 0) n_3 (f 4) n_5 h
  | _ => False
noncomputable def u153 : Cuts := [(.root, 0), ((.l (.r (.l (.r (.r .root))))), 1), ((.l (.r (.l (.r (.l (.r (.l (.l (.r (.l (.l (.r (.l (.r (.r .root))))))))))))))), 2), ((.r (.r (.l (.l (.r (.l (.r (.l (.r (.l (.l (.r (.l (.l (.r (.l (.r (.r .root)))))))))))))))))), 3)]
noncomputable def d154 : Code := Option.rec .skip (fun c => c) Go.Proofs.Tryz.f154.body
noncomputable def q154 : Plans := []
structure J154 where
  a0 : Nat → Nat → Nat → Nat → H → Prop
noncomputable def s154_0 (c : Caller Prop FT) (k : KV) (_J : J154) (l_0 : Nat) (c_0 : Nat) (l_1 : Nat) (c_1 : Nat) (h : H) : Prop :=
 c (.func 199) [(.str l_0 c_0), (.str l_1 c_1)] h fun v1 h2 =>
 asB v1 fun b3 =>
 k (.bool b3) h2
noncomputable def z154 : J154 := ⟨fun _ _ _ _ _ => False⟩
noncomputable def r154 (c : Caller Prop FT) (k : KV) (m : Nat) : J154 := Nat.rec z154 (fun _ J => ⟨s154_0 c k J⟩) m
noncomputable def f154 (J : J154) : Jump := fun L f h => match L with
  | 0 => asS (f 0) fun l_0 c_0 => asS (f 1) fun l_1 c_1 => J.a0 l_0 c_0 l_1 c_1 h
  | _ => False
noncomputable def u154 : Cuts := [(.root, 0)]
noncomputable def d155 : Code := Option.rec .skip (fun c => c) Go.Proofs.Tryz.f155.body
noncomputable def q155 : Plans := []
noncomputable def u155 : Cuts := [(.root, 0)]
noncomputable def d157 : Code := Option.rec .skip (fun c => c) Go.Proofs.Tryz.f157.body
noncomputable def q157 : Plans := []
noncomputable def u157 : Cuts := [(.root, 0), ((.r (.l (.r (.r (.r (.r (.r (.r (.r (.r (.r (.r .root)))))))))))), 1)]
noncomputable def d158 : Code := Option.rec .skip (fun c => c) Go.Proofs.Tryz.f158.body
noncomputable def q158 : Plans := []
structure J158 where
  a0 : Nat → Nat → Nat → Nat → H → Prop
  a1 : Nat → Nat → Nat → Nat → Int → Int → Int → Int → Int → Int → H → Prop
  a2 : Nat → Nat → Nat → Nat → Int → Int → Int → Int → Int → Int → H → Prop
noncomputable def s158_0 (c : Caller Prop FT) (k : KV) (J : J158) (l_0 : Nat) (c_0 : Nat) (l_1 : Nat) (c_1 : Nat) (h : H) : Prop :=
 joinB (fun k1 => gate false (ibeq (Int.ofNat l_1) (Int.ofNat 0))
 (k1 (strEq l_1 c_1 l_0 c_0) h)
 (k1 true h)) fun b3 h2 =>
 cnd b3
 (k (.int .i64 (Int.ofNat 0)) h2)
 (cnd (ibeq (Int.ofNat l_1) (Int.ofNat 1))
 (idxS l_1 c_1 0 fun m4 =>
 c (.func 201) [(.str l_0 c_0), (.int .u8 (Int.ofNat m4))] h2 fun v5 h6 =>
 asI .i64 v5 fun n7 =>
 k (.int .i64 n7) h6)
 (cnd (ible (Int.ofNat l_0) (Int.ofNat l_1))
 (k (.int .i64 (Int.negSucc 0)) h2)
 (ld1 (.ptr (.r .z) 0) h2 fun v8 =>
 asI .i64 v8 fun n9 =>
 joinB (fun k10 => gate true (ible (Int.ofNat l_1) n9)
 (k10 (ible (Int.ofNat l_0) (Int.ofNat 64)) h2)
 (k10 false h2)) fun b12 h11 =>
 cnd b12
 (c (.func 202) [(.str l_0 c_0), (.str l_1 c_1)] h11 fun v13 h14 =>
 asI .i64 v13 fun n15 =>
 k (.int .i64 n15) h14)
 (idxS l_1 c_1 0 fun m16 =>
 idxS l_1 c_1 1 fun m17 =>
 fI (wrap .i64 (isub (Int.ofNat l_0) (Int.ofNat l_1))) fun n18 =>
 fI (wrap .i64 (iadd n18 (Int.ofNat 1))) fun n19 =>
 J.a1 l_0 c_0 l_1 c_1 (Int.ofNat l_1) (Int.ofNat m16) (Int.ofNat m17) (Int.ofNat 0) n19 (Int.ofNat 0) h11))))
noncomputable def s158_1 (c : Caller Prop FT) (k : KV) (J : J158) (l_0 : Nat) (c_0 : Nat) (l_1 : Nat) (c_1 : Nat) (n_5 : Int) (n_6 : Int) (n_7 : Int) (n_8 : Int) (n_9 : Int) (n_10 : Int) (h : H) : Prop :=
 cnd (iblt n_8 n_9)
 (natI n_8 fun m20 =>
 idxS l_0 c_0 m20 fun m21 =>
 cnd (bnot (ibeq (Int.ofNat m21) n_6))
 (fI (wrap .i64 (iadd n_8 (Int.ofNat 1))) fun n22 =>
 natI n_9 fun m23 =>
 natI n22 fun m24 =>
 cutS l_0 c_0 m24 m23 fun l25 c26 =>
 c (.func 201) [(.str l25 c26), (.int .u8 n_6)] h fun v27 h28 =>
 asI .i64 v27 fun n29 =>
 cnd (iblt n29 (Int.ofNat 0))
 (k (.int .i64 (Int.negSucc 0)) h28)
 (fI (wrap .i64 (iadd n29 (Int.ofNat 1))) fun n30 =>
 fI (wrap .i64 (iadd n_8 n30)) fun n31 =>
 J.a2 l_0 c_0 l_1 c_1 n_5 n_6 n_7 n31 n_9 n_10 h28))
 (J.a2 l_0 c_0 l_1 c_1 n_5 n_6 n_7 n_8 n_9 n_10 h))
 (k (.int .i64 (Int.negSucc 0)) h)
noncomputable def s158_2 (c : Caller Prop FT) (k : KV) (J : J158) (l_0 : Nat) (c_0 : Nat) (l_1 : Nat) (c_1 : Nat) (n_5 : Int) (n_6 : Int) (n_7 : Int) (n_8 : Int) (n_9 : Int) (n_10 : Int) (h : H) : Prop :=
 fI (wrap .i64 (iadd n_8 (Int.ofNat 1))) fun n32 =>
 natI n32 fun m33 =>
 idxS l_0 c_0 m33 fun m34 =>
 joinB (fun k35 => gate true (ibeq (Int.ofNat m34) n_7)
 (fI (wrap .i64 (iadd n_8 n_5)) fun n38 =>
 natI n38 fun m39 =>
 natI n_8 fun m40 =>
 cutS l_0 c_0 m40 m39 fun l41 c42 =>
 k35 (strEq l41 c42 l_1 c_1) h)
 (k35 false h)) fun b37 h36 =>
 cnd b37
 (k (.int .i64 n_8) h36)
 (fI (wrap .i64 (iadd n_8 (Int.ofNat 1))) fun n43 =>
 fI (wrap .i64 (iadd n_10 (Int.ofNat 1))) fun n44 =>
 ld1 (.ptr (.r .z) 0) h36 fun v45 =>
 asI .i64 v45 fun n46 =>
 joinB (fun k47 => gate true (ible n_5 n46)
 (c (.func 203) [(.int .i64 n43)] h36 fun v50 h51 =>
 asI .i64 v50 fun n52 =>
 k47 (iblt n52 n44) h51)
 (k47 false h36)) fun b49 h48 =>
 cnd b49
 (natI n43 fun m53 =>
 cutS l_0 c_0 m53 l_0 fun l54 c55 =>
 c (.func 202) [(.str l54 c55), (.str l_1 c_1)] h48 fun v56 h57 =>
 asI .i64 v56 fun n58 =>
 cnd (ible (Int.ofNat 0) n58)
 (fI (wrap .i64 (iadd n58 n43)) fun n59 =>
 k (.int .i64 n59) h57)
 (k (.int .i64 (Int.negSucc 0)) h57))
 (ld1 (.ptr (.r .z) 0) h48 fun v60 =>
 asI .i64 v60 fun n61 =>
 joinB (fun k62 => gate true (iblt n61 n_5)
 (shrI .i64 n43 (Int.ofNat 4) fun n65 =>
 fI (wrap .i64 (iadd (Int.ofNat 4) n65)) fun n66 =>
 k62 (ible n66 n44) h48)
 (k62 false h48)) fun b64 h63 =>
 joinB (fun k67 => gate true b64
 (k67 (iblt n43 n_9) h63)
 (k67 false h63)) fun b69 h68 =>
 cnd b69
 (natI n43 fun m70 =>
 cutS l_0 c_0 m70 l_0 fun l71 c72 =>
 c (.func 204) [(.str l71 c72), (.str l_1 c_1)] h68 fun v73 h74 =>
 asI .i64 v73 fun n75 =>
 cnd (iblt n75 (Int.ofNat 0))
 (k (.int .i64 (Int.negSucc 0)) h74)
 (fI (wrap .i64 (iadd n43 n75)) fun n76 =>
 k (.int .i64 n76) h74))
 (J.a1 l_0 c_0 l_1 c_1 n_5 n_6 n_7 n43 n_9 n44 h68)))
noncomputable def z158 : J158 := ⟨fun _ _ _ _ _ => False, fun _ _ _ _ _ _ _ _ _ _ _ => False, fun _ _ _ _ _ _ _ _ _ _ _ => False⟩
noncomputable def r158 (c : Caller Prop FT) (k : KV) (m : Nat) : J158 := Nat.rec z158 (fun _ J => ⟨s158_0 c k J, s158_1 c k J, s158_2 c k J⟩) m
noncomputable def f158 (J : J158) : Jump := fun L f h => match L with
  | 0 => asS (f 0) fun l_0 c_0 => asS (f 1) fun l_1 c_1 => J.a0 l_0 c_0 l_1 c_1 h
  | 1 => asS (f 0) fun l_0 c_0 => asS (f 1) fun l_1 c_1 => asI .i64 (f 5) fun n_5 => asI .u8 (f 6) fun n_6 => asI .u8 (f 7) fun n_7 => asI .i64 (f 8) fun n_8 => asI .i64 (f 9) fun n_9 => asI .i64 (f 10) fun n_10 => J.a1 l_0 c_0 l_1 c_1 n_5 n_6 n_7 n_8 n_9 n_10 h
  | 2 => asS (f 0) fun l_0 c_0 => asS (f 1) fun l_1 c_1 => asI .i64 (f 5) fun n_5 => asI .u8 (f 6) fun n_6 => asI .u8 (f 7) fun n_7 => asI .i64 (f 8) fun n_8 => asI .i64 (f 9) fun n_9 => asI .i64 (f 10) fun n_10 => J.a2 l_0 c_0 l_1 c_1 n_5 n_6 n_7 n_8 n_9 n_10 h
  | _ => False
noncomputable def u158 : Cuts := [(.root, 0), ((.l (.l (.r (.r (.r (.r (.r (.r (.r (.r .root)))))))))), 1), ((.r (.l (.r (.l (.l (.l (.r (.r (.r (.r (.r (.r (.r (.r .root)))))))))))))), 2)]
noncomputable def d159 : Code := Option.rec .skip (fun c => c) Go.Proofs.Tryz.f159.body
noncomputable def q159 : Plans := []
structure J159 where
  a0 : AV → AV → H → Prop
noncomputable def s159_0 (c : Caller Prop FT) (k : KV) (_J : J159) (v_0 : AV) (v_1 : AV) (h : H) : Prop :=
 oK (exNil v_0 h) fun v1 h2 =>
 fAddr 0 v1 fun v3 =>
 c (.func 205) [v3] h2 fun v4 h5 =>
 asB v4 fun b6 =>
 cnd (bnot b6)
 (c (.func 206) [v_0, v_1] h5 fun _ h8 =>
 k (.tuple []) h8)
 (k (.tuple []) h5)
noncomputable def z159 : J159 := ⟨fun _ _ _ => False⟩
noncomputable def r159 (c : Caller Prop FT) (k : KV) (m : Nat) : J159 := Nat.rec z159 (fun _ J => ⟨s159_0 c k J⟩) m
noncomputable def f159 (J : J159) : Jump := fun L f h => match L with
  | 0 => J.a0 (f 0) (f 1) h
  | _ => False
noncomputable def u159 : Cuts := [(.root, 0)]
noncomputable def d160 : Code := Option.rec .skip (fun c => c) Go.Proofs.Tryz.f160.body
noncomputable def q160 : Plans := []
structure J160 where
  a0 : AV → H → Prop
  a1 : AV → AV → Int → Int → H → Prop
noncomputable def s160_0 (c : Caller Prop FT) (_k : KV) (J : J160) (v_0 : AV) (h : H) : Prop :=
 ld1 v_0 h fun v1 =>
 Hp.newK h (.map [] 0) fun p2 h3 =>
 oK (exNil v1 h3) fun v4 h5 =>
 fAddr 3 v4 fun v6 =>
 st1 v6 (.map p2) h5 fun h7 =>
 c (.func 161) [] h7 fun v8 h9 =>
 lenV v8 fun m10 =>
 J.a1 v_0 v8 (Int.ofNat m10) (Int.ofNat 0) h9
noncomputable def s160_1 (_c : Caller Prop FT) (k : KV) (J : J160) (v_0 : AV) (v_7 : AV) (n_8 : Int) (n_9 : Int) (h : H) : Prop :=
 cnd (iblt n_9 n_8)
 (natI n_9 fun m11 =>
 elemA 1 m11 v_7 fun v12 =>
 ld1 v12 h fun v13 =>
 asS v13 fun l14 c15 =>
 ld1 v_0 h fun v16 =>
 oK (exNil v16 h) fun v17 h18 =>
 fAddr 3 v17 fun v19 =>
 ld1 v19 h18 fun v20 =>
 fI (wrap .i64 (iadd (Int.ofNat 2) n_9)) fun n21 =>
 oK (exMapUpdate env 107 v20 (.str l14 c15) (.int .i64 n21) h18) fun _ h23 =>
 fI (wrap .i64 (iadd n_9 (Int.ofNat 1))) fun n24 =>
 J.a1 v_0 v_7 n_8 n24 h23)
 (k (.tuple []) h)
noncomputable def z160 : J160 := ⟨fun _ _ => False, fun _ _ _ _ _ => False⟩
noncomputable def r160 (c : Caller Prop FT) (k : KV) (m : Nat) : J160 := Nat.rec z160 (fun _ J => ⟨s160_0 c k J, s160_1 c k J⟩) m
noncomputable def f160 (J : J160) : Jump := fun L f h => match L with
  | 0 => J.a0 (f 0) h
  | 1 => asI .i64 (f 8) fun n_8 => asI .i64 (f 9) fun n_9 => J.a1 (f 0) (f 7) n_8 n_9 h
  | _ => False
noncomputable def u160 : Cuts := [(.root, 0), ((.l (.r (.r .root))), 1)]
noncomputable def d161 : Code := Option.rec .skip (fun c => c) Go.Proofs.Tryz.f161.body
noncomputable def q161 : Plans := []
structure J161 where
  a0 : H → Prop
noncomputable def s161_0 (_c : Caller Prop FT) (k : KV) (_J : J161) (h : H) : Prop :=
 oK (withElem env 34 (fun e ei => exBuildSlice 12 [(0, (.str 2 26217)), (1, (.str 5 439787742825)), (2, (.str 6 112585662686825)), (3, (.str 4 1718185061)), (4, (.str 4 1702063205)), (5, (.str 5 439854853733)), (6, (.str 7 28539428140183145)), (7, (.str 6 111524889126244)), (8, (.str 5 439787744885)), (9, (.str 4 1701734764)), (10, (.str 5 491496043109)), (11, (.str 6 107122513769072))] h e ei)) fun v1 h2 =>
 k v1 h2
noncomputable def z161 : J161 := ⟨fun _ => False⟩
noncomputable def r161 (c : Caller Prop FT) (k : KV) (m : Nat) : J161 := Nat.rec z161 (fun _ J => ⟨s161_0 c k J⟩) m
noncomputable def f161 (J : J161) : Jump := fun L _ h => match L with
  | 0 => J.a0 h
  | _ => False
noncomputable def u161 : Cuts := [(.root, 0)]
noncomputable def d162 : Code := Option.rec .skip (fun c => c) Go.Proofs.Tryz.f162.body
noncomputable def q162 : Plans := [(5, [0, 1, 2]), (10, [0, 1, 2]), (14, [0, 1, 2, 3, 4, 5, 6, 7, 8])]
noncomputable def u162 : Cuts := [(.root, 0), ((.r (.r (.r (.r (.r (.r (.r (.r (.r (.r .root)))))))))), 1), ((.r (.l (.r (.r (.r (.r (.r (.r (.r (.r (.r .root))))))))))), 2)]
noncomputable def d163 : Code := Option.rec .skip (fun c => c) Go.Proofs.Tryz.f163.body
noncomputable def q163 : Plans := [(1, [0, 1, 2, 3, 4, 5, 6, 7, 8])]
noncomputable def u163 : Cuts := [(.root, 0)]
noncomputable def d164 : Code := Option.rec .skip (fun c => c) Go.Proofs.Tryz.f164.body
noncomputable def q164 : Plans := [(5, [0, 1, 2, 3, 4, 5, 6, 7, 8]), (6, [0, 1, 2, 3, 4, 5, 6, 7, 8, 9, 10, 11, 12, 13, 14, 15, 16, 17, 18, 19, 20]), (9, [0, 1, 2, 3, 4, 5, 6, 7, 8]), (10, [0, 1, 2, 3, 4, 5, 6, 7, 8, 9, 10, 11, 12, 13, 14, 15, 16, 17, 18, 19, 20, 21, 22, 23, 24, 25, 26, 27]), (11, [0, 1, 2, 3, 4, 5, 6, 7, 8])]
noncomputable def u164 : Cuts := [(.root, 0), ((.r (.r .root)), 1), ((.r (.r (.r (.l (.r (.r (.r (.r (.r .root))))))))), 2)]
noncomputable def d165 : Code := Option.rec .skip (fun c => c) Go.Proofs.Tryz.f165.body
noncomputable def q165 : Plans := [(6, [0, 1, 2, 3, 4, 5, 6, 7, 8]), (8, [0, 1, 2, 3, 4, 5, 6, 7, 8, 9, 10, 11, 12, 13, 14]), (9, [0, 1, 2, 3, 4, 5, 6])]
structure J165 where
  a0 : AV → H → Prop
  a1 : AV → AV → AV → AV → Int → Int → H → Prop
  a2 : AV → AV → AV → AV → AV → Int → Int → H → Prop
noncomputable def s165_0 (c : Caller Prop FT) (_k : KV) (J : J165) (v_0 : AV) (h : H) : Prop :=
 oK (exNil v_0 h) fun v1 h2 =>
 fAddr 13 v1 fun v3 =>
 ld1 v3 h2 fun v4 =>
 c (.func 213) [v4] h2 fun v5 h6 =>
 ext 0 v5 fun v7 =>
 ext 1 v5 fun v8 =>
 Hp.newK h6 ob234 fun p9 h10 =>
 stn 8 (.ptr p9 0) v7 h10 fun h11 =>
 lenV v8 fun m12 =>
 J.a1 v_0 (.ptr p9 0) v8 v8 (Int.ofNat m12) (Int.ofNat 0) h11
noncomputable def s165_1 (c : Caller Prop FT) (k : KV) (J : J165) (v_0 : AV) (v_2 : AV) (v_3 : AV) (v_14 : AV) (n_15 : Int) (n_16 : Int) (h : H) : Prop :=
 cnd (iblt n_16 n_15)
 (natI n_16 fun m13 =>
 elemA 4 m13 v_14 fun v14 =>
 ldn 4 v14 h fun v15 =>
 Hp.newK h ob56 fun p16 h17 =>
 stn 4 (.ptr p16 0) v15 h17 fun h18 =>
 oK (exNil v_0 h18) fun v19 h20 =>
 fAddr 13 v19 fun v21 =>
 ld1 v21 h20 fun v22 =>
 lenV v22 fun m23 =>
 cnd (ibeq (Int.ofNat m23) (Int.ofNat 0))
 (oK (exNil v_0 h20) fun v24 h25 =>
 fAddr 10 v24 fun v26 =>
 ldn 3 v26 h25 fun v27 =>
 fAddr 1 (.ptr p16 0) fun v28 =>
 stn 3 v28 v27 h25 fun h29 =>
 J.a2 v_0 v_2 v_3 (.ptr p16 0) v_14 n_15 n_16 h29)
 (J.a2 v_0 v_2 v_3 (.ptr p16 0) v_14 n_15 n_16 h20))
 (lenV v_3 fun m30 =>
 joinB (fun k31 => gate true (ibeq (Int.ofNat m30) (Int.ofNat 0))
 (oK (exNil v_0 h) fun v34 h35 =>
 fAddr 0 v34 fun v36 =>
 ld1 v36 h35 fun v37 =>
 oK (exNil v37 h35) fun v38 h39 =>
 fAddr 6 v38 fun v40 =>
 ld1 v40 h39 fun v41 =>
 ldn 8 v_2 h39 fun v42 =>
 c (.func 214) [v41, v42] h39 fun v43 h44 =>
 asB v43 fun b45 =>
 k31 (bnot b45) h44)
 (k31 false h)) fun b33 h32 =>
 cnd b33
 (oK (exNil v_0 h32) fun v46 h47 =>
 fAddr 0 v46 fun v48 =>
 ld1 v48 h47 fun v49 =>
 fAddr 5 v_2 fun v50 =>
 ldn 3 v50 h47 fun v51 =>
 c (.func 70) [v49, (.int .i64 (Int.ofNat 6)), v51] h47 fun _ h53 =>
 k (.tuple []) h53)
 (k (.tuple []) h32))
noncomputable def s165_2 (c : Caller Prop FT) (_k : KV) (J : J165) (v_0 : AV) (v_2 : AV) (v_3 : AV) (v_5 : AV) (v_14 : AV) (n_15 : Int) (n_16 : Int) (h : H) : Prop :=
 oK (exNil v_0 h) fun v54 h55 =>
 fAddr 0 v54 fun v56 =>
 ld1 v56 h55 fun v57 =>
 fAddr 0 v_5 fun v58 =>
 ld1 v58 h55 fun v59 =>
 asI .i64 v59 fun n60 =>
 fAddr 1 v_5 fun v61 =>
 ldn 3 v61 h55 fun v62 =>
 c (.func 70) [v57, (.int .i64 n60), v62] h55 fun _ h64 =>
 fI (wrap .i64 (iadd n_16 (Int.ofNat 1))) fun n65 =>
 J.a1 v_0 v_2 v_3 v_14 n_15 n65 h64
noncomputable def z165 : J165 := ⟨fun _ _ => False, fun _ _ _ _ _ _ _ => False, fun _ _ _ _ _ _ _ _ => False⟩
noncomputable def r165 (c : Caller Prop FT) (k : KV) (m : Nat) : J165 := Nat.rec z165 (fun _ J => ⟨s165_0 c k J, s165_1 c k J, s165_2 c k J⟩) m
noncomputable def f165 (J : J165) : Jump := fun L f h => match L with
  | 0 => J.a0 (f 0) h
  | 1 => asI .i64 (f 15) fun n_15 => asI .i64 (f 16) fun n_16 => J.a1 (f 0) (f 2) (f 3) (f 14) n_15 n_16 h
  | 2 => asI .i64 (f 15) fun n_15 => asI .i64 (f 16) fun n_16 => J.a2 (f 0) (f 2) (f 3) (f 5) (f 14) n_15 n_16 h
  | _ => False
noncomputable def u165 : Cuts := [(.root, 0), ((.l (.r (.l (.r .root)))), 1), ((.r (.r (.l (.l (.r (.r (.l (.l (.r (.l (.r .root))))))))))), 2)]
noncomputable def d166 : Code := Option.rec .skip (fun c => c) Go.Proofs.Tryz.f166.body
noncomputable def q166 : Plans := [(1, [0, 1, 2, 3, 4, 5, 6, 7, 8]), (4, [0, 1, 2, 3, 4, 5, 6]), (5, [0, 1, 2, 3, 4, 5, 6, 7, 8, 9])]
noncomputable def u166 : Cuts := [(.root, 0), ((.r (.r .root)), 1)]
noncomputable def d167 : Code := Option.rec .skip (fun c => c) Go.Proofs.Tryz.f167.body
noncomputable def q167 : Plans := [(4, [0, 1, 2, 3, 4, 5, 6, 7, 8]), (5, [0, 1, 2, 3, 4, 5, 6, 7, 8, 9, 10, 11, 12, 13, 14, 15, 16, 17, 18])]
noncomputable def u167 : Cuts := [(.root, 0)]
noncomputable def d168 : Code := Option.rec .skip (fun c => c) Go.Proofs.Tryz.f168.body
noncomputable def q168 : Plans := []
structure J168 where
  a0 : AV → Int → H → Prop
  a1 : AV → Int → H → Prop
noncomputable def s168_0 (_c : Caller Prop FT) (k : KV) (J : J168) (v_0 : AV) (n_1 : Int) (h : H) : Prop :=
 oV (binA env .eql 105 v_0 .nilp) fun v1 =>
 asB v1 fun b2 =>
 joinB (fun k3 => gate false b2
 (k3 (iblt n_1 (Int.ofNat 0)) h)
 (k3 true h)) fun b5 h4 =>
 cnd b5
 (k (.bool false) h4)
 (J.a1 v_0 n_1 h4)
noncomputable def s168_1 (c : Caller Prop FT) (k : KV) (J : J168) (v_0 : AV) (n_1 : Int) (h : H) : Prop :=
 oK (exNil v_0 h) fun v6 h7 =>
 fAddr 0 v6 fun v8 =>
 c (.func 218) [v8] h7 fun v9 h10 =>
 asI .i64 v9 fun n11 =>
 fI (wrap .i64 (isub n11 n_1)) fun n12 =>
 oK (builtinA env .max [2, 2] [(.int .i64 n12), (.int .i64 (Int.ofNat 0))] h10) fun v13 h14 =>
 asI .i64 v13 fun n15 =>
 oK (exNil v_0 h14) fun v16 h17 =>
 fAddr 0 v16 fun v18 =>
 c (.func 219) [v18, (.int .i64 n11), (.int .i64 n15)] h17 fun v19 h20 =>
 asB v19 fun b21 =>
 cnd b21
 (k (.bool (ible n_1 n11)) h20)
 (J.a1 v_0 n_1 h20)
noncomputable def z168 : J168 := ⟨fun _ _ _ => False, fun _ _ _ => False⟩
noncomputable def r168 (c : Caller Prop FT) (k : KV) (m : Nat) : J168 := Nat.rec z168 (fun _ J => ⟨s168_0 c k J, s168_1 c k J⟩) m
noncomputable def f168 (J : J168) : Jump := fun L f h => match L with
  | 0 => asI .i64 (f 1) fun n_1 => J.a0 (f 0) n_1 h
  | 1 => asI .i64 (f 1) fun n_1 => J.a1 (f 0) n_1 h
  | _ => False
noncomputable def u168 : Cuts := [(.root, 0), ((.l (.r (.r .root))), 1)]
noncomputable def d169 : Code := Option.rec .skip (fun c => c) Go.Proofs.Tryz.f169.body
noncomputable def q169 : Plans := []
noncomputable def u169 : Cuts := [(.root, 0)]
noncomputable def d170 : Code := Option.rec .skip (fun c => c) Go.Proofs.Tryz.f170.body
noncomputable def q170 : Plans := []
noncomputable def u170 : Cuts := [(.root, 0), ((.l (.r (.l (.r (.r .root))))), 1), ((.r (.r (.l (.l (.r (.r (.l (.l (.r (.l (.r (.r .root)))))))))))), 2)]
noncomputable def d172 : Code := Option.rec .skip (fun c => c) Go.Proofs.Tryz.f172.body
noncomputable def q172 : Plans := []
noncomputable def u172 : Cuts := [(.root, 0)]
noncomputable def d173 : Code := Option.rec .skip (fun c => c) Go.Proofs.Tryz.f173.body
noncomputable def q173 : Plans := [(1, [0, 1, 2, 3, 4, 5, 6, 7, 8, 9]), (2, [0, 1, 2, 3, 4, 5, 6, 7, 8, 9]), (3, [0, 1, 2, 3, 4, 5, 6, 7, 8, 9])]
noncomputable def u173 : Cuts := [(.root, 0)]
noncomputable def d174 : Code := Option.rec .skip (fun c => c) Go.Proofs.Tryz.f174.body
noncomputable def q174 : Plans := []
noncomputable def u174 : Cuts := [(.root, 0)]
noncomputable def d175 : Code := Option.rec .skip (fun c => c) Go.Proofs.Tryz.f175.body
noncomputable def q175 : Plans := []
noncomputable def u175 : Cuts := [(.root, 0)]
noncomputable def d176 : Code := Option.rec .skip (fun c => c) Go.Proofs.Tryz.f176.body
noncomputable def q176 : Plans := []
structure J176 where
  a0 : Nat → Nat → H → Prop
noncomputable def s176_0 (_c : Caller Prop FT) (k : KV) (_J : J176) (l_0 : Nat) (c_0 : Nat) (h : H) : Prop :=
 k (.bool (bnot (strEq l_0 c_0 l_0 c_0))) h
noncomputable def z176 : J176 := ⟨fun _ _ _ => False⟩
noncomputable def r176 (c : Caller Prop FT) (k : KV) (m : Nat) : J176 := Nat.rec z176 (fun _ J => ⟨s176_0 c k J⟩) m
noncomputable def f176 (J : J176) : Jump := fun L f h => match L with
  | 0 => asS (f 0) fun l_0 c_0 => J.a0 l_0 c_0 h
  | _ => False
noncomputable def u176 : Cuts := [(.root, 0)]
noncomputable def d177 : Code := Option.rec .skip (fun c => c) Go.Proofs.Tryz.f177.body
noncomputable def q177 : Plans := [(1, [0, 1, 2, 3, 4, 5, 6, 7, 8, 9, 10, 11, 12]), (6, [0, 1, 2, 3, 4, 5, 6, 7, 8, 9, 10, 11, 12, 13, 14, 15, 16])]
structure J177 where
  a0 : AV → Nat → Nat → H → Prop
  a1 : AV → Nat → Nat → Int → Int → H → Prop
noncomputable def s177_0 (_c : Caller Prop FT) (k : KV) (J : J177) (v_0 : AV) (l_1 : Nat) (c_1 : Nat) (h : H) : Prop :=
 oK (exNil v_0 h) fun v1 h2 =>
 fAddr 2 v1 fun v3 =>
 ld1 v3 h2 fun v4 =>
 asI .i64 v4 fun n5 =>
 fI (wrap .i64 (iadd n5 (Int.ofNat l_1))) fun n6 =>
 oK (exNil v_0 h2) fun v7 h8 =>
 fAddr 1 v7 fun v9 =>
 ld1 v9 h8 fun v10 =>
 lenV v10 fun m11 =>
 cnd (iblt (Int.ofNat m11) n6)
 (k (.bool false) h8)
 (J.a1 v_0 l_1 c_1 (Int.ofNat l_1) (Int.ofNat 0) h8)
noncomputable def s177_1 (_c : Caller Prop FT) (k : KV) (J : J177) (v_0 : AV) (l_1 : Nat) (c_1 : Nat) (n_20 : Int) (n_21 : Int) (h : H) : Prop :=
 cnd (iblt n_21 n_20)
 (oK (exNil v_0 h) fun v12 h13 =>
 fAddr 1 v12 fun v14 =>
 ld1 v14 h13 fun v15 =>
 oK (exNil v_0 h13) fun v16 h17 =>
 fAddr 2 v16 fun v18 =>
 ld1 v18 h17 fun v19 =>
 asI .i64 v19 fun n20 =>
 fI (wrap .i64 (iadd n20 n_21)) fun n21 =>
 natI n21 fun m22 =>
 elemA 3 m22 v15 fun v23 =>
 fAddr 0 v23 fun v24 =>
 ld1 v24 h17 fun v25 =>
 asI .u8 v25 fun n26 =>
 natI n_21 fun m27 =>
 idxS l_1 c_1 m27 fun m28 =>
 cnd (bnot (ibeq n26 (Int.ofNat m28)))
 (k (.bool false) h17)
 (fI (wrap .i64 (iadd n_21 (Int.ofNat 1))) fun n29 =>
 J.a1 v_0 l_1 c_1 n_20 n29 h17))
 (k (.bool true) h)
noncomputable def z177 : J177 := ⟨fun _ _ _ _ => False, fun _ _ _ _ _ _ => False⟩
noncomputable def r177 (c : Caller Prop FT) (k : KV) (m : Nat) : J177 := Nat.rec z177 (fun _ J => ⟨s177_0 c k J, s177_1 c k J⟩) m
noncomputable def f177 (J : J177) : Jump := fun L f h => match L with
  | 0 => asS (f 1) fun l_1 c_1 => J.a0 (f 0) l_1 c_1 h
  | 1 => asS (f 1) fun l_1 c_1 => asI .i64 (f 20) fun n_20 => asI .i64 (f 21) fun n_21 => J.a1 (f 0) l_1 c_1 n_20 n_21 h
  | _ => False
noncomputable def u177 : Cuts := [(.root, 0), ((.l (.r (.l (.r (.r .root))))), 1)]
noncomputable def d178 : Code := Option.rec .skip (fun c => c) Go.Proofs.Tryz.f178.body
noncomputable def q178 : Plans := [(12, [0, 1, 2, 3, 4, 5, 6, 7, 8, 9, 10, 11, 12, 13, 14, 15])]
structure J178 where
  a0 : AV → H → Prop
  a1 : Int → Int → H → Prop
noncomputable def s178_0 (c : Caller Prop FT) (k : KV) (J : J178) (v_0 : AV) (h : H) : Prop :=
 c (.func 221) [v_0] h fun v1 h2 =>
 asI .i64 v1 fun n3 =>
 cnd (iblt n3 (Int.ofNat 0))
 (k (.tuple [(.int .i64 (Int.ofNat 0)), (.int .i64 (Int.ofNat 0))]) h2)
 (c (.func 222) [v_0, (.int .i64 n3)] h2 fun v4 h5 =>
 asI .i64 v4 fun n6 =>
 cnd (iblt (Int.ofNat 0) n6)
 (c (.func 180) [v_0, (.int .i64 n3)] h5 fun v7 h8 =>
 asI .u8 v7 fun n9 =>
 cnd (ibeq n9 (Int.ofNat 34))
 (J.a1 (Int.ofNat 4) n6 h8)
 (J.a1 (Int.ofNat 3) n6 h8))
 (oK (exNil v_0 h5) fun v10 h11 =>
 fAddr 2 v10 fun v12 =>
 ld1 v12 h11 fun v13 =>
 asI .i64 v13 fun n14 =>
 fI (wrap .i64 (iadd n14 n3)) fun n15 =>
 oK (exNil v_0 h11) fun v16 h17 =>
 fAddr 5 v16 fun v18 =>
 ld1 v18 h17 fun v19 =>
 asI .i64 v19 fun n20 =>
 cnd (bnot (ibeq n20 n15))
 (oK (exNil v_0 h17) fun v21 h22 =>
 fAddr 3 v21 fun v23 =>
 ld1 v23 h22 fun v24 =>
 fI (wrap .i64 (iadd n15 (Int.ofNat 1))) fun n25 =>
 c (.func 134) [v_0, (.int .i64 n15), (.int .i64 n25)] h22 fun v26 h27 =>
 ld1 v23 h27 fun v28 =>
 eqC v28 v24 <|
 oK (exBuild env (env.ty 56) [(0, (.int .i64 (Int.ofNat 2))), (1, v26)] h27) fun v29 h30 =>
 oK (withElem env 33 (fun e ei => exBuildSlice 1 [(0, v29)] h30 e ei)) fun v31 h32 =>
 ld1 v23 h32 fun v33 =>
 eqC v33 v24 <|
 oK (builtinA env .append [33, 33] [v24, v31] h32) fun v34 h35 =>
 oK (exNil v_0 h35) fun v36 h37 =>
 fAddr 3 v36 fun v38 =>
 st1 v38 v34 h37 fun h39 =>
 oK (exNil v_0 h39) fun v40 h41 =>
 fAddr 5 v40 fun v42 =>
 st1 v42 (.int .i64 n15) h41 fun h43 =>
 k (.tuple [(.int .i64 (Int.ofNat 0)), (.int .i64 (Int.ofNat 0))]) h43)
 (k (.tuple [(.int .i64 (Int.ofNat 0)), (.int .i64 (Int.ofNat 0))]) h17)))
noncomputable def s178_1 (_c : Caller Prop FT) (k : KV) (_J : J178) (n_2 : Int) (n_3 : Int) (h : H) : Prop :=
 k (.tuple [(.int .i64 n_2), (.int .i64 n_3)]) h
noncomputable def z178 : J178 := ⟨fun _ _ => False, fun _ _ _ => False⟩
noncomputable def r178 (c : Caller Prop FT) (k : KV) (m : Nat) : J178 := Nat.rec z178 (fun _ J => ⟨s178_0 c k J, s178_1 c k J⟩) m
noncomputable def f178 (J : J178) : Jump := fun L f h => match L with
  | 0 => J.a0 (f 0) h
  | 1 => asI .i64 (f 2) fun n_2 => asI .i64 (f 3) fun n_3 => J.a1 n_2 n_3 h
  | _ => False
noncomputable def u178 : Cuts := [(.root, 0), ((.r (.r (.l (.r (.r (.l (.r (.r (.r .root))))))))), 1)]
noncomputable def d179 : Code := Option.rec .skip (fun c => c) Go.Proofs.Tryz.f179.body
noncomputable def q179 : Plans := []
structure J179 where
  a0 : Int → H → Prop
noncomputable def s179_0 (_c : Caller Prop FT) (k : KV) (_J : J179) (n_0 : Int) (h : H) : Prop :=
 joinB (fun k1 => gate true (ible (Int.ofNat 97) n_0)
 (k1 (ible n_0 (Int.ofNat 122)) h)
 (k1 false h)) fun b3 h2 =>
 joinB (fun k4 => gate false b3
 (joinB (fun k7 => gate true (ible (Int.ofNat 65) n_0)
 (k7 (ible n_0 (Int.ofNat 90)) h2)
 (k7 false h2)) fun b9 h8 =>
 k4 b9 h8)
 (k4 true h2)) fun b6 h5 =>
 joinB (fun k10 => gate false b6
 (k10 (ibeq n_0 (Int.ofNat 95)) h5)
 (k10 true h5)) fun b12 h11 =>
 k (.bool b12) h11
noncomputable def z179 : J179 := ⟨fun _ _ => False⟩
noncomputable def r179 (c : Caller Prop FT) (k : KV) (m : Nat) : J179 := Nat.rec z179 (fun _ J => ⟨s179_0 c k J⟩) m
noncomputable def f179 (J : J179) : Jump := fun L f h => match L with
  | 0 => asI .u8 (f 0) fun n_0 => J.a0 n_0 h
  | _ => False
noncomputable def u179 : Cuts := [(.root, 0)]
noncomputable def d180 : Code := Option.rec .skip (fun c => c) Go.Proofs.Tryz.f180.body
noncomputable def q180 : Plans := [(1, [0, 1, 2, 3, 4, 5, 6, 7, 8, 9, 10, 11]), (3, [0, 1, 2, 3, 4, 5, 6, 7, 8, 9, 10, 11, 12, 13])]
structure J180 where
  a0 : AV → Int → H → Prop
noncomputable def s180_0 (_c : Caller Prop FT) (k : KV) (_J : J180) (v_0 : AV) (n_1 : Int) (h : H) : Prop :=
 oK (exNil v_0 h) fun v1 h2 =>
 fAddr 2 v1 fun v3 =>
 ld1 v3 h2 fun v4 =>
 asI .i64 v4 fun n5 =>
 fI (wrap .i64 (iadd n5 n_1)) fun n6 =>
 oK (exNil v_0 h2) fun v7 h8 =>
 fAddr 1 v7 fun v9 =>
 ld1 v9 h8 fun v10 =>
 lenV v10 fun m11 =>
 cnd (ible (Int.ofNat m11) n6)
 (k (.int .u8 (Int.ofNat 0)) h8)
 (oK (exNil v_0 h8) fun v12 h13 =>
 fAddr 1 v12 fun v14 =>
 ld1 v14 h13 fun v15 =>
 oK (exNil v_0 h13) fun v16 h17 =>
 fAddr 2 v16 fun v18 =>
 ld1 v18 h17 fun v19 =>
 asI .i64 v19 fun n20 =>
 fI (wrap .i64 (iadd n20 n_1)) fun n21 =>
 natI n21 fun m22 =>
 elemA 3 m22 v15 fun v23 =>
 fAddr 0 v23 fun v24 =>
 ld1 v24 h17 fun v25 =>
 asI .u8 v25 fun n26 =>
 k (.int .u8 n26) h17)
noncomputable def z180 : J180 := ⟨fun _ _ _ => False⟩
noncomputable def r180 (c : Caller Prop FT) (k : KV) (m : Nat) : J180 := Nat.rec z180 (fun _ J => ⟨s180_0 c k J⟩) m
noncomputable def f180 (J : J180) : Jump := fun L f h => match L with
  | 0 => asI .i64 (f 1) fun n_1 => J.a0 (f 0) n_1 h
  | _ => False
noncomputable def u180 : Cuts := [(.root, 0)]
noncomputable def d181 : Code := Option.rec .skip (fun c => c) Go.Proofs.Tryz.f181.body
noncomputable def q181 : Plans := []
structure J181 where
  a0 : Int → H → Prop
noncomputable def s181_0 (_c : Caller Prop FT) (k : KV) (_J : J181) (n_0 : Int) (h : H) : Prop :=
 joinB (fun k1 => gate true (ible (Int.ofNat 48) n_0)
 (k1 (ible n_0 (Int.ofNat 57)) h)
 (k1 false h)) fun b3 h2 =>
 k (.bool b3) h2
noncomputable def z181 : J181 := ⟨fun _ _ => False⟩
noncomputable def r181 (c : Caller Prop FT) (k : KV) (m : Nat) : J181 := Nat.rec z181 (fun _ J => ⟨s181_0 c k J⟩) m
noncomputable def f181 (J : J181) : Jump := fun L f h => match L with
  | 0 => asI .u8 (f 0) fun n_0 => J.a0 n_0 h
  | _ => False
noncomputable def u181 : Cuts := [(.root, 0)]
noncomputable def d182 : Code := Option.rec .skip (fun c => c) Go.Proofs.Tryz.f182.body
noncomputable def q182 : Plans := []
structure J182 where
  a0 : AV → H → Prop
  a1 : AV → Int → H → Prop
  a2 : AV → Int → H → Prop
  a3 : AV → Int → H → Prop
noncomputable def s182_0 (c : Caller Prop FT) (_k : KV) (J : J182) (v_0 : AV) (h : H) : Prop :=
 c (.func 180) [v_0, (.int .i64 (Int.ofNat 0))] h fun v1 h2 =>
 asI .u8 v1 fun n3 =>
 cnd (ibeq n3 (Int.ofNat 46))
 (fI (wrap .i64 (iadd (Int.ofNat 0) (Int.ofNat 1))) fun n4 =>
 J.a3 v_0 n4 h2)
 (J.a3 v_0 (Int.ofNat 0) h2)
noncomputable def s182_1 (c : Caller Prop FT) (k : KV) (J : J182) (v_0 : AV) (n_3 : Int) (h : H) : Prop :=
 c (.func 180) [v_0, (.int .i64 n_3)] h fun v5 h6 =>
 asI .u8 v5 fun n7 =>
 fI (wrap .i64 (iadd n_3 (Int.ofNat 1))) fun n8 =>
 c (.func 180) [v_0, (.int .i64 n8)] h6 fun v9 h10 =>
 asI .u8 v9 fun n11 =>
 c (.func 200) [(.str 4 1349535077), (.int .u8 n7)] h10 fun v12 h13 =>
 asI .i64 v12 fun n14 =>
 joinB (fun k15 => gate true (ible (Int.ofNat 0) n14)
 (joinB (fun k18 => gate false (ibeq n11 (Int.ofNat 43))
 (k18 (ibeq n11 (Int.ofNat 45)) h13)
 (k18 true h13)) fun b20 h19 =>
 k15 b20 h19)
 (k15 false h13)) fun b17 h16 =>
 cnd b17
 (fI (wrap .i64 (iadd n_3 (Int.ofNat 1))) fun n21 =>
 J.a2 v_0 n21 h16)
 (c (.func 179) [(.int .u8 n7)] h16 fun v22 h23 =>
 asB v22 fun b24 =>
 joinB (fun k25 => gate true (bnot b24)
 (c (.func 181) [(.int .u8 n7)] h23 fun v28 h29 =>
 asB v28 fun b30 =>
 k25 (bnot b30) h29)
 (k25 false h23)) fun b27 h26 =>
 joinB (fun k31 => gate true b27
 (k31 (bnot (ibeq n7 (Int.ofNat 46))) h26)
 (k31 false h26)) fun b33 h32 =>
 cnd b33
 (k (.int .i64 n_3) h32)
 (J.a2 v_0 n_3 h32))
noncomputable def s182_2 (_c : Caller Prop FT) (_k : KV) (J : J182) (v_0 : AV) (n_3 : Int) (h : H) : Prop :=
 fI (wrap .i64 (iadd n_3 (Int.ofNat 1))) fun n34 =>
 J.a1 v_0 n34 h
noncomputable def s182_3 (c : Caller Prop FT) (k : KV) (J : J182) (v_0 : AV) (n_3 : Int) (h : H) : Prop :=
 c (.func 180) [v_0, (.int .i64 n_3)] h fun v35 h36 =>
 asI .u8 v35 fun n37 =>
 c (.func 181) [(.int .u8 n37)] h36 fun v38 h39 =>
 asB v38 fun b40 =>
 cnd (bnot b40)
 (k (.int .i64 (Int.ofNat 0)) h39)
 (fI (wrap .i64 (iadd n_3 (Int.ofNat 1))) fun n41 =>
 J.a1 v_0 n41 h39)
noncomputable def z182 : J182 := ⟨fun _ _ => False, fun _ _ _ => False, fun _ _ _ => False, fun _ _ _ => False⟩
noncomputable def r182 (c : Caller Prop FT) (k : KV) (m : Nat) : J182 := Nat.rec z182 (fun _ J => ⟨s182_0 c k J, s182_1 c k J, s182_2 c k J, s182_3 c k J⟩) m
noncomputable def f182 (J : J182) : Jump := fun L f h => match L with
  | 0 => J.a0 (f 0) h
  | 1 => asI .i64 (f 3) fun n_3 => J.a1 (f 0) n_3 h
  | 2 => asI .i64 (f 3) fun n_3 => J.a2 (f 0) n_3 h
  | 3 => asI .i64 (f 3) fun n_3 => J.a3 (f 0) n_3 h
  | _ => False
noncomputable def u182 : Cuts := [(.root, 0), ((.l (.r (.r (.r (.r (.r .root)))))), 1), ((.r (.l (.l (.r (.r (.r (.r (.r .root)))))))), 2), ((.r (.r (.r .root))), 3)]
noncomputable def d183 : Code := Option.rec .skip (fun c => c) Go.Proofs.Tryz.f183.body
noncomputable def q183 : Plans := []
structure J183 where
  a0 : AV → H → Prop
  a1 : AV → AV → Int → Int → H → Prop
noncomputable def s183_0 (_c : Caller Prop FT) (_k : KV) (J : J183) (v_0 : AV) (h : H) : Prop :=
 oK (withElem env 34 (fun e ei => exBuildSlice 29 [(0, (.str 4 975518245)), (1, (.str 3 3026478)), (2, (.str 3 4013116)), (3, (.str 3 4013630)), (4, (.str 2 15917)), (5, (.str 2 11051)), (6, (.str 2 11565)), (7, (.str 2 15420)), (8, (.str 2 15934)), (9, (.str 2 15676)), (10, (.str 2 15678)), (11, (.str 2 15677)), (12, (.str 2 15649)), (13, (.str 2 9766)), (14, (.str 2 31868)), (15, (.str 2 15658)), (16, (.str 2 15663)), (17, (.str 2 15653)), (18, (.str 2 15659)), (19, (.str 2 15661)), (20, (.str 2 15654)), (21, (.str 2 15710)), (22, (.str 2 15740)), (23, (.str 2 8995)), (24, (.str 2 14908)), (25, (.str 2 15930)), (26, (.str 2 9532)), (27, (.str 2 15909)), (28, (.str 2 14885))] h e ei)) fun v1 h2 =>
 lenV v1 fun m3 =>
 J.a1 v_0 v1 (Int.ofNat m3) (Int.ofNat 0) h2
noncomputable def s183_1 (c : Caller Prop FT) (k : KV) (J : J183) (v_0 : AV) (v_8 : AV) (n_9 : Int) (n_10 : Int) (h : H) : Prop :=
 cnd (iblt n_10 n_9)
 (natI n_10 fun m4 =>
 elemA 1 m4 v_8 fun v5 =>
 ld1 v5 h fun v6 =>
 asS v6 fun l7 c8 =>
 c (.func 177) [v_0, (.str l7 c8)] h fun v9 h10 =>
 asB v9 fun b11 =>
 cnd b11
 (k (.int .i64 (Int.ofNat l7)) h10)
 (fI (wrap .i64 (iadd n_10 (Int.ofNat 1))) fun n12 =>
 J.a1 v_0 v_8 n_9 n12 h10))
 (c (.func 180) [v_0, (.int .i64 (Int.ofNat 0))] h fun v13 h14 =>
 asI .u8 v13 fun n15 =>
 joinB (fun k16 => gate true (bnot (ibeq n15 (Int.ofNat 0)))
 (c (.func 200) [(.str 25 220783302398203228823658293894207885629972945978387855859035), (.int .u8 n15)] h14 fun v19 h20 =>
 asI .i64 v19 fun n21 =>
 k16 (ible (Int.ofNat 0) n21) h20)
 (k16 false h14)) fun b18 h17 =>
 cnd b18
 (k (.int .i64 (Int.ofNat 1)) h17)
 (k (.int .i64 (Int.ofNat 0)) h17))
noncomputable def z183 : J183 := ⟨fun _ _ => False, fun _ _ _ _ _ => False⟩
noncomputable def r183 (c : Caller Prop FT) (k : KV) (m : Nat) : J183 := Nat.rec z183 (fun _ J => ⟨s183_0 c k J, s183_1 c k J⟩) m
noncomputable def f183 (J : J183) : Jump := fun L f h => match L with
  | 0 => J.a0 (f 0) h
  | 1 => asI .i64 (f 9) fun n_9 => asI .i64 (f 10) fun n_10 => J.a1 (f 0) (f 8) n_9 n_10 h
  | _ => False
noncomputable def u183 : Cuts := [(.root, 0), ((.l (.r (.l (.r (.r .root))))), 1)]
noncomputable def d184 : Code := Option.rec .skip (fun c => c) Go.Proofs.Tryz.f184.body
noncomputable def q184 : Plans := []
structure J184 where
  a0 : Nat → Nat → H → Prop
noncomputable def s184_0 (_c : Caller Prop FT) (k : KV) (_J : J184) (l_0 : Nat) (c_0 : Nat) (h : H) : Prop :=
 k (.bool (bnot (strEq l_0 c_0 l_0 c_0))) h
noncomputable def z184 : J184 := ⟨fun _ _ _ => False⟩
noncomputable def r184 (c : Caller Prop FT) (k : KV) (m : Nat) : J184 := Nat.rec z184 (fun _ J => ⟨s184_0 c k J⟩) m
noncomputable def f184 (J : J184) : Jump := fun L f h => match L with
  | 0 => asS (f 0) fun l_0 c_0 => J.a0 l_0 c_0 h
  | _ => False
noncomputable def u184 : Cuts := [(.root, 0)]
noncomputable def d185 : Code := Option.rec .skip (fun c => c) Go.Proofs.Tryz.f185.body
noncomputable def q185 : Plans := []
noncomputable def u185 : Cuts := [(.root, 0)]
noncomputable def d186 : Code := Option.rec .skip (fun c => c) Go.Proofs.Tryz.f186.body
noncomputable def q186 : Plans := []
noncomputable def u186 : Cuts := [(.root, 0)]
noncomputable def d188 : Code := Option.rec .skip (fun c => c) Go.Proofs.Tryz.f188.body
noncomputable def q188 : Plans := []
noncomputable def u188 : Cuts := [(.root, 0)]
noncomputable def d189 : Code := Option.rec .skip (fun c => c) Go.Proofs.Tryz.f189.body
noncomputable def q189 : Plans := [(1, [0, 1, 2, 4, 5, 6, 3, 8, 7, 9])]
structure J189 where
  a0 : AV → H → Prop
  a1 : AV → AV → AV → AV → Int → Int → H → Prop
noncomputable def s189_0 (_c : Caller Prop FT) (_k : KV) (J : J189) (v_0 : AV) (h : H) : Prop :=
 asG v_0 fun g1 =>
 chk (Nat.ble 1 (len g1)) <|
 Hp.newK h (rowOf 234 g1) fun p2 h3 =>
 fAddr 3 (.ptr p2 0) fun v4 =>
 ld1 v4 h3 fun v5 =>
 lenV v5 fun m6 =>
 fAddr 3 (.ptr p2 0) fun v7 =>
 ld1 v7 h3 fun v8 =>
 lenV v8 fun m9 =>
 oK (withElem env 308 (fun e ei => exMakeSlice (natOf (.int .i64 (Int.ofNat m6))) (natOf (.int .i64 (Int.ofNat m6))) h3 e ei)) fun v10 h11 =>
 ld1 v4 h11 fun v12 =>
 eqC v12 v5 <|
 ld1 v7 h11 fun v13 =>
 eqC v13 v8 <|
 oK (withElem env 308 (fun e ei => exMakeSlice (natOf (.int .i64 (Int.ofNat m9))) (natOf (.int .i64 (Int.ofNat m9))) h11 e ei)) fun v14 h15 =>
 ld1 v4 h15 fun v16 =>
 eqC v16 v5 <|
 fAddr 4 (.ptr p2 0) fun v17 =>
 ld1 v17 h15 fun v18 =>
 lenV v18 fun m19 =>
 J.a1 (.ptr p2 0) v10 v14 v18 (Int.ofNat m19) (Int.ofNat 0) h15
noncomputable def s189_1 (c : Caller Prop FT) (k : KV) (J : J189) (v_1 : AV) (v_2 : AV) (v_3 : AV) (v_16 : AV) (n_17 : Int) (n_18 : Int) (h : H) : Prop :=
 cnd (iblt n_18 n_17)
 (natI n_18 fun m20 =>
 elemA 8 m20 v_16 fun v21 =>
 ldn 8 v21 h fun v22 =>
 Hp.newK h ob45 fun p23 h24 =>
 stn 8 (.ptr p23 0) v22 h24 fun h25 =>
 ldn 8 (.ptr p23 0) h25 fun v26 =>
 c (.func 192) [v_1, v26] h25 fun v27 h28 =>
 asI .i64 v27 fun n29 =>
 cnd (iblt n29 (Int.ofNat 0))
 (fI (wrap .i64 (iadd n_18 (Int.ofNat 1))) fun n30 =>
 J.a1 v_1 v_2 v_3 v_16 n_17 n30 h28)
 (c (.func 193) [v_1, (.int .i64 n_18)] h28 fun v31 h32 =>
 asB v31 fun b33 =>
 cnd b33
 (natI n29 fun m34 =>
 elemA 1 m34 v_2 fun v35 =>
 st1 v35 (.bool true) h32 fun h36 =>
 fI (wrap .i64 (iadd n_18 (Int.ofNat 1))) fun n37 =>
 J.a1 v_1 v_2 v_3 v_16 n_17 n37 h36)
 (natI n29 fun m38 =>
 elemA 1 m38 v_3 fun v39 =>
 st1 v39 (.bool true) h32 fun h40 =>
 fI (wrap .i64 (iadd n_18 (Int.ofNat 1))) fun n41 =>
 J.a1 v_1 v_2 v_3 v_16 n_17 n41 h40)))
 (k (.tuple [v_2, v_3]) h)
noncomputable def z189 : J189 := ⟨fun _ _ => False, fun _ _ _ _ _ _ _ => False⟩
noncomputable def r189 (c : Caller Prop FT) (k : KV) (m : Nat) : J189 := Nat.rec z189 (fun _ J => ⟨s189_0 c k J, s189_1 c k J⟩) m
noncomputable def f189 (J : J189) : Jump := fun L f h => match L with
  | 0 => J.a0 (f 0) h
  | 1 => asI .i64 (f 17) fun n_17 => asI .i64 (f 18) fun n_18 => J.a1 (f 1) (f 2) (f 3) (f 16) n_17 n_18 h
  | _ => False
noncomputable def u189 : Cuts := [(.root, 0), ((.l (.r (.l (.r (.r .root))))), 1)]
noncomputable def d190 : Code := Option.rec .skip (fun c => c) Go.Proofs.Tryz.f190.body
noncomputable def q190 : Plans := []
structure J190 where
  a0 : AV → H → Prop
noncomputable def s190_0 (_c : Caller Prop FT) (k : KV) (_J : J190) (v_0 : AV) (h : H) : Prop :=
 oV (binA env .eql 128 v_0 .nils) fun v1 =>
 asB v1 fun b2 =>
 cnd b2
 (k .nils h)
 (oK (withElem env 128 (fun e ei => exBuildSlice 0 [] h e ei)) fun v3 h4 =>
 oK (builtinA env .append [128, 128] [v3, v_0] h4) fun v5 h6 =>
 k v5 h6)
noncomputable def z190 : J190 := ⟨fun _ _ => False⟩
noncomputable def r190 (c : Caller Prop FT) (k : KV) (m : Nat) : J190 := Nat.rec z190 (fun _ J => ⟨s190_0 c k J⟩) m
noncomputable def f190 (J : J190) : Jump := fun L f h => match L with
  | 0 => J.a0 (f 0) h
  | _ => False
noncomputable def u190 : Cuts := [(.root, 0)]
noncomputable def d191 : Code := Option.rec .skip (fun c => c) Go.Proofs.Tryz.f191.body
noncomputable def q191 : Plans := [(3, [0, 1, 2, 3, 4, 5, 6, 7, 8, 9, 10, 11, 12, 13, 14, 15])]
structure J191 where
  a0 : AV → H → Prop
  a1 : AV → Int → Int → H → Prop
noncomputable def s191_0 (_c : Caller Prop FT) (_k : KV) (J : J191) (v_0 : AV) (h : H) : Prop :=
 lenV v_0 fun m1 =>
 fI (wrap .i64 (isub (Int.ofNat m1) (Int.ofNat 1))) fun n2 =>
 J.a1 v_0 (Int.ofNat 0) n2 h
noncomputable def s191_1 (_c : Caller Prop FT) (k : KV) (J : J191) (v_0 : AV) (n_2 : Int) (n_3 : Int) (h : H) : Prop :=
 cnd (iblt n_2 n_3)
 (natI n_3 fun m3 =>
 elemA 9 m3 v_0 fun v4 =>
 ldn 9 v4 h fun v5 =>
 natI n_2 fun m6 =>
 elemA 9 m6 v_0 fun v7 =>
 ldn 9 v7 h fun v8 =>
 natI n_2 fun m9 =>
 elemA 9 m9 v_0 fun v10 =>
 stn 9 v10 v5 h fun h11 =>
 natI n_3 fun m12 =>
 elemA 9 m12 v_0 fun v13 =>
 stn 9 v13 v8 h11 fun h14 =>
 fI (wrap .i64 (iadd n_2 (Int.ofNat 1))) fun n15 =>
 fI (wrap .i64 (isub n_3 (Int.ofNat 1))) fun n16 =>
 J.a1 v_0 n15 n16 h14)
 (k (.tuple []) h)
noncomputable def z191 : J191 := ⟨fun _ _ => False, fun _ _ _ _ => False⟩
noncomputable def r191 (c : Caller Prop FT) (k : KV) (m : Nat) : J191 := Nat.rec z191 (fun _ J => ⟨s191_0 c k J, s191_1 c k J⟩) m
noncomputable def f191 (J : J191) : Jump := fun L f h => match L with
  | 0 => J.a0 (f 0) h
  | 1 => asI .i64 (f 2) fun n_2 => asI .i64 (f 3) fun n_3 => J.a1 (f 0) n_2 n_3 h
  | _ => False
noncomputable def u191 : Cuts := [(.root, 0), ((.l (.r .root)), 1)]
noncomputable def d192 : Code := Option.rec .skip (fun c => c) Go.Proofs.Tryz.f192.body
noncomputable def q192 : Plans := [(3, [0, 1, 2, 3, 4, 5, 6])]
structure J192 where
  a0 : AV → AV → H → Prop
noncomputable def s192_0 (c : Caller Prop FT) (k : KV) (_J : J192) (v_0 : AV) (v_1 : AV) (h : H) : Prop :=
 asG v_1 fun g1 =>
 chk (Nat.ble 1 (len g1)) <|
 Hp.newK h (rowOf 45 g1) fun p2 h3 =>
 oK (exNil v_0 h3) fun v4 h5 =>
 fAddr 1 v4 fun v6 =>
 ld1 v6 h5 fun v7 =>
 asB v7 fun b8 =>
 joinB (fun k9 => gate false (bnot b8)
 (fAddr 0 (.ptr p2 0) fun v12 =>
 ld1 v12 h5 fun v13 =>
 asI .i64 v13 fun n14 =>
 k9 (bnot (ibeq n14 (Int.ofNat 1))) h5)
 (k9 true h5)) fun b11 h10 =>
 cnd b11
 (k (.int .i64 (Int.negSucc 0)) h10)
 (oK (exNil v_0 h10) fun v15 h16 =>
 ldn 8 v15 h16 fun v17 =>
 fAddr 1 (.ptr p2 0) fun v18 =>
 ld1 v18 h16 fun v19 =>
 asS v19 fun l20 c21 =>
 c (.func 227) [v17, (.str l20 c21)] h16 fun v22 h23 =>
 asI .i64 v22 fun n24 =>
 k (.int .i64 n24) h23)
noncomputable def z192 : J192 := ⟨fun _ _ _ => False⟩
noncomputable def r192 (c : Caller Prop FT) (k : KV) (m : Nat) : J192 := Nat.rec z192 (fun _ J => ⟨s192_0 c k J⟩) m
noncomputable def f192 (J : J192) : Jump := fun L f h => match L with
  | 0 => J.a0 (f 0) (f 1) h
  | _ => False
noncomputable def u192 : Cuts := [(.root, 0)]
noncomputable def d193 : Code := Option.rec .skip (fun c => c) Go.Proofs.Tryz.f193.body
noncomputable def q193 : Plans := []
structure J193 where
  a0 : AV → Int → H → Prop
noncomputable def s193_0 (c : Caller Prop FT) (k : KV) (_J : J193) (v_0 : AV) (n_1 : Int) (h : H) : Prop :=
 joinB (fun k1 => gate true (iblt (Int.ofNat 0) n_1)
 (oK (exNil v_0 h) fun v4 h5 =>
 fAddr 4 v4 fun v6 =>
 ld1 v6 h5 fun v7 =>
 fI (wrap .i64 (isub n_1 (Int.ofNat 1))) fun n8 =>
 natI n8 fun m9 =>
 elemA 8 m9 v7 fun v10 =>
 ldn 8 v10 h5 fun v11 =>
 c (.func 228) [v11] h5 fun v12 h13 =>
 asB v12 fun b14 =>
 joinB (fun k15 => gate false b14
 (oK (exNil v_0 h13) fun v18 h19 =>
 fAddr 4 v18 fun v20 =>
 ld1 v20 h19 fun v21 =>
 fI (wrap .i64 (isub n_1 (Int.ofNat 1))) fun n22 =>
 natI n22 fun m23 =>
 elemA 8 m23 v21 fun v24 =>
 ldn 8 v24 h19 fun v25 =>
 c (.func 115) [v25] h19 fun v26 h27 =>
 asB v26 fun b28 =>
 k15 b28 h27)
 (k15 true h13)) fun b17 h16 =>
 k1 b17 h16)
 (k1 false h)) fun b3 h2 =>
 joinB (fun k29 => gate false b3
 (fI (wrap .i64 (iadd n_1 (Int.ofNat 1))) fun n32 =>
 oK (exNil v_0 h2) fun v33 h34 =>
 fAddr 4 v33 fun v35 =>
 ld1 v35 h34 fun v36 =>
 lenV v36 fun m37 =>
 joinB (fun k38 => gate true (iblt n32 (Int.ofNat m37))
 (oK (exNil v_0 h34) fun v41 h42 =>
 fAddr 4 v41 fun v43 =>
 ld1 v43 h42 fun v44 =>
 fI (wrap .i64 (iadd n_1 (Int.ofNat 1))) fun n45 =>
 natI n45 fun m46 =>
 elemA 8 m46 v44 fun v47 =>
 ldn 8 v47 h42 fun v48 =>
 c (.func 228) [v48] h42 fun v49 h50 =>
 asB v49 fun b51 =>
 k38 b51 h50)
 (k38 false h34)) fun b40 h39 =>
 k29 b40 h39)
 (k29 true h2)) fun b31 h30 =>
 k (.bool b31) h30
noncomputable def z193 : J193 := ⟨fun _ _ _ => False⟩
noncomputable def r193 (c : Caller Prop FT) (k : KV) (m : Nat) : J193 := Nat.rec z193 (fun _ J => ⟨s193_0 c k J⟩) m
noncomputable def f193 (J : J193) : Jump := fun L f h => match L with
  | 0 => asI .i64 (f 1) fun n_1 => J.a0 (f 0) n_1 h
  | _ => False
noncomputable def u193 : Cuts := [(.root, 0)]
noncomputable def d194 : Code := Option.rec .skip (fun c => c) Go.Proofs.Tryz.f194.body
noncomputable def q194 : Plans := []
structure J194 where
  a0 : AV → Int → H → Prop
noncomputable def s194_0 (_c : Caller Prop FT) (k : KV) (_J : J194) (v_0 : AV) (n_1 : Int) (h : H) : Prop :=
 lenV v_0 fun m1 =>
 cnd (ible (Int.ofNat m1) n_1)
 (k .nils h)
 (natI n_1 fun m2 =>
 elemA 1 m2 v_0 fun v3 =>
 ld1 v3 h fun v4 =>
 k v4 h)
noncomputable def z194 : J194 := ⟨fun _ _ _ => False⟩
noncomputable def r194 (c : Caller Prop FT) (k : KV) (m : Nat) : J194 := Nat.rec z194 (fun _ J => ⟨s194_0 c k J⟩) m
noncomputable def f194 (J : J194) : Jump := fun L f h => match L with
  | 0 => asI .i64 (f 1) fun n_1 => J.a0 (f 0) n_1 h
  | _ => False
noncomputable def u194 : Cuts := [(.root, 0)]
noncomputable def d195 : Code := Option.rec .skip (fun c => c) Go.Proofs.Tryz.f195.body
noncomputable def q195 : Plans := [(5, [0, 1, 2, 3, 4, 5, 6, 7, 8, 9, 10, 11, 12, 13, 14, 15, 16, 17, 18, 19, 20, 21, 22]), (6, [0, 1, 2, 3, 4, 5, 6, 7, 8, 9, 10, 11]), (8, [0, 1, 2, 3, 4, 5, 6])]
structure J195 where
  a0 : AV → Int → H → Prop
  a1 : AV → AV → Int → Bool → AV → Int → Int → H → Prop
  a2 : AV → AV → Int → Bool → Int → AV → AV → Int → Int → H → Prop
  a3 : AV → AV → Int → Bool → AV → H → Prop
  a4 : AV → AV → H → Prop
  a5 : AV → AV → AV → Int → Bool → AV → H → Prop
noncomputable def s195_0 (c : Caller Prop FT) (k : KV) (J : J195) (v_0 : AV) (n_1 : Int) (h : H) : Prop :=
 Hp.newK h ob321 fun p1 h2 =>
 oK (exNil v_0 h2) fun v3 h4 =>
 fAddr 0 v3 fun v5 =>
 ld1 v5 h4 fun v6 =>
 oK (exNil v6 h4) fun v7 h8 =>
 fAddr 4 v7 fun v9 =>
 ld1 v9 h8 fun v10 =>
 natI n_1 fun m11 =>
 elemA 8 m11 v10 fun v12 =>
 ldn 8 v12 h8 fun v13 =>
 Hp.newK h8 ob45 fun p14 h15 =>
 stn 8 (.ptr p14 0) v13 h15 fun h16 =>
 ldn 8 (.ptr p14 0) h16 fun v17 =>
 c (.func 228) [v17] h16 fun v18 h19 =>
 asB v18 fun b20 =>
 cnd b20
 (fAddr 3 (.ptr p14 0) fun v21 =>
 ldn 3 v21 h19 fun v22 =>
 oK (exBuild env (env.ty 321) [(1, (.bool true)), (2, v22)] h19) fun v23 h24 =>
 stn 5 (.ptr p1 0) v23 h24 fun h25 =>
 ldn 5 (.ptr p1 0) h25 fun v26 =>
 k (.tuple [v26, (.int .i64 (Int.ofNat 1))]) h25)
 (oK (exNil v_0 h19) fun v27 h28 =>
 fAddr 0 v27 fun v29 =>
 ld1 v29 h28 fun v30 =>
 c (.func 229) [v30, (.int .i64 n_1)] h28 fun v31 h32 =>
 asB v31 fun b33 =>
 cnd b33
 (oK (exNil v_0 h32) fun v34 h35 =>
 fAddr 1 v34 fun v36 =>
 ld1 v36 h35 fun v37 =>
 oK (exNil v_0 h35) fun v38 h39 =>
 fAddr 0 v38 fun v40 =>
 ld1 v40 h39 fun v41 =>
 oK (exNil v_0 h39) fun v42 h43 =>
 fAddr 0 v42 fun v44 =>
 ld1 v44 h43 fun v45 =>
 oK (exNil v45 h43) fun v46 h47 =>
 fAddr 4 v46 fun v48 =>
 ld1 v48 h47 fun v49 =>
 fI (wrap .i64 (iadd n_1 (Int.ofNat 1))) fun n50 =>
 natI n50 fun m51 =>
 elemA 8 m51 v49 fun v52 =>
 ldn 8 v52 h47 fun v53 =>
 c (.func 192) [v41, v53] h47 fun v54 h55 =>
 asI .i64 v54 fun n56 =>
 ld1 v36 h55 fun v57 =>
 eqC v57 v37 <|
 c (.func 194) [v37, (.int .i64 n56)] h55 fun v58 h59 =>
 c (.func 230) [v58] h59 fun v60 h61 =>
 asS v60 fun l62 c63 =>
 fAddr 2 (.ptr p14 0) fun v64 =>
 ld1 v64 h61 fun v65 =>
 asB v65 fun b66 =>
 fAddr 3 (.ptr p14 0) fun v67 =>
 ldn 3 v67 h61 fun v68 =>
 oK (exNil v_0 h61) fun v69 h70 =>
 fAddr 3 v69 fun v71 =>
 ld1 v71 h70 fun v72 =>
 c (.func 52) [v72] h70 fun v73 h74 =>
 ld1 v64 h74 fun v75 =>
 asB v75 fun b76 =>
 eqC (.bool b76) (.bool b66) <|
 ldn 3 v67 h74 fun v77 =>
 eqC v77 v68 <|
 oK (exBuild env (env.ty 45) [(0, (.int .i64 (Int.ofNat 4))), (1, (.str l62 c63)), (2, (.bool b66)), (3, v68), (4, (.bool true)), (5, v73)] h74) fun v78 h79 =>
 stn 8 (.ptr p14 0) v78 h79 fun h80 =>
 J.a4 (.ptr p1 0) (.ptr p14 0) h80)
 (oK (exNil v_0 h32) fun v81 h82 =>
 fAddr 0 v81 fun v83 =>
 ld1 v83 h82 fun v84 =>
 ldn 8 (.ptr p14 0) h82 fun v85 =>
 c (.func 192) [v84, v85] h82 fun v86 h87 =>
 asI .i64 v86 fun n88 =>
 cnd (iblt n88 (Int.ofNat 0))
 (oK (exNil v_0 h87) fun v89 h90 =>
 fAddr 3 v89 fun v91 =>
 ld1 v91 h90 fun v92 =>
 c (.func 52) [v92] h90 fun v93 h94 =>
 fAddr 7 (.ptr p14 0) fun v95 =>
 st1 v95 v93 h94 fun h96 =>
 fAddr 6 (.ptr p14 0) fun v97 =>
 st1 v97 (.bool false) h96 fun h98 =>
 ldn 8 (.ptr p14 0) h98 fun v99 =>
 oK (exBuild env (env.ty 285) [(0, v99), (1, (.int .i64 (Int.negSucc 0))), (2, (.int .i64 (Int.ofNat 0))), (3, (.bool false))] h98) fun v100 h101 =>
 oK (withElem env 281 (fun e ei => exBuildSlice 1 [(0, v100)] h101 e ei)) fun v102 h103 =>
 oK (exBuild env (env.ty 321) [(0, v102)] h103) fun v104 h105 =>
 stn 5 (.ptr p1 0) v104 h105 fun h106 =>
 ldn 5 (.ptr p1 0) h106 fun v107 =>
 k (.tuple [v107, (.int .i64 (Int.ofNat 1))]) h106)
 (oK (exNil v_0 h87) fun v108 h109 =>
 fAddr 0 v108 fun v110 =>
 ld1 v110 h109 fun v111 =>
 c (.func 193) [v111, (.int .i64 n_1)] h109 fun v112 h113 =>
 asB v112 fun b114 =>
 oK (exNil v_0 h113) fun v115 h116 =>
 fAddr 2 v115 fun v117 =>
 ld1 v117 h116 fun v118 =>
 c (.func 194) [v118, (.int .i64 n88)] h116 fun v119 h120 =>
 J.a5 v_0 (.ptr p1 0) (.ptr p14 0) n88 b114 v119 h120)))
noncomputable def s195_1 (_c : Caller Prop FT) (k : KV) (J : J195) (v_4 : AV) (v_6 : AV) (n_8 : Int) (b_9 : Bool) (v_110 : AV) (n_111 : Int) (n_112 : Int) (h : H) : Prop :=
 cnd (iblt n_112 n_111)
 (natI n_112 fun m121 =>
 elemA 8 m121 v_110 fun v122 =>
 ldn 8 v122 h fun v123 =>
 Hp.newK h ob45 fun p124 h125 =>
 stn 8 (.ptr p124 0) v123 h125 fun h126 =>
 cnd (ibeq n_112 (Int.ofNat 0))
 (fAddr 2 v_6 fun v127 =>
 ld1 v127 h126 fun v128 =>
 asB v128 fun b129 =>
 fAddr 2 (.ptr p124 0) fun v130 =>
 st1 v130 (.bool b129) h126 fun h131 =>
 J.a2 v_4 v_6 n_8 b_9 n_112 (.ptr p124 0) v_110 n_111 n_112 h131)
 (J.a2 v_4 v_6 n_8 b_9 n_112 (.ptr p124 0) v_110 n_111 n_112 h126))
 (ldn 5 v_4 h fun v132 =>
 stn 5 v_4 v132 h fun h133 =>
 ldn 5 v_4 h133 fun v134 =>
 k (.tuple [v134, (.int .i64 (Int.ofNat 1))]) h133)
noncomputable def s195_2 (_c : Caller Prop FT) (_k : KV) (J : J195) (v_4 : AV) (v_6 : AV) (n_8 : Int) (b_9 : Bool) (n_11 : Int) (v_12 : AV) (v_110 : AV) (n_111 : Int) (n_112 : Int) (h : H) : Prop :=
 fAddr 0 v_4 fun v135 =>
 ld1 v135 h fun v136 =>
 ldn 8 v_12 h fun v137 =>
 oK (exBuild env (env.ty 285) [(0, v137), (1, (.int .i64 n_8)), (2, (.int .i64 n_11)), (3, (.bool (bnot b_9)))] h) fun v138 h139 =>
 oK (withElem env 281 (fun e ei => exBuildSlice 1 [(0, v138)] h139 e ei)) fun v140 h141 =>
 oK (builtinA env .append [281, 281] [v136, v140] h141) fun v142 h143 =>
 fAddr 0 v_4 fun v144 =>
 st1 v144 v142 h143 fun h145 =>
 fI (wrap .i64 (iadd n_112 (Int.ofNat 1))) fun n146 =>
 J.a1 v_4 v_6 n_8 b_9 v_110 n_111 n146 h145
noncomputable def s195_3 (c : Caller Prop FT) (_k : KV) (J : J195) (v_4 : AV) (v_6 : AV) (n_8 : Int) (b_9 : Bool) (v_10 : AV) (h : H) : Prop :=
 c (.func 231) [v_10] h fun v147 h148 =>
 lenV v147 fun m149 =>
 J.a1 v_4 v_6 n_8 b_9 v147 (Int.ofNat m149) (Int.ofNat 0) h148
noncomputable def s195_4 (_c : Caller Prop FT) (k : KV) (_J : J195) (v_4 : AV) (v_6 : AV) (h : H) : Prop :=
 ldn 8 v_6 h fun v150 =>
 oK (exBuild env (env.ty 285) [(0, v150), (1, (.int .i64 (Int.negSucc 0))), (2, (.int .i64 (Int.ofNat 0))), (3, (.bool false))] h) fun v151 h152 =>
 oK (withElem env 281 (fun e ei => exBuildSlice 1 [(0, v151)] h152 e ei)) fun v153 h154 =>
 oK (exBuild env (env.ty 321) [(0, v153)] h154) fun v155 h156 =>
 stn 5 v_4 v155 h156 fun h157 =>
 ldn 5 v_4 h157 fun v158 =>
 k (.tuple [v158, (.int .i64 (Int.ofNat 2))]) h157
noncomputable def s195_5 (c : Caller Prop FT) (_k : KV) (J : J195) (v_0 : AV) (v_4 : AV) (v_6 : AV) (n_8 : Int) (b_9 : Bool) (v_10 : AV) (h : H) : Prop :=
 cnd b_9
 (oK (exNil v_0 h) fun v159 h160 =>
 fAddr 1 v159 fun v161 =>
 ld1 v161 h160 fun v162 =>
 c (.func 194) [v162, (.int .i64 n_8)] h160 fun v163 h164 =>
 J.a3 v_4 v_6 n_8 b_9 v163 h164)
 (J.a3 v_4 v_6 n_8 b_9 v_10 h)
noncomputable def z195 : J195 := ⟨fun _ _ _ => False, fun _ _ _ _ _ _ _ _ => False, fun _ _ _ _ _ _ _ _ _ _ => False, fun _ _ _ _ _ _ => False, fun _ _ _ => False, fun _ _ _ _ _ _ _ => False⟩
noncomputable def r195 (c : Caller Prop FT) (k : KV) (m : Nat) : J195 := Nat.rec z195 (fun _ J => ⟨s195_0 c k J, s195_1 c k J, s195_2 c k J, s195_3 c k J, s195_4 c k J, s195_5 c k J⟩) m
noncomputable def f195 (J : J195) : Jump := fun L f h => match L with
  | 0 => asI .i64 (f 1) fun n_1 => J.a0 (f 0) n_1 h
  | 1 => asI .i64 (f 8) fun n_8 => asB (f 9) fun b_9 => asI .i64 (f 111) fun n_111 => asI .i64 (f 112) fun n_112 => J.a1 (f 4) (f 6) n_8 b_9 (f 110) n_111 n_112 h
  | 2 => asI .i64 (f 8) fun n_8 => asB (f 9) fun b_9 => asI .i64 (f 11) fun n_11 => asI .i64 (f 111) fun n_111 => asI .i64 (f 112) fun n_112 => J.a2 (f 4) (f 6) n_8 b_9 n_11 (f 12) (f 110) n_111 n_112 h
  | 3 => asI .i64 (f 8) fun n_8 => asB (f 9) fun b_9 => J.a3 (f 4) (f 6) n_8 b_9 (f 10) h
  | 4 => J.a4 (f 4) (f 6) h
  | 5 => asI .i64 (f 8) fun n_8 => asB (f 9) fun b_9 => J.a5 (f 0) (f 4) (f 6) n_8 b_9 (f 10) h
  | _ => False
noncomputable def u195 : Cuts := [(.root, 0), ((.l (.r (.l (.r (.r (.r (.r (.r (.r (.r (.r (.r .root)))))))))))), 1), ((.r (.r (.l (.l (.r (.r (.l (.l (.r (.l (.r (.r (.r (.r (.r (.r (.r (.r (.r .root))))))))))))))))))), 2), ((.r (.r (.r (.r (.r (.r (.r (.r (.r .root))))))))), 3), ((.r (.r (.l (.r (.l (.r (.r (.r .root)))))))), 4), ((.r (.r (.r (.r (.r (.r (.r (.r .root)))))))), 5)]
noncomputable def d196 : Code := Option.rec .skip (fun c => c) Go.Proofs.Tryz.f196.body
noncomputable def q196 : Plans := [(4, [0, 1, 2, 3, 4, 5, 6, 7, 8, 13, 9, 10, 11, 12, 14, 15]), (6, [0, 1, 3, 4, 5, 6, 2, 7, 8, 9]), (7, [0, 1, 2, 3, 4, 7, 8, 10, 5, 6, 9, 11, 12])]
noncomputable def u196 : Cuts := [(.root, 0)]
noncomputable def d197 : Code := Option.rec .skip (fun c => c) Go.Proofs.Tryz.f197.body
noncomputable def q197 : Plans := []
structure J197 where
  a0 : AV → AV → H → Prop
  a1 : AV → AV → Int → H → Prop
noncomputable def s197_0 (_c : Caller Prop FT) (_k : KV) (J : J197) (v_0 : AV) (v_1 : AV) (h : H) : Prop :=
 ld1 v_1 h fun v1 =>
 lenV v1 fun m2 =>
 fI (wrap .i64 (isub (Int.ofNat m2) (Int.ofNat 1))) fun n3 =>
 J.a1 v_0 v_1 n3 h
noncomputable def s197_1 (c : Caller Prop FT) (k : KV) (J : J197) (v_0 : AV) (v_1 : AV) (n_3 : Int) (h : H) : Prop :=
 cnd (ible (Int.ofNat 0) n_3)
 (ld1 v_1 h fun v4 =>
 natI n_3 fun m5 =>
 elemA 11 m5 v4 fun v6 =>
 ldn 11 v6 h fun v7 =>
 callV (CP env) c v_0 [(.int .i64 n_3), v7] h fun v8 h9 =>
 asB v8 fun b10 =>
 cnd (bnot b10)
 (k (.tuple []) h9)
 (fI (wrap .i64 (isub n_3 (Int.ofNat 1))) fun n11 =>
 J.a1 v_0 v_1 n11 h9))
 (k (.tuple []) h)
noncomputable def z197 : J197 := ⟨fun _ _ _ => False, fun _ _ _ _ => False⟩
noncomputable def r197 (c : Caller Prop FT) (k : KV) (m : Nat) : J197 := Nat.rec z197 (fun _ J => ⟨s197_0 c k J, s197_1 c k J⟩) m
noncomputable def f197 (J : J197) : Jump := fun L f h => match L with
  | 0 => J.a0 (f 0) (f 1) h
  | 1 => asI .i64 (f 3) fun n_3 => J.a1 (f 0) (f 1) n_3 h
  | _ => False
noncomputable def u197 : Cuts := [(.root, 0), ((.l (.r .root)), 1)]
noncomputable def d198 : Code := Option.rec .skip (fun c => c) Go.Proofs.Tryz.f198.body
noncomputable def q198 : Plans := []
structure J198 where
  a0 : AV → Int → H → Prop
  a1 : AV → Int → H → Prop
noncomputable def s198_0 (_c : Caller Prop FT) (_k : KV) (J : J198) (v_0 : AV) (n_1 : Int) (h : H) : Prop :=
 cnd (iblt n_1 (Int.ofNat 0))
 (False)
 (J.a1 v_0 n_1 h)
noncomputable def s198_1 (_c : Caller Prop FT) (k : KV) (_J : J198) (v_0 : AV) (n_1 : Int) (h : H) : Prop :=
 oK (builtinA env .cap [34] [v_0] h) fun v1 h2 =>
 asI .i64 v1 fun n3 =>
 lenV v_0 fun m4 =>
 fI (wrap .i64 (isub n3 (Int.ofNat m4))) fun n5 =>
 fI (wrap .i64 (isub n_1 n5)) fun n6 =>
 cnd (iblt (Int.ofNat 0) n6)
 (oK (builtinA env .cap [34] [v_0] h2) fun v7 h8 =>
 asI .i64 v7 fun n9 =>
 oK (slice3 env h8 34 v_0 none (some (natOf (.int .i64 n9))) none) fun v10 h11 =>
 oK (builtinA env .append [34, 3] [v10, (.int .i64 n6)] h11) fun v12 h13 =>
 lenV v_0 fun m14 =>
 oK (slice3 env h13 34 v12 none (some (natOf (.int .i64 (Int.ofNat m14)))) none) fun v15 h16 =>
 k v15 h16)
 (k v_0 h2)
noncomputable def z198 : J198 := ⟨fun _ _ _ => False, fun _ _ _ => False⟩
noncomputable def r198 (c : Caller Prop FT) (k : KV) (m : Nat) : J198 := Nat.rec z198 (fun _ J => ⟨s198_0 c k J, s198_1 c k J⟩) m
noncomputable def f198 (J : J198) : Jump := fun L f h => match L with
  | 0 => asI .i64 (f 1) fun n_1 => J.a0 (f 0) n_1 h
  | 1 => asI .i64 (f 1) fun n_1 => J.a1 (f 0) n_1 h
  | _ => False
noncomputable def u198 : Cuts := [(.root, 0), ((.r (.r .root)), 1)]
noncomputable def d199 : Code := Option.rec .skip (fun c => c) Go.Proofs.Tryz.f199.body
noncomputable def q199 : Plans := []
structure J199 where
  a0 : Nat → Nat → Nat → Nat → H → Prop
noncomputable def s199_0 (_c : Caller Prop FT) (k : KV) (_J : J199) (l_0 : Nat) (c_0 : Nat) (l_1 : Nat) (c_1 : Nat) (h : H) : Prop :=
 joinB (fun k1 => gate true (ible (Int.ofNat l_1) (Int.ofNat l_0))
 (cutS l_0 c_0 0 l_1 fun l4 c5 =>
 k1 (strEq l4 c5 l_1 c_1) h)
 (k1 false h)) fun b3 h2 =>
 k (.bool b3) h2
noncomputable def z199 : J199 := ⟨fun _ _ _ _ _ => False⟩
noncomputable def r199 (c : Caller Prop FT) (k : KV) (m : Nat) : J199 := Nat.rec z199 (fun _ J => ⟨s199_0 c k J⟩) m
noncomputable def f199 (J : J199) : Jump := fun L f h => match L with
  | 0 => asS (f 0) fun l_0 c_0 => asS (f 1) fun l_1 c_1 => J.a0 l_0 c_0 l_1 c_1 h
  | _ => False
noncomputable def u199 : Cuts := [(.root, 0)]
noncomputable def d200 : Code := Option.rec .skip (fun c => c) Go.Proofs.Tryz.f200.body
noncomputable def q200 : Plans := []
structure J200 where
  a0 : Nat → Nat → Int → H → Prop
noncomputable def s200_0 (c : Caller Prop FT) (k : KV) (_J : J200) (l_0 : Nat) (c_0 : Nat) (n_1 : Int) (h : H) : Prop :=
 c (.func 201) [(.str l_0 c_0), (.int .u8 n_1)] h fun v1 h2 =>
 asI .i64 v1 fun n3 =>
 k (.int .i64 n3) h2
noncomputable def z200 : J200 := ⟨fun _ _ _ _ => False⟩
noncomputable def r200 (c : Caller Prop FT) (k : KV) (m : Nat) : J200 := Nat.rec z200 (fun _ J => ⟨s200_0 c k J⟩) m
noncomputable def f200 (J : J200) : Jump := fun L f h => match L with
  | 0 => asS (f 0) fun l_0 c_0 => asI .u8 (f 1) fun n_1 => J.a0 l_0 c_0 n_1 h
  | _ => False
noncomputable def u200 : Cuts := [(.root, 0)]
noncomputable def d201 : Code := Option.rec .skip (fun c => c) Go.Proofs.Tryz.f201.body
noncomputable def q201 : Plans := []
structure J201 where
  a0 : Nat → Nat → Int → H → Prop
noncomputable def s201_0 (c : Caller Prop FT) (k : KV) (_J : J201) (l_0 : Nat) (c_0 : Nat) (n_1 : Int) (h : H) : Prop :=
 c (.func 233) [(.str l_0 c_0), (.int .u8 n_1)] h fun v1 h2 =>
 asI .i64 v1 fun n3 =>
 k (.int .i64 n3) h2
noncomputable def z201 : J201 := ⟨fun _ _ _ _ => False⟩
noncomputable def r201 (c : Caller Prop FT) (k : KV) (m : Nat) : J201 := Nat.rec z201 (fun _ J => ⟨s201_0 c k J⟩) m
noncomputable def f201 (J : J201) : Jump := fun L f h => match L with
  | 0 => asS (f 0) fun l_0 c_0 => asI .u8 (f 1) fun n_1 => J.a0 l_0 c_0 n_1 h
  | _ => False
noncomputable def u201 : Cuts := [(.root, 0)]
noncomputable def d203 : Code := Option.rec .skip (fun c => c) Go.Proofs.Tryz.f203.body
noncomputable def q203 : Plans := []
noncomputable def u203 : Cuts := [(.root, 0)]
noncomputable def d204 : Code := Option.rec .skip (fun c => c) Go.Proofs.Tryz.f204.body
noncomputable def q204 : Plans := []
noncomputable def u204 : Cuts := [(.root, 0), ((.l (.r (.l (.r (.r (.r (.r .root))))))), 1), ((.l (.r (.l (.r (.r (.r (.r (.r (.r .root))))))))), 2)]
noncomputable def d205 : Code := Option.rec .skip (fun c => c) Go.Proofs.Tryz.f205.body
noncomputable def q205 : Plans := []
structure J205 where
  a0 : AV → H → Prop
noncomputable def s205_0 (c : Caller Prop FT) (k : KV) (_J : J205) (v_0 : AV) (h : H) : Prop :=
 oK (exNil v_0 h) fun v1 h2 =>
 fAddr 0 v1 fun v3 =>
 c (.func 235) [v3] h2 fun v4 h5 =>
 asI .u32 v4 fun n6 =>
 k (.bool (bnot (ibeq n6 (Int.ofNat 0)))) h5
noncomputable def z205 : J205 := ⟨fun _ _ => False⟩
noncomputable def r205 (c : Caller Prop FT) (k : KV) (m : Nat) : J205 := Nat.rec z205 (fun _ J => ⟨s205_0 c k J⟩) m
noncomputable def f205 (J : J205) : Jump := fun L f h => match L with
  | 0 => J.a0 (f 0) h
  | _ => False
noncomputable def u205 : Cuts := [(.root, 0)]
noncomputable def d206 : Code := Option.rec .skip (fun c => c) Go.Proofs.Tryz.f206.body
noncomputable def q206 : Plans := []
structure J206 where
  a0 : AV → AV → H → Prop
noncomputable def s206_0 (c : Caller Prop FT) (_k : KV) (_J : J206) (v_0 : AV) (_v_1 : AV) (h : H) : Prop :=
 oK (exNil v_0 h) fun v1 h2 =>
 fAddr 1 v1 fun v3 =>
 c (.func 236) [v3] h2 fun _ h5 =>
 oK (exNil v_0 h5) fun v6 _ =>
 fAddr 1 v6 fun _ =>
 False
noncomputable def z206 : J206 := ⟨fun _ _ _ => False⟩
noncomputable def r206 (c : Caller Prop FT) (k : KV) (m : Nat) : J206 := Nat.rec z206 (fun _ J => ⟨s206_0 c k J⟩) m
noncomputable def f206 (J : J206) : Jump := fun L f h => match L with
  | 0 => J.a0 (f 0) (f 1) h
  | _ => False
noncomputable def u206 : Cuts := [(.root, 0)]
noncomputable def d207 : Code := Option.rec .skip (fun c => c) Go.Proofs.Tryz.f207.body
noncomputable def q207 : Plans := []
noncomputable def u207 : Cuts := [(.root, 0), ((.l (.l (.r (.r (.r .root))))), 1), ((.r (.r (.r (.r (.r (.r (.r (.l (.r (.l (.l (.l (.r (.r (.r .root))))))))))))))), 2)]
noncomputable def d208 : Code := Option.rec .skip (fun c => c) Go.Proofs.Tryz.f208.body
noncomputable def q208 : Plans := []
noncomputable def u208 : Cuts := [(.root, 0)]
noncomputable def d209 : Code := Option.rec .skip (fun c => c) Go.Proofs.Tryz.f209.body
noncomputable def q209 : Plans := []
noncomputable def u209 : Cuts := [(.root, 0)]
noncomputable def d210 : Code := Option.rec .skip (fun c => c) Go.Proofs.Tryz.f210.body
noncomputable def q210 : Plans := []
noncomputable def u210 : Cuts := [(.root, 0), ((.l (.r (.l (.r (.r (.r (.r (.r .root)))))))), 1), ((.r (.r (.l (.l (.r (.r (.l (.l (.r (.l (.r (.r (.r (.r (.r .root))))))))))))))), 2)]
noncomputable def d211 : Code := Option.rec .skip (fun c => c) Go.Proofs.Tryz.f211.body
noncomputable def q211 : Plans := [(1, [0, 1, 2, 3, 4, 5, 6, 7, 8, 9, 10, 11, 12, 13, 14, 15, 16, 17, 18, 19, 20, 21, 22, 23, 24, 25, 26, 27, 28])]
noncomputable def u211 : Cuts := [(.root, 0)]
noncomputable def d212 : Code := Option.rec .skip (fun c => c) Go.Proofs.Tryz.f212.body
noncomputable def q212 : Plans := []
noncomputable def u212 : Cuts := [(.root, 0), ((.l (.r (.l (.r (.r (.r (.r .root))))))), 1), ((.r (.r (.r (.r .root)))), 2)]
noncomputable def d213 : Code := Option.rec .skip (fun c => c) Go.Proofs.Tryz.f213.body
noncomputable def q213 : Plans := []
structure J213 where
  a0 : AV → H → Prop
  a1 : AV → AV → AV → AV → Int → Int → H → Prop
  a2 : AV → AV → AV → H → Prop
  a3 : AV → AV → AV → AV → AV → Bool → H → Prop
  a4 : AV → AV → AV → AV → AV → Bool → Bool → H → Prop
noncomputable def s213_0 (c : Caller Prop FT) (k : KV) (J : J213) (v_0 : AV) (h : H) : Prop :=
 Hp.newK h ob234 fun p1 h2 =>
 lenV v_0 fun m3 =>
 cnd (ibeq (Int.ofNat m3) (Int.ofNat 0))
 (oK (exBuild env (env.ty 41) [] h2) fun v4 h5 =>
 callV (CP env) c (.func (.func 246) [] []) [(.int .i64 (Int.ofNat 4)), v4] h5 fun v6 h7 =>
 ext 0 v6 fun v8 =>
 ext 1 v6 fun v9 =>
 stn 8 (.ptr p1 0) v8 h7 fun h10 =>
 ldn 8 (.ptr p1 0) h10 fun v11 =>
 k (.tuple [v11, v9]) h10)
 (elemA 8 0 v_0 fun v12 =>
 ldn 8 v12 h2 fun v13 =>
 Hp.newK h2 ob45 fun p14 h15 =>
 stn 8 (.ptr p14 0) v13 h15 fun h16 =>
 fAddr 0 (.ptr p14 0) fun v17 =>
 ld1 v17 h16 fun v18 =>
 asI .i64 v18 fun n19 =>
 cnd (bnot (ibeq n19 (Int.ofNat 1)))
 (fAddr 3 (.ptr p14 0) fun v20 =>
 ldn 3 v20 h16 fun v21 =>
 callV (CP env) c (.func (.func 246) [] []) [(.int .i64 (Int.ofNat 4)), v21] h16 fun v22 h23 =>
 ext 0 v22 fun v24 =>
 ext 1 v22 fun v25 =>
 stn 8 (.ptr p1 0) v24 h23 fun h26 =>
 ldn 8 (.ptr p1 0) h26 fun v27 =>
 k (.tuple [v27, v25]) h26)
 (fAddr 1 (.ptr p14 0) fun v28 =>
 ld1 v28 h16 fun v29 =>
 asS v29 fun l30 c31 =>
 fAddr 3 (.ptr p14 0) fun v32 =>
 ldn 3 v32 h16 fun v33 =>
 oK (exBuild env (env.ty 234) [(0, (.str l30 c31)), (5, v33)] h16) fun v34 h35 =>
 Hp.newK h35 ob234 fun p36 h37 =>
 stn 8 (.ptr p36 0) v34 h37 fun h38 =>
 oK (slice3 env h38 32 v_0 (some (natOf (.int .i64 (Int.ofNat 1)))) none none) fun v39 h40 =>
 fAddr 1 (.ptr p14 0) fun v41 =>
 ld1 v41 h40 fun v42 =>
 asS v42 fun l43 c44 =>
 c (.func 215) [(.str l43 c44)] h40 fun v45 h46 =>
 asB v45 fun b47 =>
 joinB (fun k48 => gate true (bnot b47)
 (lenV v39 fun m51 =>
 k48 (iblt (Int.ofNat 0) (Int.ofNat m51)) h46)
 (k48 false h46)) fun b50 h49 =>
 joinB (fun k52 => gate true b50
 (elemA 8 0 v39 fun v55 =>
 ldn 8 v55 h49 fun v56 =>
 c (.func 104) [v56, (.str 1 40)] h49 fun v57 h58 =>
 asB v57 fun b59 =>
 k52 b59 h58)
 (k52 false h49)) fun b54 h53 =>
 joinB (fun k60 => gate true b54
 (elemA 8 0 v39 fun v63 =>
 fAddr 2 v63 fun v64 =>
 ld1 v64 h53 fun v65 =>
 asB v65 fun b66 =>
 k60 (bnot b66) h53)
 (k60 false h53)) fun b62 h61 =>
 J.a4 v39 (.ptr p1 0) (.func (.func 246) [] []) (.ptr p14 0) (.ptr p36 0) (bnot b47) b62 h61))
noncomputable def s213_1 (c : Caller Prop FT) (k : KV) (J : J213) (v_2 : AV) (v_4 : AV) (v_6 : AV) (v_87 : AV) (n_88 : Int) (n_89 : Int) (h : H) : Prop :=
 cnd (iblt n_89 n_88)
 (natI n_89 fun m67 =>
 elemA 8 m67 v_87 fun v68 =>
 ldn 8 v68 h fun v69 =>
 Hp.newK h ob45 fun p70 h71 =>
 stn 8 (.ptr p70 0) v69 h71 fun h72 =>
 c (.func 248) [v_6, (.int .i64 n_89)] h72 fun v73 h74 =>
 asB v73 fun b75 =>
 cnd b75
 (fAddr 3 (.ptr p70 0) fun v76 =>
 ldn 3 v76 h74 fun v77 =>
 callV (CP env) c v_4 [(.int .i64 (Int.ofNat 5)), v77] h74 fun v78 h79 =>
 ext 0 v78 fun v80 =>
 ext 1 v78 fun v81 =>
 stn 8 v_2 v80 h79 fun h82 =>
 ldn 8 v_2 h82 fun v83 =>
 k (.tuple [v83, v81]) h82)
 (fI (wrap .i64 (iadd n_89 (Int.ofNat 1))) fun n84 =>
 J.a1 v_2 v_4 v_6 v_87 n_88 n84 h74))
 (ldn 8 v_6 h fun v85 =>
 stn 8 v_2 v85 h fun h86 =>
 ldn 8 v_2 h86 fun v87 =>
 k (.tuple [v87, .nils]) h86)
noncomputable def s213_2 (_c : Caller Prop FT) (_k : KV) (J : J213) (v_2 : AV) (v_4 : AV) (v_6 : AV) (h : H) : Prop :=
 fAddr 4 v_6 fun v88 =>
 ld1 v88 h fun v89 =>
 lenV v89 fun m90 =>
 J.a1 v_2 v_4 v_6 v89 (Int.ofNat m90) (Int.ofNat 0) h
noncomputable def s213_3 (c : Caller Prop FT) (k : KV) (J : J213) (v_0 : AV) (v_2 : AV) (v_4 : AV) (v_5 : AV) (v_6 : AV) (b_7 : Bool) (h : H) : Prop :=
 cnd (bnot b_7)
 (fAddr 3 v_5 fun v91 =>
 ldn 3 v91 h fun v92 =>
 callV (CP env) c v_4 [(.int .i64 (Int.ofNat 5)), v92] h fun v93 h94 =>
 ext 0 v93 fun v95 =>
 ext 1 v93 fun v96 =>
 stn 8 v_2 v95 h94 fun h97 =>
 ldn 8 v_2 h97 fun v98 =>
 k (.tuple [v98, v96]) h97)
 (c (.func 231) [v_0] h fun v99 h100 =>
 fAddr 4 v_6 fun v101 =>
 st1 v101 v99 h100 fun h102 =>
 fAddr 4 v_6 fun v103 =>
 ld1 v103 h102 fun v104 =>
 lenV v104 fun m105 =>
 cnd (iblt (Int.ofNat 0) (Int.ofNat m105))
 (fAddr 4 v_6 fun v106 =>
 ld1 v106 h102 fun v107 =>
 elemA 8 0 v107 fun v108 =>
 fAddr 2 v108 fun v109 =>
 st1 v109 (.bool false) h102 fun h110 =>
 J.a2 v_2 v_4 v_6 h110)
 (J.a2 v_2 v_4 v_6 h102))
noncomputable def s213_4 (c : Caller Prop FT) (_k : KV) (J : J213) (v_0 : AV) (v_2 : AV) (v_4 : AV) (v_5 : AV) (v_6 : AV) (b_7 : Bool) (b_59 : Bool) (h : H) : Prop :=
 cnd b_59
 (fAddr 1 v_6 fun v111 =>
 st1 v111 (.bool true) h fun h112 =>
 oK (slice3 env h112 32 v_0 (some (natOf (.int .i64 (Int.ofNat 1)))) none none) fun v113 h114 =>
 c (.func 247) [v_6, v113] h114 fun v115 h116 =>
 ext 0 v115 fun v117 =>
 ext 1 v115 fun v118 =>
 asB v118 fun b119 =>
 J.a3 v117 v_2 v_4 v_5 v_6 b119 h116)
 (J.a3 v_0 v_2 v_4 v_5 v_6 b_7 h)
noncomputable def z213 : J213 := ⟨fun _ _ => False, fun _ _ _ _ _ _ _ => False, fun _ _ _ _ => False, fun _ _ _ _ _ _ _ => False, fun _ _ _ _ _ _ _ _ => False⟩
noncomputable def r213 (c : Caller Prop FT) (k : KV) (m : Nat) : J213 := Nat.rec z213 (fun _ J => ⟨s213_0 c k J, s213_1 c k J, s213_2 c k J, s213_3 c k J, s213_4 c k J⟩) m
noncomputable def f213 (J : J213) : Jump := fun L f h => match L with
  | 0 => J.a0 (f 0) h
  | 1 => asI .i64 (f 88) fun n_88 => asI .i64 (f 89) fun n_89 => J.a1 (f 2) (f 4) (f 6) (f 87) n_88 n_89 h
  | 2 => J.a2 (f 2) (f 4) (f 6) h
  | 3 => asB (f 7) fun b_7 => J.a3 (f 0) (f 2) (f 4) (f 5) (f 6) b_7 h
  | 4 => asB (f 7) fun b_7 => asB (f 59) fun b_59 => J.a4 (f 0) (f 2) (f 4) (f 5) (f 6) b_7 b_59 h
  | _ => False
noncomputable def u213 : Cuts := [(.root, 0), ((.l (.r (.l (.r (.r (.r (.r (.r (.r (.r (.r (.r (.r (.r .root)))))))))))))), 1), ((.r (.r (.r (.r (.r (.r (.r (.r (.r (.r (.r .root))))))))))), 2), ((.r (.r (.r (.r (.r (.r (.r (.r (.r .root))))))))), 3), ((.r (.l (.r (.r (.r (.r (.r (.r (.r (.r .root)))))))))), 4)]
noncomputable def d214 : Code := Option.rec .skip (fun c => c) Go.Proofs.Tryz.f214.body
noncomputable def q214 : Plans := [(5, [0, 1, 2, 3, 4, 5, 6]), (6, [0, 1, 2, 3, 4, 5, 6, 7, 8, 9])]
structure J214 where
  a0 : AV → AV → H → Prop
noncomputable def s214_0 (c : Caller Prop FT) (k : KV) (_J : J214) (v_0 : AV) (v_1 : AV) (h : H) : Prop :=
 asG v_1 fun g1 =>
 chk (Nat.ble 1 (len g1)) <|
 Hp.newK h (rowOf 234 g1) fun p2 h3 =>
 oV (binA env .eql 103 v_0 .nilp) fun v4 =>
 asB v4 fun b5 =>
 cnd b5
 (k (.bool false) h3)
 (fAddr 0 (.ptr p2 0) fun v6 =>
 ld1 v6 h3 fun v7 =>
 asS v7 fun l8 c9 =>
 c (.func 103) [v_0, (.str l8 c9)] h3 fun v10 h11 =>
 ldn 8 (.ptr p2 0) h11 fun v12 =>
 c (.func 249) [v12] h11 fun v13 h14 =>
 stn 8 (.ptr p2 0) v13 h14 fun h15 =>
 oK (exNil v_0 h15) fun v16 h17 =>
 fAddr 0 v16 fun v18 =>
 ld1 v18 h17 fun v19 =>
 fAddr 0 (.ptr p2 0) fun v20 =>
 ld1 v20 h17 fun v21 =>
 asS v21 fun l22 c23 =>
 oK (exMapUpdate env 151 v19 (.str l22 c23) (.ptr p2 0) h17) fun _ h25 =>
 oV (binA env .eql 231 v10 .nilp) fun v26 =>
 asB v26 fun b27 =>
 joinB (fun k28 => gate false b27
 (oK (exNil v10 h25) fun v31 h32 =>
 ldn 8 v31 h32 fun v33 =>
 ldn 8 (.ptr p2 0) h32 fun v34 =>
 c (.func 250) [v33, v34] h32 fun v35 h36 =>
 asB v35 fun b37 =>
 k28 b37 h36)
 (k28 true h25)) fun b30 h29 =>
 k (.bool b30) h29)
noncomputable def z214 : J214 := ⟨fun _ _ _ => False⟩
noncomputable def r214 (c : Caller Prop FT) (k : KV) (m : Nat) : J214 := Nat.rec z214 (fun _ J => ⟨s214_0 c k J⟩) m
noncomputable def f214 (J : J214) : Jump := fun L f h => match L with
  | 0 => J.a0 (f 0) (f 1) h
  | _ => False
noncomputable def u214 : Cuts := [(.root, 0)]
noncomputable def d215 : Code := Option.rec .skip (fun c => c) Go.Proofs.Tryz.f215.body
noncomputable def q215 : Plans := []
structure J215 where
  a0 : Nat → Nat → H → Prop
noncomputable def s215_0 (_c : Caller Prop FT) (k : KV) (_J : J215) (l_0 : Nat) (c_0 : Nat) (h : H) : Prop :=
 joinB (fun k1 => gate false (strEq l_0 c_0 7 28259022560191844)
 (k1 (strEq l_0 c_0 8 6872287750339845983) h)
 (k1 true h)) fun b3 h2 =>
 joinB (fun k4 => gate false b3
 (k4 (strEq l_0 c_0 8 6872287758930173791) h2)
 (k4 true h2)) fun b6 h5 =>
 joinB (fun k7 => gate false b6
 (k7 (strEq l_0 c_0 11 115298113898262507942207327) h5)
 (k7 true h5)) fun b9 h8 =>
 k (.bool b9) h8
noncomputable def z215 : J215 := ⟨fun _ _ _ => False⟩
noncomputable def r215 (c : Caller Prop FT) (k : KV) (m : Nat) : J215 := Nat.rec z215 (fun _ J => ⟨s215_0 c k J⟩) m
noncomputable def f215 (J : J215) : Jump := fun L f h => match L with
  | 0 => asS (f 0) fun l_0 c_0 => J.a0 l_0 c_0 h
  | _ => False
noncomputable def u215 : Cuts := [(.root, 0)]
noncomputable def d216 : Code := Option.rec .skip (fun c => c) Go.Proofs.Tryz.f216.body
noncomputable def q216 : Plans := []
noncomputable def u216 : Cuts := [(.root, 0)]
noncomputable def d217 : Code := Option.rec .skip (fun c => c) Go.Proofs.Tryz.f217.body
noncomputable def q217 : Plans := []
noncomputable def u217 : Cuts := [(.root, 0), ((.lab (.r .root) 0), 1)]
noncomputable def d218 : Code := Option.rec .skip (fun c => c) Go.Proofs.Tryz.f218.body
noncomputable def q218 : Plans := []
structure J218 where
  a0 : AV → H → Prop
noncomputable def s218_0 (c : Caller Prop FT) (k : KV) (_J : J218) (v_0 : AV) (h : H) : Prop :=
 oK (exNil v_0 h) fun v1 h2 =>
 fAddr 0 v1 fun v3 =>
 c (.func 253) [v3] h2 fun v4 h5 =>
 asI .i64 v4 fun n6 =>
 k (.int .i64 n6) h5
noncomputable def z218 : J218 := ⟨fun _ _ => False⟩
noncomputable def r218 (c : Caller Prop FT) (k : KV) (m : Nat) : J218 := Nat.rec z218 (fun _ J => ⟨s218_0 c k J⟩) m
noncomputable def f218 (J : J218) : Jump := fun L f h => match L with
  | 0 => J.a0 (f 0) h
  | _ => False
noncomputable def u218 : Cuts := [(.root, 0)]
noncomputable def d219 : Code := Option.rec .skip (fun c => c) Go.Proofs.Tryz.f219.body
noncomputable def q219 : Plans := []
structure J219 where
  a0 : AV → Int → Int → H → Prop
noncomputable def s219_0 (c : Caller Prop FT) (k : KV) (_J : J219) (v_0 : AV) (n_1 : Int) (n_2 : Int) (h : H) : Prop :=
 oK (exNil v_0 h) fun v1 h2 =>
 fAddr 0 v1 fun v3 =>
 c (.func 254) [v3, (.int .i64 n_1), (.int .i64 n_2)] h2 fun v4 h5 =>
 asB v4 fun b6 =>
 k (.bool b6) h5
noncomputable def z219 : J219 := ⟨fun _ _ _ _ => False⟩
noncomputable def r219 (c : Caller Prop FT) (k : KV) (m : Nat) : J219 := Nat.rec z219 (fun _ J => ⟨s219_0 c k J⟩) m
noncomputable def f219 (J : J219) : Jump := fun L f h => match L with
  | 0 => asI .i64 (f 1) fun n_1 => asI .i64 (f 2) fun n_2 => J.a0 (f 0) n_1 n_2 h
  | _ => False
noncomputable def u219 : Cuts := [(.root, 0)]
noncomputable def d220 : Code := Option.rec .skip (fun c => c) Go.Proofs.Tryz.f220.body
noncomputable def q220 : Plans := [(1, [0, 1, 2, 3, 4, 5, 6, 7, 8])]
noncomputable def u220 : Cuts := [(.root, 0)]
noncomputable def d221 : Code := Option.rec .skip (fun c => c) Go.Proofs.Tryz.f221.body
noncomputable def q221 : Plans := []
structure J221 where
  a0 : AV → H → Prop
  a1 : AV → AV → Int → Int → H → Prop
noncomputable def s221_0 (_c : Caller Prop FT) (_k : KV) (J : J221) (v_0 : AV) (h : H) : Prop :=
 oK (withElem env 34 (fun e ei => exBuildSlice 5 [(0, (.str 0 0)), (1, (.str 1 76)), (2, (.str 1 117)), (3, (.str 1 85)), (4, (.str 2 14453))] h e ei)) fun v1 h2 =>
 lenV v1 fun m3 =>
 J.a1 v_0 v1 (Int.ofNat m3) (Int.ofNat 0) h2
noncomputable def s221_1 (c : Caller Prop FT) (k : KV) (J : J221) (v_0 : AV) (v_6 : AV) (n_7 : Int) (n_8 : Int) (h : H) : Prop :=
 cnd (iblt n_8 n_7)
 (natI n_8 fun m4 =>
 elemA 1 m4 v_6 fun v5 =>
 ld1 v5 h fun v6 =>
 asS v6 fun l7 c8 =>
 c (.func 180) [v_0, (.int .i64 (Int.ofNat l7))] h fun v9 h10 =>
 asI .u8 v9 fun n11 =>
 c (.func 177) [v_0, (.str l7 c8)] h10 fun v12 h13 =>
 asB v12 fun b14 =>
 joinB (fun k15 => gate true b14
 (joinB (fun k18 => gate false (ibeq n11 (Int.ofNat 34))
 (joinB (fun k21 => gate true (ibeq n11 (Int.ofNat 39))
 (k21 (bnot (strEq l7 c8 2 14453)) h13)
 (k21 false h13)) fun b23 h22 =>
 k18 b23 h22)
 (k18 true h13)) fun b20 h19 =>
 k15 b20 h19)
 (k15 false h13)) fun b17 h16 =>
 cnd b17
 (k (.int .i64 (Int.ofNat l7)) h16)
 (fI (wrap .i64 (iadd n_8 (Int.ofNat 1))) fun n24 =>
 J.a1 v_0 v_6 n_7 n24 h16))
 (k (.int .i64 (Int.negSucc 0)) h)
noncomputable def z221 : J221 := ⟨fun _ _ => False, fun _ _ _ _ _ => False⟩
noncomputable def r221 (c : Caller Prop FT) (k : KV) (m : Nat) : J221 := Nat.rec z221 (fun _ J => ⟨s221_0 c k J, s221_1 c k J⟩) m
noncomputable def f221 (J : J221) : Jump := fun L f h => match L with
  | 0 => J.a0 (f 0) h
  | 1 => asI .i64 (f 7) fun n_7 => asI .i64 (f 8) fun n_8 => J.a1 (f 0) (f 6) n_7 n_8 h
  | _ => False
noncomputable def u221 : Cuts := [(.root, 0), ((.l (.r (.l (.r .root)))), 1)]
noncomputable def d222 : Code := Option.rec .skip (fun c => c) Go.Proofs.Tryz.f222.body
noncomputable def q222 : Plans := [(3, [0, 1, 2, 3, 4, 5, 6, 7, 8, 9, 10, 11]), (9, [0, 1, 2, 3, 4, 5, 6, 7, 8, 9, 10, 11, 12, 13, 14, 15, 16, 17, 18, 19])]
noncomputable def u222 : Cuts := [(.root, 0), ((.l (.r (.l (.r (.r .root))))), 1), ((.r (.r (.l (.l (.r (.l (.r (.r .root)))))))), 2)]
noncomputable def d223 : Code := Option.rec .skip (fun c => c) Go.Proofs.Tryz.f223.body
noncomputable def q223 : Plans := []
noncomputable def u223 : Cuts := [(.root, 0), ((.r (.r (.r (.r (.l (.r (.l (.r .root)))))))), 1)]
noncomputable def d224 : Code := Option.rec .skip (fun c => c) Go.Proofs.Tryz.f224.body
noncomputable def q224 : Plans := []
noncomputable def u224 : Cuts := [(.root, 0), ((.r (.r .root)), 1)]
noncomputable def d225 : Code := Option.rec .skip (fun c => c) Go.Proofs.Tryz.f225.body
noncomputable def q225 : Plans := []
noncomputable def u225 : Cuts := [(.root, 0)]
noncomputable def d226 : Code := Option.rec .skip (fun c => c) Go.Proofs.Tryz.f226.body
noncomputable def q226 : Plans := []
noncomputable def u226 : Cuts := [(.root, 0)]
noncomputable def d227 : Code := Option.rec .skip (fun c => c) Go.Proofs.Tryz.f227.body
noncomputable def q227 : Plans := []
structure J227 where
  a0 : AV → Nat → Nat → H → Prop
noncomputable def s227_0 (c : Caller Prop FT) (k : KV) (_J : J227) (v_0 : AV) (l_1 : Nat) (c_1 : Nat) (h : H) : Prop :=
 asG v_0 fun g1 =>
 chk (Nat.ble 1 (len g1)) <|
 Hp.newK h (rowOf 234 g1) fun p2 h3 =>
 fAddr 3 (.ptr p2 0) fun v4 =>
 ld1 v4 h3 fun v5 =>
 c (.func 260) [v5, (.str l_1 c_1)] h3 fun v6 h7 =>
 asI .i64 v6 fun n8 =>
 k (.int .i64 n8) h7
noncomputable def z227 : J227 := ⟨fun _ _ _ _ => False⟩
noncomputable def r227 (c : Caller Prop FT) (k : KV) (m : Nat) : J227 := Nat.rec z227 (fun _ J => ⟨s227_0 c k J⟩) m
noncomputable def f227 (J : J227) : Jump := fun L f h => match L with
  | 0 => asS (f 1) fun l_1 c_1 => J.a0 (f 0) l_1 c_1 h
  | _ => False
noncomputable def u227 : Cuts := [(.root, 0)]
noncomputable def d228 : Code := Option.rec .skip (fun c => c) Go.Proofs.Tryz.f228.body
noncomputable def q228 : Plans := []
structure J228 where
  a0 : AV → H → Prop
noncomputable def s228_0 (c : Caller Prop FT) (k : KV) (_J : J228) (v_0 : AV) (h : H) : Prop :=
 asG v_0 fun g1 =>
 chk (Nat.ble 1 (len g1)) <|
 Hp.newK h (rowOf 45 g1) fun p2 h3 =>
 ldn 8 (.ptr p2 0) h3 fun v4 =>
 c (.func 104) [v4, (.str 2 8995)] h3 fun v5 h6 =>
 asB v5 fun b7 =>
 joinB (fun k8 => gate false b7
 (ldn 8 (.ptr p2 0) h6 fun v11 =>
 c (.func 104) [v11, (.str 4 975518245)] h6 fun v12 h13 =>
 asB v12 fun b14 =>
 k8 b14 h13)
 (k8 true h6)) fun b10 h9 =>
 k (.bool b10) h9
noncomputable def z228 : J228 := ⟨fun _ _ => False⟩
noncomputable def r228 (c : Caller Prop FT) (k : KV) (m : Nat) : J228 := Nat.rec z228 (fun _ J => ⟨s228_0 c k J⟩) m
noncomputable def f228 (J : J228) : Jump := fun L f h => match L with
  | 0 => J.a0 (f 0) h
  | _ => False
noncomputable def u228 : Cuts := [(.root, 0)]
noncomputable def d229 : Code := Option.rec .skip (fun c => c) Go.Proofs.Tryz.f229.body
noncomputable def q229 : Plans := []
structure J229 where
  a0 : AV → Int → H → Prop
noncomputable def s229_0 (c : Caller Prop FT) (k : KV) (_J : J229) (v_0 : AV) (n_1 : Int) (h : H) : Prop :=
 oK (exNil v_0 h) fun v1 h2 =>
 fAddr 1 v1 fun v3 =>
 ld1 v3 h2 fun v4 =>
 asB v4 fun b5 =>
 joinB (fun k6 => gate true b5
 (oK (exNil v_0 h2) fun v9 h10 =>
 fAddr 4 v9 fun v11 =>
 ld1 v11 h10 fun v12 =>
 natI n_1 fun m13 =>
 elemA 8 m13 v12 fun v14 =>
 ldn 8 v14 h10 fun v15 =>
 c (.func 115) [v15] h10 fun v16 h17 =>
 asB v16 fun b18 =>
 k6 b18 h17)
 (k6 false h2)) fun b8 h7 =>
 joinB (fun k19 => gate true b8
 (fI (wrap .i64 (iadd n_1 (Int.ofNat 1))) fun n22 =>
 oK (exNil v_0 h7) fun v23 h24 =>
 fAddr 4 v23 fun v25 =>
 ld1 v25 h24 fun v26 =>
 lenV v26 fun m27 =>
 k19 (iblt n22 (Int.ofNat m27)) h24)
 (k19 false h7)) fun b21 h20 =>
 joinB (fun k28 => gate true b21
 (oK (exNil v_0 h20) fun v31 h32 =>
 fAddr 4 v31 fun v33 =>
 ld1 v33 h32 fun v34 =>
 fI (wrap .i64 (iadd n_1 (Int.ofNat 1))) fun n35 =>
 natI n35 fun m36 =>
 elemA 8 m36 v34 fun v37 =>
 ldn 8 v37 h32 fun v38 =>
 c (.func 192) [v_0, v38] h32 fun v39 h40 =>
 asI .i64 v39 fun n41 =>
 k28 (ible (Int.ofNat 0) n41) h40)
 (k28 false h20)) fun b30 h29 =>
 k (.bool b30) h29
noncomputable def z229 : J229 := ⟨fun _ _ _ => False⟩
noncomputable def r229 (c : Caller Prop FT) (k : KV) (m : Nat) : J229 := Nat.rec z229 (fun _ J => ⟨s229_0 c k J⟩) m
noncomputable def f229 (J : J229) : Jump := fun L f h => match L with
  | 0 => asI .i64 (f 1) fun n_1 => J.a0 (f 0) n_1 h
  | _ => False
noncomputable def u229 : Cuts := [(.root, 0)]
noncomputable def d230 : Code := Option.rec .skip (fun c => c) Go.Proofs.Tryz.f230.body
noncomputable def q230 : Plans := []
noncomputable def u230 : Cuts := [(.root, 0), ((.l (.r (.l (.r (.r (.r .root)))))), 1), ((.r (.r (.l (.l (.r (.r (.l (.l (.r (.l (.r (.r (.r .root))))))))))))), 2)]
noncomputable def d231 : Code := Option.rec .skip (fun c => c) Go.Proofs.Tryz.f231.body
noncomputable def q231 : Plans := []
structure J231 where
  a0 : AV → H → Prop
  a1 : AV → AV → Int → Int → H → Prop
noncomputable def s231_0 (_c : Caller Prop FT) (_k : KV) (J : J231) (v_0 : AV) (h : H) : Prop :=
 lenV v_0 fun m1 =>
 J.a1 .nils v_0 (Int.ofNat m1) (Int.ofNat 0) h
noncomputable def s231_1 (c : Caller Prop FT) (k : KV) (J : J231) (v_2 : AV) (v_5 : AV) (n_6 : Int) (n_7 : Int) (h : H) : Prop :=
 cnd (iblt n_7 n_6)
 (natI n_7 fun m2 =>
 elemA 8 m2 v_5 fun v3 =>
 ldn 8 v3 h fun v4 =>
 Hp.newK h ob45 fun p5 h6 =>
 stn 8 (.ptr p5 0) v4 h6 fun h7 =>
 fAddr 7 (.ptr p5 0) fun v8 =>
 ld1 v8 h7 fun v9 =>
 c (.func 52) [v9] h7 fun v10 h11 =>
 fAddr 7 (.ptr p5 0) fun v12 =>
 st1 v12 v10 h11 fun h13 =>
 ldn 8 (.ptr p5 0) h13 fun v14 =>
 oK (withElem env 32 (fun e ei => exBuildSlice 1 [(0, v14)] h13 e ei)) fun v15 h16 =>
 oK (builtinA env .append [32, 32] [v_2, v15] h16) fun v17 h18 =>
 fI (wrap .i64 (iadd n_7 (Int.ofNat 1))) fun n19 =>
 J.a1 v17 v_5 n_6 n19 h18)
 (k v_2 h)
noncomputable def z231 : J231 := ⟨fun _ _ => False, fun _ _ _ _ _ => False⟩
noncomputable def r231 (c : Caller Prop FT) (k : KV) (m : Nat) : J231 := Nat.rec z231 (fun _ J => ⟨s231_0 c k J, s231_1 c k J⟩) m
noncomputable def f231 (J : J231) : Jump := fun L f h => match L with
  | 0 => J.a0 (f 0) h
  | 1 => asI .i64 (f 6) fun n_6 => asI .i64 (f 7) fun n_7 => J.a1 (f 2) (f 5) n_6 n_7 h
  | _ => False
noncomputable def u231 : Cuts := [(.root, 0), ((.l (.r (.l (.r .root)))), 1)]
noncomputable def d232 : Code := Option.rec .skip (fun c => c) Go.Proofs.Tryz.f232.body
noncomputable def q232 : Plans := [(4, [0, 1, 2, 3, 4, 5, 7, 6, 8, 9, 10, 11, 12, 13, 14])]
noncomputable def u232 : Cuts := [(.root, 0)]
noncomputable def d234 : Code := Option.rec .skip (fun c => c) Go.Proofs.Tryz.f234.body
noncomputable def q234 : Plans := []
noncomputable def u234 : Cuts := [(.root, 0), ((.l (.r (.l (.r (.r .root))))), 1), ((.l (.r (.l (.r (.r (.r (.r .root))))))), 2), ((.r (.l (.l (.r (.l (.l (.r (.l (.r (.r (.r (.r .root)))))))))))), 3)]
noncomputable def d236 : Code := Option.rec .skip (fun c => c) Go.Proofs.Tryz.f236.body
noncomputable def q236 : Plans := []
structure J236 where
  a0 : AV → H → Prop
noncomputable def s236_0 (c : Caller Prop FT) (k : KV) (_J : J236) (v_0 : AV) (h : H) : Prop :=
 oK (exNil v_0 h) fun v1 h2 =>
 fAddr 0 v1 fun v3 =>
 c (.func 262) [v3] h2 fun _ h5 =>
 k (.tuple []) h5
noncomputable def z236 : J236 := ⟨fun _ _ => False⟩
noncomputable def r236 (c : Caller Prop FT) (k : KV) (m : Nat) : J236 := Nat.rec z236 (fun _ J => ⟨s236_0 c k J⟩) m
noncomputable def f236 (J : J236) : Jump := fun L f h => match L with
  | 0 => J.a0 (f 0) h
  | _ => False
noncomputable def u236 : Cuts := [(.root, 0)]
noncomputable def d237 : Code := Option.rec .skip (fun c => c) Go.Proofs.Tryz.f237.body
noncomputable def q237 : Plans := []
structure J237 where
  a0 : AV → H → Prop
noncomputable def s237_0 (c : Caller Prop FT) (k : KV) (_J : J237) (v_0 : AV) (h : H) : Prop :=
 oK (exNil v_0 h) fun v1 h2 =>
 fAddr 0 v1 fun v3 =>
 c (.func 263) [v3] h2 fun _ h5 =>
 k (.tuple []) h5
noncomputable def z237 : J237 := ⟨fun _ _ => False⟩
noncomputable def r237 (c : Caller Prop FT) (k : KV) (m : Nat) : J237 := Nat.rec z237 (fun _ J => ⟨s237_0 c k J⟩) m
noncomputable def f237 (J : J237) : Jump := fun L f h => match L with
  | 0 => J.a0 (f 0) h
  | _ => False
noncomputable def u237 : Cuts := [(.root, 0)]
noncomputable def d238 : Code := Option.rec .skip (fun c => c) Go.Proofs.Tryz.f238.body
noncomputable def q238 : Plans := [(0, [0, 1, 2, 3, 4, 5])]
structure J238 where
  a0 : AV → Bool → H → Prop
noncomputable def s238_0 (c : Caller Prop FT) (k : KV) (_J : J238) (v_0 : AV) (b_1 : Bool) (h : H) : Prop :=
 oK (exNil v_0 h) fun v1 h2 =>
 fAddr 0 v1 fun v3 =>
 c (.func 265) [(.bool b_1)] h2 fun v4 h5 =>
 asI .u32 v4 fun n6 =>
 c (.func 264) [v3, (.int .u32 n6)] h5 fun _ h8 =>
 k (.tuple []) h8
noncomputable def z238 : J238 := ⟨fun _ _ _ => False⟩
noncomputable def r238 (c : Caller Prop FT) (k : KV) (m : Nat) : J238 := Nat.rec z238 (fun _ J => ⟨s238_0 c k J⟩) m
noncomputable def f238 (J : J238) : Jump := fun L f h => match L with
  | 0 => asB (f 1) fun b_1 => J.a0 (f 0) b_1 h
  | _ => False
noncomputable def u238 : Cuts := [(.root, 0)]
noncomputable def d239 : Code := Option.rec .skip (fun c => c) Go.Proofs.Tryz.f239.body
noncomputable def q239 : Plans := []
noncomputable def u239 : Cuts := [(.root, 0)]
noncomputable def d240 : Code := Option.rec .skip (fun c => c) Go.Proofs.Tryz.f240.body
noncomputable def q240 : Plans := []
noncomputable def u240 : Cuts := [(.root, 0), ((.r (.r (.r (.r (.r (.r (.r (.r .root)))))))), 1), ((.r (.l (.r (.r (.r (.r (.r (.r (.r .root))))))))), 2)]
noncomputable def d241 : Code := Option.rec .skip (fun c => c) Go.Proofs.Tryz.f241.body
noncomputable def q241 : Plans := []
noncomputable def u241 : Cuts := [(.root, 0)]
noncomputable def d242 : Code := Option.rec .skip (fun c => c) Go.Proofs.Tryz.f242.body
noncomputable def q242 : Plans := []
noncomputable def u242 : Cuts := [(.root, 0)]
noncomputable def d243 : Code := Option.rec .skip (fun c => c) Go.Proofs.Tryz.f243.body
noncomputable def q243 : Plans := [(11, [0, 1, 2, 3, 4, 5, 6, 7, 8]), (15, [0, 1, 2, 3, 4, 5, 6, 7, 8])]
noncomputable def u243 : Cuts := [(.root, 0), ((.r (.l (.r (.r (.r (.r (.r (.r (.r (.r .root)))))))))), 1)]
noncomputable def d244 : Code := Option.rec .skip (fun c => c) Go.Proofs.Tryz.f244.body
noncomputable def q244 : Plans := []
noncomputable def u244 : Cuts := [(.root, 0)]
noncomputable def d245 : Code := Option.rec .skip (fun c => c) Go.Proofs.Tryz.f245.body
noncomputable def q245 : Plans := []
noncomputable def u245 : Cuts := [(.root, 0)]
noncomputable def d246 : Code := Option.rec .skip (fun c => c) Go.Proofs.Tryz.f246.body
noncomputable def q246 : Plans := [(1, [0, 1, 2, 3, 4, 5, 6])]
noncomputable def u246 : Cuts := [(.root, 0)]
noncomputable def d247 : Code := Option.rec .skip (fun c => c) Go.Proofs.Tryz.f247.body
noncomputable def q247 : Plans := []
structure J247 where
  a0 : AV → AV → H → Prop
  a1 : AV → AV → Nat → Nat → H → Prop
  a2 : AV → AV → H → Prop
  a3 : AV → AV → Nat → Nat → H → Prop
noncomputable def s247_0 (c : Caller Prop FT) (k : KV) (J : J247) (v_0 : AV) (v_1 : AV) (h : H) : Prop :=
 lenV v_1 fun m1 =>
 joinB (fun k2 => gate true (iblt (Int.ofNat 0) (Int.ofNat m1))
 (elemA 8 0 v_1 fun v5 =>
 ldn 8 v5 h fun v6 =>
 c (.func 104) [v6, (.str 1 41)] h fun v7 h8 =>
 asB v7 fun b9 =>
 k2 b9 h8)
 (k2 false h)) fun b4 h3 =>
 cnd b4
 (oK (slice3 env h3 32 v_1 (some (natOf (.int .i64 (Int.ofNat 1)))) none none) fun v10 h11 =>
 k (.tuple [v10, (.bool true)]) h11)
 (lenV v_1 fun m12 =>
 joinB (fun k13 => gate false (iblt (Int.ofNat m12) (Int.ofNat 2))
 (oK (exNil v_0 h3) fun v16 h17 =>
 fAddr 2 v16 fun v18 =>
 ld1 v18 h17 fun v19 =>
 asB v19 fun b20 =>
 k13 b20 h17)
 (k13 true h3)) fun b15 h14 =>
 cnd b15
 (k (.tuple [.nils, (.bool false)]) h14)
 (elemA 8 0 v_1 fun v21 =>
 fAddr 1 v21 fun v22 =>
 ld1 v22 h14 fun v23 =>
 asS v23 fun l24 c25 =>
 elemA 8 0 v_1 fun v26 =>
 ldn 8 v26 h14 fun v27 =>
 c (.func 104) [v27, (.str 3 3026478)] h14 fun v28 h29 =>
 asB v28 fun b30 =>
 cnd b30
 (oK (exNil v_0 h29) fun v31 h32 =>
 fAddr 2 v31 fun v33 =>
 st1 v33 (.bool true) h32 fun h34 =>
 J.a1 v_0 v_1 11 115298113898262507942207327 h34)
 (elemA 8 0 v_1 fun v35 =>
 fAddr 0 v35 fun v36 =>
 ld1 v36 h29 fun v37 =>
 asI .i64 v37 fun n38 =>
 joinB (fun k39 => gate false (bnot (ibeq n38 (Int.ofNat 1)))
 (k39 (strEq l24 c25 11 115298113898262507942207327) h29)
 (k39 true h29)) fun b41 h40 =>
 joinB (fun k42 => gate false b41
 (oK (exNil v_0 h40) fun v45 h46 =>
 ldn 8 v45 h46 fun v47 =>
 c (.func 227) [v47, (.str l24 c25)] h46 fun v48 h49 =>
 asI .i64 v48 fun n50 =>
 k42 (ible (Int.ofNat 0) n50) h49)
 (k42 true h40)) fun b44 h43 =>
 cnd b44
 (k (.tuple [.nils, (.bool false)]) h43)
 (J.a1 v_0 v_1 l24 c25 h43))))
noncomputable def s247_1 (c : Caller Prop FT) (k : KV) (J : J247) (v_0 : AV) (v_1 : AV) (l_6 : Nat) (c_6 : Nat) (h : H) : Prop :=
 oK (exNil v_0 h) fun v51 h52 =>
 fAddr 3 v51 fun v53 =>
 ld1 v53 h52 fun v54 =>
 oK (withElem env 34 (fun e ei => exBuildSlice 1 [(0, (.str l_6 c_6))] h52 e ei)) fun v55 h56 =>
 oK (builtinA env .append [34, 34] [v54, v55] h56) fun v57 h58 =>
 oK (exNil v_0 h58) fun v59 h60 =>
 fAddr 3 v59 fun v61 =>
 st1 v61 v57 h60 fun h62 =>
 elemA 8 1 v_1 fun v63 =>
 ldn 8 v63 h62 fun v64 =>
 c (.func 104) [v64, (.str 1 41)] h62 fun v65 h66 =>
 asB v65 fun b67 =>
 cnd b67
 (oK (slice3 env h66 32 v_1 (some (natOf (.int .i64 (Int.ofNat 2)))) none none) fun v68 h69 =>
 k (.tuple [v68, (.bool true)]) h69)
 (elemA 8 1 v_1 fun v70 =>
 ldn 8 v70 h66 fun v71 =>
 c (.func 104) [v71, (.str 1 44)] h66 fun v72 h73 =>
 asB v72 fun b74 =>
 cnd b74
 (oK (slice3 env h73 32 v_1 (some (natOf (.int .i64 (Int.ofNat 2)))) none none) fun v75 h76 =>
 J.a2 v_0 v75 h76)
 (k (.tuple [.nils, (.bool false)]) h73))
noncomputable def s247_2 (c : Caller Prop FT) (k : KV) (J : J247) (v_0 : AV) (v_1 : AV) (h : H) : Prop :=
 lenV v_1 fun m77 =>
 joinB (fun k78 => gate false (iblt (Int.ofNat m77) (Int.ofNat 2))
 (oK (exNil v_0 h) fun v81 h82 =>
 fAddr 2 v81 fun v83 =>
 ld1 v83 h82 fun v84 =>
 asB v84 fun b85 =>
 k78 b85 h82)
 (k78 true h)) fun b80 h79 =>
 cnd b80
 (k (.tuple [.nils, (.bool false)]) h79)
 (elemA 8 0 v_1 fun v86 =>
 fAddr 1 v86 fun v87 =>
 ld1 v87 h79 fun v88 =>
 asS v88 fun l89 c90 =>
 elemA 8 0 v_1 fun v91 =>
 ldn 8 v91 h79 fun v92 =>
 c (.func 104) [v92, (.str 3 3026478)] h79 fun v93 h94 =>
 asB v93 fun b95 =>
 cnd b95
 (oK (exNil v_0 h94) fun v96 h97 =>
 fAddr 2 v96 fun v98 =>
 st1 v98 (.bool true) h97 fun h99 =>
 J.a3 v_0 v_1 11 115298113898262507942207327 h99)
 (elemA 8 0 v_1 fun v100 =>
 fAddr 0 v100 fun v101 =>
 ld1 v101 h94 fun v102 =>
 asI .i64 v102 fun n103 =>
 joinB (fun k104 => gate false (bnot (ibeq n103 (Int.ofNat 1)))
 (k104 (strEq l89 c90 11 115298113898262507942207327) h94)
 (k104 true h94)) fun b106 h105 =>
 joinB (fun k107 => gate false b106
 (oK (exNil v_0 h105) fun v110 h111 =>
 ldn 8 v110 h111 fun v112 =>
 c (.func 227) [v112, (.str l89 c90)] h111 fun v113 h114 =>
 asI .i64 v113 fun n115 =>
 k107 (ible (Int.ofNat 0) n115) h114)
 (k107 true h105)) fun b109 h108 =>
 cnd b109
 (k (.tuple [.nils, (.bool false)]) h108)
 (J.a3 v_0 v_1 l89 c90 h108)))
noncomputable def s247_3 (c : Caller Prop FT) (k : KV) (J : J247) (v_0 : AV) (v_1 : AV) (l_6 : Nat) (c_6 : Nat) (h : H) : Prop :=
 oK (exNil v_0 h) fun v116 h117 =>
 fAddr 3 v116 fun v118 =>
 ld1 v118 h117 fun v119 =>
 oK (withElem env 34 (fun e ei => exBuildSlice 1 [(0, (.str l_6 c_6))] h117 e ei)) fun v120 h121 =>
 oK (builtinA env .append [34, 34] [v119, v120] h121) fun v122 h123 =>
 oK (exNil v_0 h123) fun v124 h125 =>
 fAddr 3 v124 fun v126 =>
 st1 v126 v122 h125 fun h127 =>
 elemA 8 1 v_1 fun v128 =>
 ldn 8 v128 h127 fun v129 =>
 c (.func 104) [v129, (.str 1 41)] h127 fun v130 h131 =>
 asB v130 fun b132 =>
 cnd b132
 (oK (slice3 env h131 32 v_1 (some (natOf (.int .i64 (Int.ofNat 2)))) none none) fun v133 h134 =>
 k (.tuple [v133, (.bool true)]) h134)
 (elemA 8 1 v_1 fun v135 =>
 ldn 8 v135 h131 fun v136 =>
 c (.func 104) [v136, (.str 1 44)] h131 fun v137 h138 =>
 asB v137 fun b139 =>
 cnd b139
 (oK (slice3 env h138 32 v_1 (some (natOf (.int .i64 (Int.ofNat 2)))) none none) fun v140 h141 =>
 J.a2 v_0 v140 h141)
 (k (.tuple [.nils, (.bool false)]) h138))
noncomputable def z247 : J247 := ⟨fun _ _ _ => False, fun _ _ _ _ _ => False, fun _ _ _ => False, fun _ _ _ _ _ => False⟩
noncomputable def r247 (c : Caller Prop FT) (k : KV) (m : Nat) : J247 := Nat.rec z247 (fun _ J => ⟨s247_0 c k J, s247_1 c k J, s247_2 c k J, s247_3 c k J⟩) m
noncomputable def f247 (J : J247) : Jump := fun L f h => match L with
  | 0 => J.a0 (f 0) (f 1) h
  | 1 => asS (f 6) fun l_6 c_6 => J.a1 (f 0) (f 1) l_6 c_6 h
  | 2 => J.a2 (f 0) (f 1) h
  | 3 => asS (f 6) fun l_6 c_6 => J.a3 (f 0) (f 1) l_6 c_6 h
  | _ => False
noncomputable def u247 : Cuts := [(.root, 0), ((.r (.r (.r (.r (.r (.r (.l (.r .root)))))))), 1), ((.lab (.r .root) 0), 2), ((.r (.r (.r (.r (.lab (.r .root) 0))))), 3)]
noncomputable def d248 : Code := Option.rec .skip (fun c => c) Go.Proofs.Tryz.f248.body
noncomputable def q248 : Plans := [(1, [0, 1, 2, 3, 4, 5, 6, 7, 8, 9, 10, 11, 12, 13, 14, 15])]
structure J248 where
  a0 : AV → Int → H → Prop
noncomputable def s248_0 (c : Caller Prop FT) (k : KV) (_J : J248) (v_0 : AV) (n_1 : Int) (h : H) : Prop :=
 oK (exNil v_0 h) fun v1 h2 =>
 fAddr 4 v1 fun v3 =>
 ld1 v3 h2 fun v4 =>
 natI n_1 fun m5 =>
 elemA 8 m5 v4 fun v6 =>
 ldn 8 v6 h2 fun v7 =>
 oK (exNil v_0 h2) fun v8 h9 =>
 fAddr 4 v8 fun v10 =>
 ld1 v10 h9 fun v11 =>
 lenV v11 fun m12 =>
 fI (wrap .i64 (isub (Int.ofNat m12) (Int.ofNat 1))) fun n13 =>
 Hp.newK h9 ob45 fun p14 h15 =>
 ld1 v3 h15 fun v16 =>
 eqC v16 v4 <|
 ldn 8 v6 h15 fun v17 =>
 eqC v17 v7 <|
 ld1 v10 h15 fun v18 =>
 eqC v18 v11 <|
 stn 8 (.ptr p14 0) v7 h15 fun h19 =>
 ld1 v10 h19 fun v20 =>
 eqC v20 v11 <|
 ldn 8 (.ptr p14 0) h19 fun v21 =>
 c (.func 228) [v21] h19 fun v22 h23 =>
 asB v22 fun b24 =>
 cnd b24
 (joinB (fun k25 => gate false (ibeq n_1 (Int.ofNat 0))
 (k25 (ibeq n_1 n13) h23)
 (k25 true h23)) fun b27 h26 =>
 k (.bool b27) h26)
 (oK (exNil v_0 h23) fun v28 h29 =>
 fAddr 1 v28 fun v30 =>
 ld1 v30 h29 fun v31 =>
 asB v31 fun b32 =>
 joinB (fun k33 => gate true b32
 (ldn 8 (.ptr p14 0) h29 fun v36 =>
 c (.func 115) [v36] h29 fun v37 h38 =>
 asB v37 fun b39 =>
 k33 b39 h38)
 (k33 false h29)) fun b35 h34 =>
 cnd b35
 (joinB (fun k40 => gate false (ibeq n_1 n13)
 (oK (exNil v_0 h34) fun v43 h44 =>
 fAddr 4 v43 fun v45 =>
 ld1 v45 h44 fun v46 =>
 fI (wrap .i64 (iadd n_1 (Int.ofNat 1))) fun n47 =>
 natI n47 fun m48 =>
 elemA 8 m48 v46 fun v49 =>
 ldn 8 v49 h44 fun v50 =>
 c (.func 192) [v_0, v50] h44 fun v51 h52 =>
 asI .i64 v51 fun n53 =>
 k40 (iblt n53 (Int.ofNat 0)) h52)
 (k40 true h34)) fun b42 h41 =>
 k (.bool b42) h41)
 (fAddr 0 (.ptr p14 0) fun v54 =>
 ld1 v54 h34 fun v55 =>
 asI .i64 v55 fun n56 =>
 joinB (fun k57 => gate true (ibeq n56 (Int.ofNat 1))
 (fAddr 1 (.ptr p14 0) fun v60 =>
 ld1 v60 h34 fun v61 =>
 asS v61 fun l62 c63 =>
 k57 (strEq l62 c63 11 115298113898262507942207327) h34)
 (k57 false h34)) fun b59 h58 =>
 joinB (fun k64 => gate true b59
 (oK (exNil v_0 h58) fun v67 h68 =>
 fAddr 2 v67 fun v69 =>
 ld1 v69 h68 fun v70 =>
 asB v70 fun b71 =>
 k64 (bnot b71) h68)
 (k64 false h58)) fun b66 h65 =>
 k (.bool b66) h65))
noncomputable def z248 : J248 := ⟨fun _ _ _ => False⟩
noncomputable def r248 (c : Caller Prop FT) (k : KV) (m : Nat) : J248 := Nat.rec z248 (fun _ J => ⟨s248_0 c k J⟩) m
noncomputable def f248 (J : J248) : Jump := fun L f h => match L with
  | 0 => asI .i64 (f 1) fun n_1 => J.a0 (f 0) n_1 h
  | _ => False
noncomputable def u248 : Cuts := [(.root, 0)]
noncomputable def d249 : Code := Option.rec .skip (fun c => c) Go.Proofs.Tryz.f249.body
noncomputable def q249 : Plans := [(1, [0, 1, 3, 4, 2, 6, 5, 7, 8, 9])]
structure J249 where
  a0 : AV → H → Prop
noncomputable def s249_0 (c : Caller Prop FT) (k : KV) (_J : J249) (v_0 : AV) (h : H) : Prop :=
 asG v_0 fun g1 =>
 chk (Nat.ble 1 (len g1)) <|
 Hp.newK h (rowOf 234 g1) fun p2 h3 =>
 Hp.newK h3 ob234 fun p4 h5 =>
 fAddr 3 (.ptr p2 0) fun v6 =>
 ld1 v6 h5 fun v7 =>
 fAddr 4 (.ptr p2 0) fun v8 =>
 ld1 v8 h5 fun v9 =>
 c (.func 38) [v7] h5 fun v10 h11 =>
 ld1 v8 h11 fun v12 =>
 eqC v12 v9 <|
 fAddr 3 (.ptr p2 0) fun v13 =>
 c (.func 231) [v9] h11 fun v14 h15 =>
 st1 v13 v10 h15 fun h16 =>
 fAddr 4 (.ptr p2 0) fun v17 =>
 st1 v17 v14 h16 fun h18 =>
 ldn 8 (.ptr p2 0) h18 fun v19 =>
 stn 8 (.ptr p4 0) v19 h18 fun h20 =>
 ldn 8 (.ptr p4 0) h20 fun v21 =>
 k v21 h20
noncomputable def z249 : J249 := ⟨fun _ _ => False⟩
noncomputable def r249 (c : Caller Prop FT) (k : KV) (m : Nat) : J249 := Nat.rec z249 (fun _ J => ⟨s249_0 c k J⟩) m
noncomputable def f249 (J : J249) : Jump := fun L f h => match L with
  | 0 => J.a0 (f 0) h
  | _ => False
noncomputable def u249 : Cuts := [(.root, 0)]
noncomputable def d250 : Code := Option.rec .skip (fun c => c) Go.Proofs.Tryz.f250.body
noncomputable def q250 : Plans := []
noncomputable def u250 : Cuts := [(.root, 0)]
noncomputable def d251 : Code := Option.rec .skip (fun c => c) Go.Proofs.Tryz.f251.body
noncomputable def q251 : Plans := []
noncomputable def u251 : Cuts := [(.root, 0)]
noncomputable def d252 : Code := Option.rec .skip (fun c => c) Go.Proofs.Tryz.f252.body
noncomputable def q252 : Plans := [(5, [0, 1, 2, 3, 4, 5, 6, 7, 8, 9, 10, 11, 12, 13, 14, 15, 16]), (9, [0, 1, 2, 3, 4, 5])]
noncomputable def u252 : Cuts := [(.root, 0), ((.lab (.r .root) 1), 1), ((.lab (.r .root) 0), 2), ((.r (.l (.r (.r (.r (.r (.r (.r (.r (.l (.r .root))))))))))), 3)]
noncomputable def d255 : Code := Option.rec .skip (fun c => c) Go.Proofs.Tryz.f255.body
noncomputable def q255 : Plans := []
noncomputable def u255 : Cuts := [(.root, 0)]
noncomputable def d256 : Code := Option.rec .skip (fun c => c) Go.Proofs.Tryz.f256.body
noncomputable def q256 : Plans := []
noncomputable def u256 : Cuts := [(.root, 0)]
noncomputable def d257 : Code := Option.rec .skip (fun c => c) Go.Proofs.Tryz.f257.body
noncomputable def q257 : Plans := [(7, [0, 1, 2, 3, 4, 5, 6, 7, 8, 9, 10, 11, 12, 13, 14]), (8, [0, 1, 2, 3, 4, 5, 6, 7, 8, 9, 10, 11, 12, 13, 14]), (9, [0, 1, 2, 3, 4, 5, 6, 7, 8, 9, 10, 11, 12, 13, 14]), (10, [0, 1, 2, 3, 4, 5, 6, 7, 8, 9, 10, 11, 12, 13, 14]), (17, [0, 1, 2, 3, 4, 5, 6, 7, 8, 9, 10, 11, 12, 13, 14]), (18, [0, 1, 2, 3, 4, 5, 6, 7, 8, 9, 10, 11, 12, 13, 14]), (23, [0, 1, 2, 3, 4, 5, 6, 7, 8, 9, 10, 11, 12, 13, 14])]
noncomputable def u257 : Cuts := [(.root, 0), ((.l (.l (.r .root))), 1), ((.r (.r (.r (.r (.r .root))))), 2), ((.r (.r (.r (.r .root)))), 3), ((.r (.r (.l (.r (.l (.l (.l (.r .root)))))))), 4), ((.r (.r (.r (.r (.l (.r (.l (.l (.l (.r .root)))))))))), 5), ((.r (.r (.r (.r (.r (.r (.l (.r (.l (.l (.l (.r .root)))))))))))), 6), ((.r (.r (.r (.r (.r (.r (.r (.l (.r (.l (.l (.l (.r .root))))))))))))), 7), ((.r (.r (.r (.r (.r (.r (.r (.r (.l (.r (.l (.l (.l (.r .root)))))))))))))), 8), ((.r (.r (.r (.r (.r (.r (.r (.r (.r (.l (.r (.l (.l (.l (.r .root))))))))))))))), 9), ((.r (.l (.r (.l (.r (.r (.r .root))))))), 10), ((.r (.r (.r (.l (.r (.l (.r (.r (.r .root))))))))), 11), ((.r (.r (.r (.r (.l (.r (.l (.r (.r (.r .root)))))))))), 12), ((.r (.r (.r (.r (.r (.l (.r (.l (.r (.r (.r .root))))))))))), 13), ((.r (.r (.l (.r (.l (.r (.r (.r (.r .root))))))))), 14), ((.r (.r (.r (.l (.r (.l (.r (.r (.r (.r .root)))))))))), 15)]
noncomputable def d258 : Code := Option.rec .skip (fun c => c) Go.Proofs.Tryz.f258.body
noncomputable def q258 : Plans := []
noncomputable def u258 : Cuts := [(.root, 0), ((.l (.l (.r (.r (.r (.l (.r (.l (.r (.r (.r (.r (.r .root))))))))))))), 1), ((.l (.l (.r (.r (.r (.l (.r (.r (.r (.r (.r .root))))))))))), 2), ((.r (.r (.r (.r (.r (.r (.r .root))))))), 3), ((.r (.r (.r (.r (.r (.r .root)))))), 4), ((.r (.r (.r (.r (.r .root))))), 5), ((.r (.r .root)), 6)]
noncomputable def d260 : Code := Option.rec .skip (fun c => c) Go.Proofs.Tryz.f260.body
noncomputable def q260 : Plans := []
structure J260 where
  a0 : AV → Nat → Nat → H → Prop
  a1 : AV → Nat → Nat → Int → Int → H → Prop
noncomputable def s260_0 (_c : Caller Prop FT) (_k : KV) (J : J260) (v_0 : AV) (l_1 : Nat) (c_1 : Nat) (h : H) : Prop :=
 lenV v_0 fun m1 =>
 J.a1 v_0 l_1 c_1 (Int.ofNat m1) (Int.ofNat 0) h
noncomputable def s260_1 (_c : Caller Prop FT) (k : KV) (J : J260) (v_0 : AV) (l_1 : Nat) (c_1 : Nat) (n_7 : Int) (n_8 : Int) (h : H) : Prop :=
 cnd (iblt n_8 n_7)
 (natI n_8 fun m2 =>
 elemA 1 m2 v_0 fun v3 =>
 ld1 v3 h fun v4 =>
 asS v4 fun l5 c6 =>
 cnd (strEq l_1 c_1 l5 c6)
 (k (.int .i64 n_8) h)
 (fI (wrap .i64 (iadd n_8 (Int.ofNat 1))) fun n7 =>
 J.a1 v_0 l_1 c_1 n_7 n7 h))
 (k (.int .i64 (Int.negSucc 0)) h)
noncomputable def z260 : J260 := ⟨fun _ _ _ _ => False, fun _ _ _ _ _ _ => False⟩
noncomputable def r260 (c : Caller Prop FT) (k : KV) (m : Nat) : J260 := Nat.rec z260 (fun _ J => ⟨s260_0 c k J, s260_1 c k J⟩) m
noncomputable def f260 (J : J260) : Jump := fun L f h => match L with
  | 0 => asS (f 1) fun l_1 c_1 => J.a0 (f 0) l_1 c_1 h
  | 1 => asS (f 1) fun l_1 c_1 => asI .i64 (f 7) fun n_7 => asI .i64 (f 8) fun n_8 => J.a1 (f 0) l_1 c_1 n_7 n_8 h
  | _ => False
noncomputable def u260 : Cuts := [(.root, 0), ((.l (.r (.l (.r .root)))), 1)]
noncomputable def d261 : Code := Option.rec .skip (fun c => c) Go.Proofs.Tryz.f261.body
noncomputable def q261 : Plans := [(5, [0, 1, 2, 3, 4, 5, 6, 7, 8, 9, 10, 11, 12, 13, 14, 15, 16]), (8, [0, 1, 2, 3, 4, 5, 6, 7, 8, 9, 10, 11, 12, 13, 14, 15, 16, 17, 18, 19, 20, 21, 22, 23, 24, 25])]
noncomputable def u261 : Cuts := [(.root, 0), ((.l (.r (.l (.r (.r .root))))), 1), ((.r (.r (.r (.r (.r .root))))), 2)]
noncomputable def d262 : Code := Option.rec .skip (fun c => c) Go.Proofs.Tryz.f262.body
noncomputable def q262 : Plans := []
structure J262 where
  a0 : AV → H → Prop
noncomputable def s262_0 (c : Caller Prop FT) (k : KV) (_J : J262) (v_0 : AV) (h : H) : Prop :=
 c (.func 286) [] h fun _ h2 =>
 oK (exNil v_0 h2) fun v3 h4 =>
 fAddr 0 v3 fun v5 =>
 c (.func 287) [v5, (.int .i32 (Int.ofNat 0)), (.int .i32 (Int.ofNat 1))] h4 fun v6 h7 =>
 asB v6 fun b8 =>
 cnd b8
 (cnd true
 (c (.func 288) [] h7 fun _ h10 =>
 oK (convA env h10 411 290 v_0) fun v11 h12 =>
 c (.func 289) [v11] h12 fun _ h14 =>
 k (.tuple []) h14)
 (k (.tuple []) h7))
 (c (.func 290) [v_0] h7 fun _ h16 =>
 k (.tuple []) h16)
noncomputable def z262 : J262 := ⟨fun _ _ => False⟩
noncomputable def r262 (c : Caller Prop FT) (k : KV) (m : Nat) : J262 := Nat.rec z262 (fun _ J => ⟨s262_0 c k J⟩) m
noncomputable def f262 (J : J262) : Jump := fun L f h => match L with
  | 0 => J.a0 (f 0) h
  | _ => False
noncomputable def u262 : Cuts := [(.root, 0)]
noncomputable def d263 : Code := Option.rec .skip (fun c => c) Go.Proofs.Tryz.f263.body
noncomputable def q263 : Plans := []
structure J263 where
  a0 : AV → H → Prop
  a1 : AV → H → Prop
noncomputable def s263_0 (c : Caller Prop FT) (_k : KV) (J : J263) (v_0 : AV) (h : H) : Prop :=
 cnd true
 (oK (exNil v_0 h) fun v1 h2 =>
 fAddr 0 v1 fun v3 =>
 ld1 v3 h2 fun v4 =>
 asI .i32 v4 fun _ =>
 oK (convA env h2 411 290 v_0) fun v6 h7 =>
 c (.func 291) [v6] h7 fun _ h9 =>
 c (.func 286) [] h9 fun _ h11 =>
 J.a1 v_0 h11)
 (J.a1 v_0 h)
noncomputable def s263_1 (c : Caller Prop FT) (k : KV) (_J : J263) (v_0 : AV) (h : H) : Prop :=
 oK (exNil v_0 h) fun v12 h13 =>
 fAddr 0 v12 fun v14 =>
 c (.func 292) [v14, (.int .i32 (Int.negSucc 0))] h13 fun v15 h16 =>
 asI .i32 v15 fun n17 =>
 cnd (bnot (ibeq n17 (Int.ofNat 0)))
 (c (.func 293) [v_0, (.int .i32 n17)] h16 fun _ h19 =>
 c (.func 288) [] h19 fun _ h21 =>
 k (.tuple []) h21)
 (c (.func 288) [] h16 fun _ h23 =>
 k (.tuple []) h23)
noncomputable def z263 : J263 := ⟨fun _ _ => False, fun _ _ => False⟩
noncomputable def r263 (c : Caller Prop FT) (k : KV) (m : Nat) : J263 := Nat.rec z263 (fun _ J => ⟨s263_0 c k J, s263_1 c k J⟩) m
noncomputable def f263 (J : J263) : Jump := fun L f h => match L with
  | 0 => J.a0 (f 0) h
  | 1 => J.a1 (f 0) h
  | _ => False
noncomputable def u263 : Cuts := [(.root, 0), ((.r .root), 1)]
noncomputable def d265 : Code := Option.rec .skip (fun c => c) Go.Proofs.Tryz.f265.body
noncomputable def q265 : Plans := []
structure J265 where
  a0 : Bool → H → Prop
noncomputable def s265_0 (_c : Caller Prop FT) (k : KV) (_J : J265) (b_0 : Bool) (h : H) : Prop :=
 cnd b_0
 (k (.int .u32 (Int.ofNat 1)) h)
 (k (.int .u32 (Int.ofNat 0)) h)
noncomputable def z265 : J265 := ⟨fun _ _ => False⟩
noncomputable def r265 (c : Caller Prop FT) (k : KV) (m : Nat) : J265 := Nat.rec z265 (fun _ J => ⟨s265_0 c k J⟩) m
noncomputable def f265 (J : J265) : Jump := fun L f h => match L with
  | 0 => asB (f 0) fun b_0 => J.a0 b_0 h
  | _ => False
noncomputable def u265 : Cuts := [(.root, 0)]
noncomputable def d266 : Code := Option.rec .skip (fun c => c) Go.Proofs.Tryz.f266.body
noncomputable def q266 : Plans := [(7, [0, 1, 2, 3, 4, 5, 6, 8, 7, 9, 10])]
noncomputable def u266 : Cuts := [(.root, 0), ((.l (.l (.r (.r .root)))), 1)]
noncomputable def d267 : Code := Option.rec .skip (fun c => c) Go.Proofs.Tryz.f267.body
noncomputable def q267 : Plans := [(1, [0, 1, 2, 3, 4, 5, 6, 7, 8, 9, 10, 11, 12, 13, 14, 15, 16, 17, 18, 19, 20, 21, 22, 23, 24])]
noncomputable def u267 : Cuts := [(.root, 0)]
noncomputable def d268 : Code := Option.rec .skip (fun c => c) Go.Proofs.Tryz.f268.body
noncomputable def q268 : Plans := []
noncomputable def u268 : Cuts := [(.root, 0)]
noncomputable def d269 : Code := Option.rec .skip (fun c => c) Go.Proofs.Tryz.f269.body
noncomputable def q269 : Plans := []
noncomputable def u269 : Cuts := [(.root, 0)]
noncomputable def d271 : Code := Option.rec .skip (fun c => c) Go.Proofs.Tryz.f271.body
noncomputable def q271 : Plans := []
noncomputable def u271 : Cuts := [(.root, 0)]
noncomputable def d272 : Code := Option.rec .skip (fun c => c) Go.Proofs.Tryz.f272.body
noncomputable def q272 : Plans := []
noncomputable def u272 : Cuts := [(.root, 0)]
noncomputable def d273 : Code := Option.rec .skip (fun c => c) Go.Proofs.Tryz.f273.body
noncomputable def q273 : Plans := [(4294967294, [4]), (4294967295, [38])]
noncomputable def lp273_0 : LpS := lpOf q273 (codeAt d273 (.l (.r (.l (.r (.r (.l (.r .root))))))))
noncomputable def u273 : Cuts := [(.root, 0), ((.lab (.r .root) 0), 1)]
noncomputable def d274 : Code := Option.rec .skip (fun c => c) Go.Proofs.Tryz.f274.body
noncomputable def q274 : Plans := [(6, [0, 1, 2, 3, 4, 5, 6, 7, 8])]
noncomputable def u274 : Cuts := [(.root, 0), ((.l (.r (.l (.r (.r .root))))), 1)]
noncomputable def d275 : Code := Option.rec .skip (fun c => c) Go.Proofs.Tryz.f275.body
noncomputable def q275 : Plans := []
noncomputable def u275 : Cuts := [(.root, 0), ((.l (.r (.l (.r (.r .root))))), 1)]
noncomputable def d277 : Code := Option.rec .skip (fun c => c) Go.Proofs.Tryz.f277.body
noncomputable def q277 : Plans := [(4, [0, 1, 2, 4, 5, 3, 6, 7])]
noncomputable def u277 : Cuts := [(.root, 0)]
noncomputable def d278 : Code := Option.rec .skip (fun c => c) Go.Proofs.Tryz.f278.body
noncomputable def q278 : Plans := []
noncomputable def u278 : Cuts := [(.root, 0)]
noncomputable def d279 : Code := Option.rec .skip (fun c => c) Go.Proofs.Tryz.f279.body
noncomputable def q279 : Plans := []
noncomputable def u279 : Cuts := [(.root, 0), ((.l (.r (.l (.r .root)))), 1)]
noncomputable def d280 : Code := Option.rec .skip (fun c => c) Go.Proofs.Tryz.f280.body
noncomputable def q280 : Plans := []
noncomputable def u280 : Cuts := [(.root, 0), ((.l (.r (.l (.r (.r (.r (.r (.r (.r (.r .root)))))))))), 1), ((.r (.r (.r (.r (.r .root))))), 2)]
noncomputable def d281 : Code := Option.rec .skip (fun c => c) Go.Proofs.Tryz.f281.body
noncomputable def q281 : Plans := []
noncomputable def u281 : Cuts := [(.root, 0)]
noncomputable def d282 : Code := Option.rec .skip (fun c => c) Go.Proofs.Tryz.f282.body
noncomputable def q282 : Plans := []
noncomputable def u282 : Cuts := [(.root, 0)]
noncomputable def d283 : Code := Option.rec .skip (fun c => c) Go.Proofs.Tryz.f283.body
noncomputable def q283 : Plans := []
noncomputable def u283 : Cuts := [(.root, 0)]
noncomputable def d284 : Code := Option.rec .skip (fun c => c) Go.Proofs.Tryz.f284.body
noncomputable def q284 : Plans := []
noncomputable def u284 : Cuts := [(.root, 0)]
noncomputable def d290 : Code := Option.rec .skip (fun c => c) Go.Proofs.Tryz.f290.body
noncomputable def q290 : Plans := []
noncomputable def u290 : Cuts := [(.root, 0), ((.l (.l (.r (.r (.r (.r (.r .root))))))), 1), ((.r (.l (.r (.l (.l (.l (.l (.l (.r (.r (.r (.r (.r .root))))))))))))), 2), ((.r (.l (.r (.l (.r (.r (.r (.r (.r (.l (.l (.l (.l (.r (.r (.r (.r (.r .root)))))))))))))))))), 3), ((.r (.r (.r (.l (.r (.l (.r (.r (.r (.r (.r (.r (.l (.r (.r (.r (.r (.r (.r (.r (.l (.l (.l (.l (.r (.r (.r (.r (.r .root))))))))))))))))))))))))))))), 4), ((.r (.l (.r (.l (.r (.r (.r (.r (.r (.r (.l (.r (.r (.r (.r (.r (.r (.r (.l (.l (.l (.l (.r (.r (.r (.r (.r .root))))))))))))))))))))))))))), 5), ((.r (.r (.r (.l (.r (.r (.r (.r (.r (.r (.r (.l (.l (.l (.l (.r (.r (.r (.r (.r .root)))))))))))))))))))), 6), ((.r (.r (.r (.r (.r (.r (.l (.l (.l (.l (.r (.r (.r (.r (.r .root))))))))))))))), 7), ((.r (.r (.r (.r (.r (.l (.l (.l (.l (.r (.r (.r (.r (.r .root)))))))))))))), 8), ((.r (.r (.r (.r (.l (.l (.l (.l (.r (.r (.r (.r (.r .root))))))))))))), 9), ((.r (.r (.r (.l (.l (.l (.l (.r (.r (.r (.r (.r .root)))))))))))), 10), ((.r (.r (.r (.r (.r (.r .root)))))), 11)]
noncomputable def d293 : Code := Option.rec .skip (fun c => c) Go.Proofs.Tryz.f293.body
noncomputable def q293 : Plans := []
noncomputable def u293 : Cuts := [(.root, 0), ((.l (.r (.l (.r (.r .root))))), 1), ((.r .root), 2)]
noncomputable def d294 : Code := Option.rec .skip (fun c => c) Go.Proofs.Tryz.f294.body
noncomputable def q294 : Plans := []
noncomputable def u294 : Cuts := [(.root, 0)]
noncomputable def d295 : Code := Option.rec .skip (fun c => c) Go.Proofs.Tryz.f295.body
noncomputable def q295 : Plans := [(1, [0, 1, 2, 3, 4, 5, 6, 7, 8, 9, 10, 11, 12, 13, 14, 15, 16, 17, 18, 19, 20, 21, 22, 23]), (3, [0, 1, 2, 3, 4, 5, 6, 7, 8, 9, 10, 11])]
noncomputable def u295 : Cuts := [(.root, 0), ((.l (.r (.l (.r (.r (.r .root)))))), 1)]
noncomputable def d296 : Code := Option.rec .skip (fun c => c) Go.Proofs.Tryz.f296.body
noncomputable def q296 : Plans := []
noncomputable def u296 : Cuts := [(.root, 0)]
noncomputable def d297 : Code := Option.rec .skip (fun c => c) Go.Proofs.Tryz.f297.body
noncomputable def q297 : Plans := []
noncomputable def u297 : Cuts := [(.root, 0), ((.r (.r (.r (.r (.r (.r (.r (.r (.r (.r (.r (.r (.r (.r (.r (.l (.r (.l (.r (.r (.r .root))))))))))))))))))))), 1), ((.r (.r (.r (.r (.r (.r (.r (.r (.r (.r (.r (.r (.r (.l (.r (.l (.r (.r (.r .root))))))))))))))))))), 2)]
noncomputable def d298 : Code := Option.rec .skip (fun c => c) Go.Proofs.Tryz.f298.body
noncomputable def q298 : Plans := []
noncomputable def u298 : Cuts := [(.root, 0)]
noncomputable def d299 : Code := Option.rec .skip (fun c => c) Go.Proofs.Tryz.f299.body
noncomputable def q299 : Plans := []
noncomputable def u299 : Cuts := [(.root, 0)]
noncomputable def d300 : Code := Option.rec .skip (fun c => c) Go.Proofs.Tryz.f300.body
noncomputable def q300 : Plans := []
noncomputable def u300 : Cuts := [(.root, 0)]
noncomputable def d301 : Code := Option.rec .skip (fun c => c) Go.Proofs.Tryz.f301.body
noncomputable def q301 : Plans := []
noncomputable def u301 : Cuts := [(.root, 0), ((.l (.r (.l (.r .root)))), 1)]
noncomputable def d302 : Code := Option.rec .skip (fun c => c) Go.Proofs.Tryz.f302.body
noncomputable def q302 : Plans := []
noncomputable def u302 : Cuts := [(.root, 0), ((.r (.l (.r (.l (.r (.r (.r .root))))))), 1), ((.l (.r (.l (.r (.r (.r (.r .root))))))), 2), ((.r (.r (.l (.l (.r (.r (.l (.l (.r (.l (.r (.r (.r (.r .root)))))))))))))), 3), ((.l (.r (.l (.r (.r (.r (.r (.r (.r (.r (.r .root))))))))))), 4), ((.r (.r (.r (.r .root)))), 5)]
noncomputable def d303 : Code := Option.rec .skip (fun c => c) Go.Proofs.Tryz.f303.body
noncomputable def q303 : Plans := []
noncomputable def u303 : Cuts := [(.root, 0), ((.l (.l (.r .root))), 1)]
noncomputable def d304 : Code := Option.rec .skip (fun c => c) Go.Proofs.Tryz.f304.body
noncomputable def q304 : Plans := []
noncomputable def u304 : Cuts := [(.root, 0), ((.l (.l (.r .root))), 1)]
noncomputable def d305 : Code := Option.rec .skip (fun c => c) Go.Proofs.Tryz.f305.body
noncomputable def q305 : Plans := []
noncomputable def u305 : Cuts := [(.root, 0), ((.l (.r (.l (.r .root)))), 1)]
noncomputable def d306 : Code := Option.rec .skip (fun c => c) Go.Proofs.Tryz.f306.body
noncomputable def q306 : Plans := []
noncomputable def u306 : Cuts := [(.root, 0), ((.l (.l (.r .root))), 1)]
noncomputable def d307 : Code := Option.rec .skip (fun c => c) Go.Proofs.Tryz.f307.body
noncomputable def q307 : Plans := []
noncomputable def u307 : Cuts := [(.root, 0), ((.l (.l (.r .root))), 1)]
noncomputable def d308 : Code := Option.rec .skip (fun c => c) Go.Proofs.Tryz.f308.body
noncomputable def q308 : Plans := []
noncomputable def u308 : Cuts := [(.root, 0), ((.l (.l (.r .root))), 1)]
noncomputable def d309 : Code := Option.rec .skip (fun c => c) Go.Proofs.Tryz.f309.body
noncomputable def q309 : Plans := []
noncomputable def u309 : Cuts := [(.root, 0), ((.l (.l (.r .root))), 1), ((.r (.r (.l (.r (.l (.l (.l (.r .root)))))))), 2)]
noncomputable def d310 : Code := Option.rec .skip (fun c => c) Go.Proofs.Tryz.f310.body
noncomputable def q310 : Plans := []
noncomputable def u310 : Cuts := [(.root, 0), ((.l (.r (.l (.r (.r (.r (.l (.r (.l (.r (.r .root))))))))))), 1), ((.r (.r (.r (.r (.r (.l (.r (.l (.r (.r .root)))))))))), 2), ((.r (.r (.l (.r (.l (.r (.r .root))))))), 3)]
noncomputable def d311 : Code := Option.rec .skip (fun c => c) Go.Proofs.Tryz.f311.body
noncomputable def q311 : Plans := []
noncomputable def u311 : Cuts := [(.root, 0)]
noncomputable def d312 : Code := Option.rec .skip (fun c => c) Go.Proofs.Tryz.f312.body
noncomputable def q312 : Plans := []
noncomputable def u312 : Cuts := [(.root, 0)]
noncomputable def d313 : Code := Option.rec .skip (fun c => c) Go.Proofs.Tryz.f313.body
noncomputable def q313 : Plans := []
noncomputable def u313 : Cuts := [(.root, 0), ((.l (.r (.l (.r (.r .root))))), 1), ((.l (.r (.l (.r (.r (.r (.r (.l (.r (.l (.r (.r (.r .root))))))))))))), 2), ((.r (.r (.l (.r (.r (.l (.l (.r (.l (.l (.r (.l (.r (.r (.r (.r (.l (.r (.l (.r (.r (.r .root)))))))))))))))))))))), 3), ((.r (.r (.l (.l (.r (.l (.r (.r (.r (.r (.l (.r (.l (.r (.r (.r .root)))))))))))))))), 4), ((.r (.r (.r .root))), 5)]
noncomputable def d314 : Code := Option.rec .skip (fun c => c) Go.Proofs.Tryz.f314.body
noncomputable def q314 : Plans := [(6, [0, 1, 2, 3, 4, 5, 6]), (7, [0, 1, 2, 3, 4, 5, 6, 7, 8]), (14, [0, 1, 2, 3, 4, 5, 6, 7, 8, 9, 10]), (31, [0, 1, 2, 3, 4, 5, 6, 7, 8, 9, 10])]
noncomputable def u314 : Cuts := [(.root, 0), ((.l (.r (.l (.l (.r (.r (.r (.l (.r .root))))))))), 1), ((.l (.l (.r (.r (.r (.r (.l (.r (.r (.r (.r (.r (.r (.l (.r .root))))))))))))))), 2), ((.l (.r (.l (.r (.l (.l (.r (.l (.l (.l (.r (.r (.r (.r (.l (.r (.r (.r (.r (.r (.r (.l (.r .root))))))))))))))))))))))), 3), ((.r (.l (.l (.r (.l (.l (.l (.r (.r (.r (.r (.l (.r (.r (.r (.r (.r (.r (.l (.r .root)))))))))))))))))))), 4), ((.lab (.l (.r (.l (.l (.l (.r (.r (.r (.r (.l (.r (.r (.r (.r (.r (.r (.l (.r .root)))))))))))))))))) 0), 5), ((.l (.r (.r (.r (.l (.r (.l (.r (.r (.r (.r (.r (.r (.r (.l (.r (.r (.r (.r (.r (.r (.l (.r .root))))))))))))))))))))))), 6), ((.l (.r (.l (.l (.r (.l (.l (.r (.l (.l (.r (.r (.r (.l (.r (.l (.r (.r (.r (.r (.r (.r (.r (.l (.r (.r (.r (.r (.r (.r (.l (.r .root)))))))))))))))))))))))))))))))), 7), ((.r (.r (.l (.l (.r (.r (.r (.l (.r (.l (.r (.r (.r (.r (.r (.r (.r (.l (.r (.r (.r (.r (.r (.r (.l (.r .root)))))))))))))))))))))))))), 8), ((.lab (.r (.l (.r (.r (.r (.r (.r (.r (.r (.l (.r (.r (.r (.r (.r (.r (.l (.r .root)))))))))))))))))) 2), 9), ((.l (.r (.lab (.r (.l (.r (.r (.r (.r (.r (.r (.r (.l (.r (.r (.r (.r (.r (.r (.l (.r .root)))))))))))))))))) 2))), 10), ((.l (.r (.l (.l (.r (.l (.l (.r (.l (.l (.r (.lab (.r (.l (.r (.r (.r (.r (.r (.r (.r (.l (.r (.r (.r (.r (.r (.r (.l (.r .root)))))))))))))))))) 2)))))))))))), 11), ((.r (.r (.l (.l (.r (.lab (.r (.l (.r (.r (.r (.r (.r (.r (.r (.l (.r (.r (.r (.r (.r (.r (.l (.r .root)))))))))))))))))) 2)))))), 12), ((.lab (.r (.r (.r (.r (.r (.r (.l (.r .root)))))))) 1), 13), ((.l (.r (.r (.r (.l (.r (.l (.r (.lab (.r (.r (.r (.r (.r (.r (.l (.r .root)))))))) 1))))))))), 14), ((.l (.r (.l (.l (.r (.l (.l (.r (.l (.l (.r (.r (.r (.l (.r (.l (.r (.lab (.r (.r (.r (.r (.r (.r (.l (.r .root)))))))) 1)))))))))))))))))), 15), ((.r (.r (.l (.l (.r (.r (.r (.l (.r (.l (.r (.lab (.r (.r (.r (.r (.r (.r (.l (.r .root)))))))) 1)))))))))))), 16), ((.lab (.r (.l (.r (.lab (.r (.r (.r (.r (.r (.r (.l (.r .root)))))))) 1)))) 2), 17), ((.l (.r (.lab (.r (.l (.r (.lab (.r (.r (.r (.r (.r (.r (.l (.r .root)))))))) 1)))) 2))), 18), ((.l (.r (.l (.l (.r (.l (.l (.r (.l (.l (.r (.lab (.r (.l (.r (.lab (.r (.r (.r (.r (.r (.r (.l (.r .root)))))))) 1)))) 2)))))))))))), 19), ((.r (.r (.l (.l (.r (.lab (.r (.l (.r (.lab (.r (.r (.r (.r (.r (.r (.l (.r .root)))))))) 1)))) 2)))))), 20), ((.r (.l (.l (.r (.r (.r (.r (.r (.r (.r (.l (.r (.r (.r (.r (.r (.r (.l (.r .root))))))))))))))))))), 21), ((.r (.r (.l (.r (.l (.r (.r (.r (.r (.r (.r (.r (.l (.r (.r (.r (.r (.r (.r (.l (.r .root))))))))))))))))))))), 22)]
noncomputable def d315 : Code := Option.rec .skip (fun c => c) Go.Proofs.Tryz.f315.body
noncomputable def q315 : Plans := []
noncomputable def u315 : Cuts := [(.root, 0)]
noncomputable def d316 : Code := Option.rec .skip (fun c => c) Go.Proofs.Tryz.f316.body
noncomputable def q316 : Plans := []
noncomputable def u316 : Cuts := [(.root, 0)]
noncomputable def d326 : Code := Option.rec .skip (fun c => c) Go.Proofs.Tryz.f326.body
noncomputable def q326 : Plans := [(2, [0, 1, 2, 3, 4, 5, 6, 7, 8, 9]), (3, [0, 1, 2, 3, 4, 5, 6, 7, 8, 9, 10, 11])]
noncomputable def u326 : Cuts := [(.root, 0), ((.r (.r (.r .root))), 1)]
noncomputable def d327 : Code := Option.rec .skip (fun c => c) Go.Proofs.Tryz.f327.body
noncomputable def q327 : Plans := []
noncomputable def u327 : Cuts := [(.root, 0)]
noncomputable def d328 : Code := Option.rec .skip (fun c => c) Go.Proofs.Tryz.f328.body
noncomputable def q328 : Plans := []
noncomputable def u328 : Cuts := [(.root, 0)]
noncomputable def d329 : Code := Option.rec .skip (fun c => c) Go.Proofs.Tryz.f329.body
noncomputable def q329 : Plans := []
noncomputable def u329 : Cuts := [(.root, 0)]
noncomputable def d330 : Code := Option.rec .skip (fun c => c) Go.Proofs.Tryz.f330.body
noncomputable def q330 : Plans := []
noncomputable def u330 : Cuts := [(.root, 0), ((.r (.r (.r .root))), 1)]
noncomputable def d331 : Code := Option.rec .skip (fun c => c) Go.Proofs.Tryz.f331.body
noncomputable def q331 : Plans := []
noncomputable def u331 : Cuts := [(.root, 0)]
noncomputable def d332 : Code := Option.rec .skip (fun c => c) Go.Proofs.Tryz.f332.body
noncomputable def q332 : Plans := [(3, [0, 1, 2, 3, 4, 5, 6, 7, 8, 9, 10, 11, 12, 13, 14, 15])]
noncomputable def u332 : Cuts := [(.root, 0), ((.l (.r .root)), 1)]
noncomputable def d333 : Code := Option.rec .skip (fun c => c) Go.Proofs.Tryz.f333.body
noncomputable def q333 : Plans := [(3, [0, 1, 2, 3, 4, 5, 6, 7, 8, 9, 10, 11, 12])]
noncomputable def u333 : Cuts := [(.root, 0), ((.r (.r .root)), 1)]
noncomputable def d334 : Code := Option.rec .skip (fun c => c) Go.Proofs.Tryz.f334.body
noncomputable def q334 : Plans := []
noncomputable def u334 : Cuts := [(.root, 0)]
noncomputable def d335 : Code := Option.rec .skip (fun c => c) Go.Proofs.Tryz.f335.body
noncomputable def q335 : Plans := []
noncomputable def u335 : Cuts := [(.root, 0)]
noncomputable def d336 : Code := Option.rec .skip (fun c => c) Go.Proofs.Tryz.f336.body
noncomputable def q336 : Plans := []
noncomputable def u336 : Cuts := [(.root, 0), ((.l (.r (.l (.r (.r (.r (.r (.r (.r (.r .root)))))))))), 1), ((.r (.r (.r (.r (.r (.r (.r (.r (.r .root))))))))), 2), ((.r (.r (.r (.r (.r (.r (.r (.r .root)))))))), 3)]
noncomputable def d337 : Code := Option.rec .skip (fun c => c) Go.Proofs.Tryz.f337.body
noncomputable def q337 : Plans := []
noncomputable def u337 : Cuts := [(.root, 0), ((.r (.r (.r (.r (.r (.r (.r (.r (.r (.r (.r (.r (.r .root))))))))))))), 1), ((.r (.r (.r (.r (.r (.r (.r (.r .root)))))))), 2), ((.r (.r (.r (.r .root)))), 3)]
noncomputable def d338 : Code := Option.rec .skip (fun c => c) Go.Proofs.Tryz.f338.body
noncomputable def q338 : Plans := [(1, [0, 1, 3, 2, 4, 5, 6])]
noncomputable def u338 : Cuts := [(.root, 0)]
noncomputable def d339 : Code := Option.rec .skip (fun c => c) Go.Proofs.Tryz.f339.body
noncomputable def q339 : Plans := [(1, [0, 1, 3, 2, 4, 5, 6])]
noncomputable def u339 : Cuts := [(.root, 0)]
noncomputable def d340 : Code := Option.rec .skip (fun c => c) Go.Proofs.Tryz.f340.body
noncomputable def q340 : Plans := []
noncomputable def u340 : Cuts := [(.root, 0)]
noncomputable def d341 : Code := Option.rec .skip (fun c => c) Go.Proofs.Tryz.f341.body
noncomputable def q341 : Plans := []
noncomputable def u341 : Cuts := [(.root, 0)]
noncomputable def d342 : Code := Option.rec .skip (fun c => c) Go.Proofs.Tryz.f342.body
noncomputable def q342 : Plans := []
noncomputable def u342 : Cuts := [(.root, 0)]
noncomputable def d343 : Code := Option.rec .skip (fun c => c) Go.Proofs.Tryz.f343.body
noncomputable def q343 : Plans := []
noncomputable def u343 : Cuts := [(.root, 0), ((.l (.r (.l (.r (.r .root))))), 1), ((.r (.r (.r (.r (.r (.r (.r (.r (.l (.r (.r (.l (.l (.r (.l (.r (.r .root))))))))))))))))), 2), ((.r (.r (.r (.r (.r (.l (.r (.r (.l (.l (.r (.l (.r (.r .root)))))))))))))), 3), ((.l (.r (.l (.r (.r (.r (.r .root))))))), 4), ((.r (.r (.r .root))), 5)]
noncomputable def d345 : Code := Option.rec .skip (fun c => c) Go.Proofs.Tryz.f345.body
noncomputable def q345 : Plans := []
noncomputable def u345 : Cuts := [(.root, 0)]
noncomputable def d348 : Code := Option.rec .skip (fun c => c) Go.Proofs.Tryz.f348.body
noncomputable def q348 : Plans := [(5, [0, 1, 2, 3, 4])]
noncomputable def u348 : Cuts := [(.root, 0), ((.r (.r (.r (.r (.r .root))))), 1)]
noncomputable def d349 : Code := Option.rec .skip (fun c => c) Go.Proofs.Tryz.f349.body
noncomputable def q349 : Plans := []
noncomputable def u349 : Cuts := [(.root, 0), ((.l (.r (.l (.r (.l (.r (.l (.r (.r (.r (.r (.r .root)))))))))))), 1), ((.r (.r (.r (.r (.r (.r .root)))))), 2)]
noncomputable def d350 : Code := Option.rec .skip (fun c => c) Go.Proofs.Tryz.f350.body
noncomputable def q350 : Plans := [(0, [0, 1, 2, 3, 4, 5, 6, 7, 9, 10, 11, 12, 13, 8, 14, 15])]
noncomputable def u350 : Cuts := [(.root, 0)]
noncomputable def d351 : Code := Option.rec .skip (fun c => c) Go.Proofs.Tryz.f351.body
noncomputable def q351 : Plans := []
noncomputable def u351 : Cuts := [(.root, 0)]
noncomputable def d352 : Code := Option.rec .skip (fun c => c) Go.Proofs.Tryz.f352.body
noncomputable def q352 : Plans := []
noncomputable def u352 : Cuts := [(.root, 0), ((.l (.r (.l (.r (.r (.r (.r (.r (.r (.r (.r (.r (.r (.r .root)))))))))))))), 1), ((.r (.r (.r (.l (.l (.r (.r (.l (.l (.r (.l (.r (.r (.r (.r (.r (.r (.r (.r (.r (.r (.r .root)))))))))))))))))))))), 2), ((.r (.r (.r (.r (.r (.r (.r (.r .root)))))))), 3), ((.r (.r (.r (.r (.r (.r .root)))))), 4), ((.r (.r (.r (.r (.r .root))))), 5)]
noncomputable def d353 : Code := Option.rec .skip (fun c => c) Go.Proofs.Tryz.f353.body
noncomputable def q353 : Plans := []
noncomputable def u353 : Cuts := [(.root, 0)]
noncomputable def d354 : Code := Option.rec .skip (fun c => c) Go.Proofs.Tryz.f354.body
noncomputable def q354 : Plans := []
noncomputable def u354 : Cuts := [(.root, 0)]
noncomputable def d355 : Code := Option.rec .skip (fun c => c) Go.Proofs.Tryz.f355.body
noncomputable def q355 : Plans := []
noncomputable def u355 : Cuts := [(.root, 0)]
noncomputable def d356 : Code := Option.rec .skip (fun c => c) Go.Proofs.Tryz.f356.body
noncomputable def q356 : Plans := []
noncomputable def u356 : Cuts := [(.root, 0)]
noncomputable def d357 : Code := Option.rec .skip (fun c => c) Go.Proofs.Tryz.f357.body
noncomputable def q357 : Plans := []
noncomputable def u357 : Cuts := [(.root, 0)]
noncomputable def d360 : Code := Option.rec .skip (fun c => c) Go.Proofs.Tryz.f360.body
noncomputable def q360 : Plans := []
noncomputable def u360 : Cuts := [(.root, 0)]
noncomputable def d361 : Code := Option.rec .skip (fun c => c) Go.Proofs.Tryz.f361.body
noncomputable def q361 : Plans := [(3, [0, 1, 2, 3]), (5, [0, 1, 2, 3, 4, 5, 6])]
noncomputable def u361 : Cuts := [(.root, 0), ((.r (.r .root)), 1)]
noncomputable def d362 : Code := Option.rec .skip (fun c => c) Go.Proofs.Tryz.f362.body
noncomputable def q362 : Plans := []
noncomputable def u362 : Cuts := [(.root, 0)]
noncomputable def d363 : Code := Option.rec .skip (fun c => c) Go.Proofs.Tryz.f363.body
noncomputable def q363 : Plans := []
noncomputable def u363 : Cuts := [(.root, 0)]
noncomputable def d365 : Code := Option.rec .skip (fun c => c) Go.Proofs.Tryz.f365.body
noncomputable def q365 : Plans := []
noncomputable def u365 : Cuts := [(.root, 0)]
noncomputable def d366 : Code := Option.rec .skip (fun c => c) Go.Proofs.Tryz.f366.body
noncomputable def q366 : Plans := []
noncomputable def u366 : Cuts := [(.root, 0), ((.l (.l (.r (.r (.r (.r (.r (.r .root)))))))), 1), ((.r (.r (.l (.l (.l (.r (.r (.r (.r (.r (.r .root))))))))))), 2), ((.r (.r (.r (.r (.r (.r .root)))))), 3), ((.r (.r (.r (.r .root)))), 4)]
noncomputable def d367 : Code := Option.rec .skip (fun c => c) Go.Proofs.Tryz.f367.body
noncomputable def q367 : Plans := []
noncomputable def u367 : Cuts := [(.root, 0)]
noncomputable def d369 : Code := Option.rec .skip (fun c => c) Go.Proofs.Tryz.f369.body
noncomputable def q369 : Plans := []
noncomputable def u369 : Cuts := [(.root, 0), ((.r (.r (.r (.l (.r (.r .root)))))), 1)]
end Go.Den
