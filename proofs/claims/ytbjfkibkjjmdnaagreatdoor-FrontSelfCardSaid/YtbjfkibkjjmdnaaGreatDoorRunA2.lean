/-
  A part of the proof: the functions, in pieces.
-/
import Derived.Test.YtbjfkibkjjmdnaaGreatDoorRunA
namespace Go.Den
set_option maxRecDepth 100000
noncomputable def d212 : Code := Option.rec .skip (fun c => c) Go.Proofs.Tryz.f212.body
noncomputable def q212 : Plans := []
structure J212 where
  a0 : AV → Nat → Nat → Nat → Nat → Bool → H → Prop
  a1 : AV → Nat → Nat → AV → Int → Int → H → Prop
  a2 : AV → Nat → Nat → AV → H → Prop
noncomputable def s212_0 (c : Caller Prop FT) (k : KV) (J : J212) (v_0 : AV) (l_1 : Nat) (c_1 : Nat) (l_2 : Nat) (c_2 : Nat) (b_3 : Bool) (h : H) : Prop :=
 oV (binA env .eql 25 v_0 .nilp) fun v1 =>
 asB v1 fun b2 =>
 cnd b2
 (k (.tuple [(.str 0 0), (.bool false)]) h)
 (oK (exNil v_0 h) fun v3 h4 =>
 fAddr 0 v3 fun v5 =>
 ld1 v5 h4 fun v6 =>
 cnd b_3
 (c (.func 38) [v6] h4 fun v7 h8 =>
 c (.func 244) [(.str l_1 c_1)] h8 fun v9 h10 =>
 asS v9 fun l11 c12 =>
 oK (withElem env 34 (fun e ei => exBuildSlice 1 [(0, (.str l11 c12))] h10 e ei)) fun v13 h14 =>
 c (.func 243) [v7, (.int .i64 (Int.ofNat 0)), v13] h14 fun v15 h16 =>
 J.a2 v_0 l_2 c_2 v15 h16)
 (J.a2 v_0 l_2 c_2 v6 h4))
noncomputable def s212_1 (c : Caller Prop FT) (k : KV) (J : J212) (v_0 : AV) (l_2 : Nat) (c_2 : Nat) (v_30 : AV) (n_31 : Int) (n_32 : Int) (h : H) : Prop :=
 cnd (iblt n_32 n_31)
 (natI n_32 fun m17 =>
 elemA 1 m17 v_30 fun v18 =>
 ld1 v18 h fun v19 =>
 asS v19 fun l20 c21 =>
 c (.func 245) [(.str l20 c21), (.str l_2 c_2)] h fun v22 h23 =>
 ext 0 v22 fun v24 =>
 asS v24 fun l25 c26 =>
 ext 1 v22 fun v27 =>
 asI .i64 v27 fun n28 =>
 oK (exNil v_0 h23) fun v29 h30 =>
 fAddr 1 v29 fun v31 =>
 ld1 v31 h30 fun v32 =>
 oK (exLookup env 89 v32 (.str l25 c26) true h30) fun v33 h34 =>
 ext 0 v33 fun _ =>
 ext 1 v33 fun v36 =>
 asB v36 fun b37 =>
 joinB (fun k38 => gate true b37
 (k38 (ibeq n28 (Int.ofNat 0)) h34)
 (k38 false h34)) fun b40 h39 =>
 cnd b40
 (k (.tuple [(.str l25 c26), (.bool true)]) h39)
 (fI (wrap .i64 (iadd n_32 (Int.ofNat 1))) fun n41 =>
 J.a1 v_0 l_2 c_2 v_30 n_31 n41 h39))
 (k (.tuple [(.str 0 0), (.bool false)]) h)
noncomputable def s212_2 (_c : Caller Prop FT) (_k : KV) (J : J212) (v_0 : AV) (l_2 : Nat) (c_2 : Nat) (v_10 : AV) (h : H) : Prop :=
 lenV v_10 fun m42 =>
 J.a1 v_0 l_2 c_2 v_10 (Int.ofNat m42) (Int.ofNat 0) h
noncomputable def z212 : J212 := ⟨fun _ _ _ _ _ _ _ => False, fun _ _ _ _ _ _ _ => False, fun _ _ _ _ _ => False⟩
noncomputable def r212 (c : Caller Prop FT) (k : KV) (m : Nat) : J212 := Nat.rec z212 (fun _ J => ⟨s212_0 c k J, s212_1 c k J, s212_2 c k J⟩) m
noncomputable def f212 (J : J212) : Jump := fun L f h => match L with
  | 0 => asS (f 1) fun l_1 c_1 => asS (f 2) fun l_2 c_2 => asB (f 3) fun b_3 => J.a0 (f 0) l_1 c_1 l_2 c_2 b_3 h
  | 1 => asS (f 2) fun l_2 c_2 => asI .i64 (f 31) fun n_31 => asI .i64 (f 32) fun n_32 => J.a1 (f 0) l_2 c_2 (f 30) n_31 n_32 h
  | 2 => asS (f 2) fun l_2 c_2 => J.a2 (f 0) l_2 c_2 (f 10) h
  | _ => False
noncomputable def u212 : Cuts := [(.root, 0), ((.l (.r (.l (.r (.r (.r (.r .root))))))), 1), ((.r (.r (.r (.r .root)))), 2)]
noncomputable def d213 : Code := Option.rec .skip (fun c => c) Go.Proofs.Tryz.f213.body
noncomputable def q213 : Plans := []
noncomputable def u213 : Cuts := [(.root, 0), ((.l (.r (.l (.r (.r (.r (.r (.r (.r (.r (.r (.r (.r (.r .root)))))))))))))), 1), ((.r (.r (.r (.r (.r (.r (.r (.r (.r (.r (.r .root))))))))))), 2), ((.r (.r (.r (.r (.r (.r (.r (.r (.r .root))))))))), 3), ((.r (.l (.r (.r (.r (.r (.r (.r (.r (.r .root)))))))))), 4)]
noncomputable def d214 : Code := Option.rec .skip (fun c => c) Go.Proofs.Tryz.f214.body
noncomputable def q214 : Plans := [(5, [0, 1, 2, 3, 4, 5, 6]), (6, [0, 1, 2, 3, 4, 5, 6, 7, 8, 9])]
noncomputable def u214 : Cuts := [(.root, 0)]
noncomputable def d215 : Code := Option.rec .skip (fun c => c) Go.Proofs.Tryz.f215.body
noncomputable def q215 : Plans := []
noncomputable def u215 : Cuts := [(.root, 0)]
noncomputable def d216 : Code := Option.rec .skip (fun c => c) Go.Proofs.Tryz.f216.body
noncomputable def q216 : Plans := []
noncomputable def u216 : Cuts := [(.root, 0)]
noncomputable def d217 : Code := Option.rec .skip (fun c => c) Go.Proofs.Tryz.f217.body
noncomputable def q217 : Plans := []
noncomputable def u217 : Cuts := [(.root, 0), ((.lab (.r .root) 0), 1)]
noncomputable def d218 : Code := Option.rec .skip (fun c => c) Go.Proofs.Tryz.f218.body
noncomputable def q218 : Plans := []
structure J218 where
  a0 : AV → H → Prop
noncomputable def s218_0 (c : Caller Prop FT) (k : KV) (_J : J218) (v_0 : AV) (h : H) : Prop :=
 oK (exNil v_0 h) fun v1 h2 =>
 fAddr 0 v1 fun v3 =>
 c (.func 253) [v3] h2 fun v4 h5 =>
 asI .i64 v4 fun n6 =>
 k (.int .i64 n6) h5
noncomputable def z218 : J218 := ⟨fun _ _ => False⟩
noncomputable def r218 (c : Caller Prop FT) (k : KV) (m : Nat) : J218 := Nat.rec z218 (fun _ J => ⟨s218_0 c k J⟩) m
noncomputable def f218 (J : J218) : Jump := fun L f h => match L with
  | 0 => J.a0 (f 0) h
  | _ => False
noncomputable def u218 : Cuts := [(.root, 0)]
noncomputable def d219 : Code := Option.rec .skip (fun c => c) Go.Proofs.Tryz.f219.body
noncomputable def q219 : Plans := []
structure J219 where
  a0 : AV → Int → Int → H → Prop
noncomputable def s219_0 (c : Caller Prop FT) (k : KV) (_J : J219) (v_0 : AV) (n_1 : Int) (n_2 : Int) (h : H) : Prop :=
 oK (exNil v_0 h) fun v1 h2 =>
 fAddr 0 v1 fun v3 =>
 c (.func 254) [v3, (.int .i64 n_1), (.int .i64 n_2)] h2 fun v4 h5 =>
 asB v4 fun b6 =>
 k (.bool b6) h5
noncomputable def z219 : J219 := ⟨fun _ _ _ _ => False⟩
noncomputable def r219 (c : Caller Prop FT) (k : KV) (m : Nat) : J219 := Nat.rec z219 (fun _ J => ⟨s219_0 c k J⟩) m
noncomputable def f219 (J : J219) : Jump := fun L f h => match L with
  | 0 => asI .i64 (f 1) fun n_1 => asI .i64 (f 2) fun n_2 => J.a0 (f 0) n_1 n_2 h
  | _ => False
noncomputable def u219 : Cuts := [(.root, 0)]
noncomputable def d220 : Code := Option.rec .skip (fun c => c) Go.Proofs.Tryz.f220.body
noncomputable def q220 : Plans := [(1, [0, 1, 2, 3, 4, 5, 6, 7, 8])]
noncomputable def u220 : Cuts := [(.root, 0)]
noncomputable def d221 : Code := Option.rec .skip (fun c => c) Go.Proofs.Tryz.f221.body
noncomputable def q221 : Plans := []
structure J221 where
  a0 : AV → H → Prop
  a1 : AV → AV → Int → Int → H → Prop
noncomputable def s221_0 (_c : Caller Prop FT) (_k : KV) (J : J221) (v_0 : AV) (h : H) : Prop :=
 oK (withElem env 34 (fun e ei => exBuildSlice 5 [(0, (.str 0 0)), (1, (.str 1 76)), (2, (.str 1 117)), (3, (.str 1 85)), (4, (.str 2 14453))] h e ei)) fun v1 h2 =>
 lenV v1 fun m3 =>
 J.a1 v_0 v1 (Int.ofNat m3) (Int.ofNat 0) h2
noncomputable def s221_1 (c : Caller Prop FT) (k : KV) (J : J221) (v_0 : AV) (v_6 : AV) (n_7 : Int) (n_8 : Int) (h : H) : Prop :=
 cnd (iblt n_8 n_7)
 (natI n_8 fun m4 =>
 elemA 1 m4 v_6 fun v5 =>
 ld1 v5 h fun v6 =>
 asS v6 fun l7 c8 =>
 c (.func 180) [v_0, (.int .i64 (Int.ofNat l7))] h fun v9 h10 =>
 asI .u8 v9 fun n11 =>
 c (.func 177) [v_0, (.str l7 c8)] h10 fun v12 h13 =>
 asB v12 fun b14 =>
 joinB (fun k15 => gate true b14
 (joinB (fun k18 => gate false (ibeq n11 (Int.ofNat 34))
 (joinB (fun k21 => gate true (ibeq n11 (Int.ofNat 39))
 (k21 (bnot (strEq l7 c8 2 14453)) h13)
 (k21 false h13)) fun b23 h22 =>
 k18 b23 h22)
 (k18 true h13)) fun b20 h19 =>
 k15 b20 h19)
 (k15 false h13)) fun b17 h16 =>
 cnd b17
 (k (.int .i64 (Int.ofNat l7)) h16)
 (fI (wrap .i64 (iadd n_8 (Int.ofNat 1))) fun n24 =>
 J.a1 v_0 v_6 n_7 n24 h16))
 (k (.int .i64 (Int.negSucc 0)) h)
noncomputable def z221 : J221 := ⟨fun _ _ => False, fun _ _ _ _ _ => False⟩
noncomputable def r221 (c : Caller Prop FT) (k : KV) (m : Nat) : J221 := Nat.rec z221 (fun _ J => ⟨s221_0 c k J, s221_1 c k J⟩) m
noncomputable def f221 (J : J221) : Jump := fun L f h => match L with
  | 0 => J.a0 (f 0) h
  | 1 => asI .i64 (f 7) fun n_7 => asI .i64 (f 8) fun n_8 => J.a1 (f 0) (f 6) n_7 n_8 h
  | _ => False
noncomputable def u221 : Cuts := [(.root, 0), ((.l (.r (.l (.r .root)))), 1)]
noncomputable def d222 : Code := Option.rec .skip (fun c => c) Go.Proofs.Tryz.f222.body
noncomputable def q222 : Plans := [(3, [0, 1, 2, 3, 4, 5, 6, 7, 8, 9, 10, 11]), (9, [0, 1, 2, 3, 4, 5, 6, 7, 8, 9, 10, 11, 12, 13, 14, 15, 16, 17, 18, 19])]
structure J222 where
  a0 : AV → Int → H → Prop
  a1 : AV → Int → Int → H → Prop
  a2 : AV → Int → Int → H → Prop
noncomputable def s222_0 (c : Caller Prop FT) (_k : KV) (J : J222) (v_0 : AV) (n_1 : Int) (h : H) : Prop :=
 c (.func 180) [v_0, (.int .i64 n_1)] h fun v1 h2 =>
 asI .u8 v1 fun n3 =>
 fI (wrap .i64 (iadd n_1 (Int.ofNat 1))) fun n4 =>
 J.a1 v_0 n3 n4 h2
noncomputable def s222_1 (c : Caller Prop FT) (k : KV) (J : J222) (v_0 : AV) (n_5 : Int) (n_6 : Int) (h : H) : Prop :=
 oK (exNil v_0 h) fun v5 h6 =>
 fAddr 2 v5 fun v7 =>
 ld1 v7 h6 fun v8 =>
 asI .i64 v8 fun n9 =>
 fI (wrap .i64 (iadd n9 n_6)) fun n10 =>
 oK (exNil v_0 h6) fun v11 h12 =>
 fAddr 1 v11 fun v13 =>
 ld1 v13 h12 fun v14 =>
 lenV v14 fun m15 =>
 cnd (iblt n10 (Int.ofNat m15))
 (c (.func 180) [v_0, (.int .i64 n_6)] h12 fun v16 h17 =>
 asI .u8 v16 fun n18 =>
 cnd (ibeq n18 (Int.ofNat 10))
 (k (.int .i64 (Int.ofNat 0)) h17)
 (cnd (ibeq n18 (Int.ofNat 92))
 (oK (exNil v_0 h17) fun v19 h20 =>
 fAddr 2 v19 fun v21 =>
 ld1 v21 h20 fun v22 =>
 asI .i64 v22 fun n23 =>
 fI (wrap .i64 (iadd n23 n_6)) fun n24 =>
 fI (wrap .i64 (iadd n24 (Int.ofNat 1))) fun n25 =>
 oK (exNil v_0 h20) fun v26 h27 =>
 fAddr 1 v26 fun v28 =>
 ld1 v28 h27 fun v29 =>
 lenV v29 fun m30 =>
 joinB (fun k31 => gate true (iblt n25 (Int.ofNat m30))
 (fI (wrap .i64 (iadd n_6 (Int.ofNat 1))) fun n34 =>
 c (.func 180) [v_0, (.int .i64 n34)] h27 fun v35 h36 =>
 asI .u8 v35 fun n37 =>
 k31 (ibeq n37 (Int.ofNat 10)) h36)
 (k31 false h27)) fun b33 h32 =>
 cnd b33
 (k (.int .i64 (Int.ofNat 0)) h32)
 (fI (wrap .i64 (iadd n_6 (Int.ofNat 1))) fun n38 =>
 J.a2 v_0 n_5 n38 h32))
 (cnd (ibeq n18 n_5)
 (fI (wrap .i64 (iadd n_6 (Int.ofNat 1))) fun n39 =>
 k (.int .i64 n39) h17)
 (J.a2 v_0 n_5 n_6 h17))))
 (k (.int .i64 (Int.ofNat 0)) h12)
noncomputable def s222_2 (_c : Caller Prop FT) (_k : KV) (J : J222) (v_0 : AV) (n_5 : Int) (n_6 : Int) (h : H) : Prop :=
 fI (wrap .i64 (iadd n_6 (Int.ofNat 1))) fun n40 =>
 J.a1 v_0 n_5 n40 h
noncomputable def z222 : J222 := ⟨fun _ _ _ => False, fun _ _ _ _ => False, fun _ _ _ _ => False⟩
noncomputable def r222 (c : Caller Prop FT) (k : KV) (m : Nat) : J222 := Nat.rec z222 (fun _ J => ⟨s222_0 c k J, s222_1 c k J, s222_2 c k J⟩) m
noncomputable def f222 (J : J222) : Jump := fun L f h => match L with
  | 0 => asI .i64 (f 1) fun n_1 => J.a0 (f 0) n_1 h
  | 1 => asI .u8 (f 5) fun n_5 => asI .i64 (f 6) fun n_6 => J.a1 (f 0) n_5 n_6 h
  | 2 => asI .u8 (f 5) fun n_5 => asI .i64 (f 6) fun n_6 => J.a2 (f 0) n_5 n_6 h
  | _ => False
noncomputable def u222 : Cuts := [(.root, 0), ((.l (.r (.l (.r (.r .root))))), 1), ((.r (.r (.l (.l (.r (.l (.r (.r .root)))))))), 2)]
noncomputable def d223 : Code := Option.rec .skip (fun c => c) Go.Proofs.Tryz.f223.body
noncomputable def q223 : Plans := []
noncomputable def u223 : Cuts := [(.root, 0), ((.r (.r (.r (.r (.l (.r (.l (.r .root)))))))), 1)]
noncomputable def d224 : Code := Option.rec .skip (fun c => c) Go.Proofs.Tryz.f224.body
noncomputable def q224 : Plans := []
noncomputable def u224 : Cuts := [(.root, 0), ((.r (.r .root)), 1)]
noncomputable def d225 : Code := Option.rec .skip (fun c => c) Go.Proofs.Tryz.f225.body
noncomputable def q225 : Plans := []
noncomputable def u225 : Cuts := [(.root, 0)]
noncomputable def d226 : Code := Option.rec .skip (fun c => c) Go.Proofs.Tryz.f226.body
noncomputable def q226 : Plans := []
noncomputable def u226 : Cuts := [(.root, 0)]
noncomputable def d227 : Code := Option.rec .skip (fun c => c) Go.Proofs.Tryz.f227.body
noncomputable def q227 : Plans := []
noncomputable def u227 : Cuts := [(.root, 0)]
noncomputable def d228 : Code := Option.rec .skip (fun c => c) Go.Proofs.Tryz.f228.body
noncomputable def q228 : Plans := []
noncomputable def u228 : Cuts := [(.root, 0)]
noncomputable def d229 : Code := Option.rec .skip (fun c => c) Go.Proofs.Tryz.f229.body
noncomputable def q229 : Plans := []
noncomputable def u229 : Cuts := [(.root, 0)]
noncomputable def d230 : Code := Option.rec .skip (fun c => c) Go.Proofs.Tryz.f230.body
noncomputable def q230 : Plans := []
noncomputable def u230 : Cuts := [(.root, 0), ((.l (.r (.l (.r (.r (.r .root)))))), 1), ((.r (.r (.l (.l (.r (.r (.l (.l (.r (.l (.r (.r (.r .root))))))))))))), 2)]
noncomputable def d231 : Code := Option.rec .skip (fun c => c) Go.Proofs.Tryz.f231.body
noncomputable def q231 : Plans := []
noncomputable def u231 : Cuts := [(.root, 0), ((.l (.r (.l (.r .root)))), 1)]
noncomputable def d232 : Code := Option.rec .skip (fun c => c) Go.Proofs.Tryz.f232.body
noncomputable def q232 : Plans := [(4, [0, 1, 2, 3, 4, 5, 7, 6, 8, 9, 10, 11, 12, 13, 14])]
noncomputable def u232 : Cuts := [(.root, 0)]
noncomputable def d234 : Code := Option.rec .skip (fun c => c) Go.Proofs.Tryz.f234.body
noncomputable def q234 : Plans := []
noncomputable def u234 : Cuts := [(.root, 0), ((.l (.r (.l (.r (.r .root))))), 1), ((.l (.r (.l (.r (.r (.r (.r .root))))))), 2), ((.r (.l (.l (.r (.l (.l (.r (.l (.r (.r (.r (.r .root)))))))))))), 3)]
noncomputable def d236 : Code := Option.rec .skip (fun c => c) Go.Proofs.Tryz.f236.body
noncomputable def q236 : Plans := []
structure J236 where
  a0 : AV → H → Prop
noncomputable def s236_0 (c : Caller Prop FT) (k : KV) (_J : J236) (v_0 : AV) (h : H) : Prop :=
 oK (exNil v_0 h) fun v1 h2 =>
 fAddr 0 v1 fun v3 =>
 c (.func 262) [v3] h2 fun _ h5 =>
 k (.tuple []) h5
noncomputable def z236 : J236 := ⟨fun _ _ => False⟩
noncomputable def r236 (c : Caller Prop FT) (k : KV) (m : Nat) : J236 := Nat.rec z236 (fun _ J => ⟨s236_0 c k J⟩) m
noncomputable def f236 (J : J236) : Jump := fun L f h => match L with
  | 0 => J.a0 (f 0) h
  | _ => False
noncomputable def u236 : Cuts := [(.root, 0)]
noncomputable def d237 : Code := Option.rec .skip (fun c => c) Go.Proofs.Tryz.f237.body
noncomputable def q237 : Plans := []
structure J237 where
  a0 : AV → H → Prop
noncomputable def s237_0 (c : Caller Prop FT) (k : KV) (_J : J237) (v_0 : AV) (h : H) : Prop :=
 oK (exNil v_0 h) fun v1 h2 =>
 fAddr 0 v1 fun v3 =>
 c (.func 263) [v3] h2 fun _ h5 =>
 k (.tuple []) h5
noncomputable def z237 : J237 := ⟨fun _ _ => False⟩
noncomputable def r237 (c : Caller Prop FT) (k : KV) (m : Nat) : J237 := Nat.rec z237 (fun _ J => ⟨s237_0 c k J⟩) m
noncomputable def f237 (J : J237) : Jump := fun L f h => match L with
  | 0 => J.a0 (f 0) h
  | _ => False
noncomputable def u237 : Cuts := [(.root, 0)]
noncomputable def d238 : Code := Option.rec .skip (fun c => c) Go.Proofs.Tryz.f238.body
noncomputable def q238 : Plans := [(0, [0, 1, 2, 3, 4, 5])]
structure J238 where
  a0 : AV → Bool → H → Prop
noncomputable def s238_0 (c : Caller Prop FT) (k : KV) (_J : J238) (v_0 : AV) (b_1 : Bool) (h : H) : Prop :=
 oK (exNil v_0 h) fun v1 h2 =>
 fAddr 0 v1 fun v3 =>
 c (.func 265) [(.bool b_1)] h2 fun v4 h5 =>
 asI .u32 v4 fun n6 =>
 c (.func 264) [v3, (.int .u32 n6)] h5 fun _ h8 =>
 k (.tuple []) h8
noncomputable def z238 : J238 := ⟨fun _ _ _ => False⟩
noncomputable def r238 (c : Caller Prop FT) (k : KV) (m : Nat) : J238 := Nat.rec z238 (fun _ J => ⟨s238_0 c k J⟩) m
noncomputable def f238 (J : J238) : Jump := fun L f h => match L with
  | 0 => asB (f 1) fun b_1 => J.a0 (f 0) b_1 h
  | _ => False
noncomputable def u238 : Cuts := [(.root, 0)]
noncomputable def d239 : Code := Option.rec .skip (fun c => c) Go.Proofs.Tryz.f239.body
noncomputable def q239 : Plans := []
noncomputable def u239 : Cuts := [(.root, 0)]
noncomputable def d240 : Code := Option.rec .skip (fun c => c) Go.Proofs.Tryz.f240.body
noncomputable def q240 : Plans := []
noncomputable def u240 : Cuts := [(.root, 0), ((.r (.r (.r (.r (.r (.r (.r (.r .root)))))))), 1), ((.r (.l (.r (.r (.r (.r (.r (.r (.r .root))))))))), 2)]
noncomputable def d241 : Code := Option.rec .skip (fun c => c) Go.Proofs.Tryz.f241.body
noncomputable def q241 : Plans := []
structure J241 where
  a0 : AV → H → Prop
noncomputable def s241_0 (c : Caller Prop FT) (k : KV) (_J : J241) (v_0 : AV) (h : H) : Prop :=
 lenV v_0 fun m1 =>
 joinB (fun k2 => gate false (bnot (ibeq (Int.ofNat m1) (Int.ofNat 1)))
 (elemA 8 0 v_0 fun v5 =>
 fAddr 0 v5 fun v6 =>
 ld1 v6 h fun v7 =>
 asI .i64 v7 fun n8 =>
 k2 (bnot (ibeq n8 (Int.ofNat 4))) h)
 (k2 true h)) fun b4 h3 =>
 cnd b4
 (k (.tuple [(.str 0 0), (.bool false)]) h3)
 (elemA 8 0 v_0 fun v9 =>
 fAddr 1 v9 fun v10 =>
 ld1 v10 h3 fun v11 =>
 asS v11 fun l12 c13 =>
 c (.func 268) [(.str l12 c13), (.str 1 34)] h3 fun v14 h15 =>
 ext 0 v14 fun v16 =>
 asS v16 fun l17 c18 =>
 ext 1 v14 fun v19 =>
 asB v19 fun b20 =>
 c (.func 269) [(.str l17 c18), (.str 1 34)] h15 fun v21 h22 =>
 ext 0 v21 fun v23 =>
 asS v23 fun l24 c25 =>
 ext 1 v21 fun v26 =>
 asB v26 fun b27 =>
 joinB (fun k28 => gate true b20
 (k28 b27 h22)
 (k28 false h22)) fun b30 h29 =>
 k (.tuple [(.str l24 c25), (.bool b30)]) h29)
noncomputable def z241 : J241 := ⟨fun _ _ => False⟩
noncomputable def r241 (c : Caller Prop FT) (k : KV) (m : Nat) : J241 := Nat.rec z241 (fun _ J => ⟨s241_0 c k J⟩) m
noncomputable def f241 (J : J241) : Jump := fun L f h => match L with
  | 0 => J.a0 (f 0) h
  | _ => False
noncomputable def u241 : Cuts := [(.root, 0)]
noncomputable def d242 : Code := Option.rec .skip (fun c => c) Go.Proofs.Tryz.f242.body
noncomputable def q242 : Plans := []
noncomputable def u242 : Cuts := [(.root, 0)]
noncomputable def d243 : Code := Option.rec .skip (fun c => c) Go.Proofs.Tryz.f243.body
noncomputable def q243 : Plans := [(11, [0, 1, 2, 3, 4, 5, 6, 7, 8]), (15, [0, 1, 2, 3, 4, 5, 6, 7, 8])]
structure J243 where
  a0 : AV → Int → AV → H → Prop
  a1 : AV → Int → AV → Int → Int → Bool → H → Prop
noncomputable def s243_0 (c : Caller Prop FT) (k : KV) (J : J243) (v_0 : AV) (n_1 : Int) (v_2 : AV) (h : H) : Prop :=
 oK (slice3 env h 34 v_0 (some (natOf (.int .i64 n_1))) none none) fun _ h2 =>
 lenV v_2 fun m3 =>
 cnd (ibeq (Int.ofNat m3) (Int.ofNat 0))
 (k v_0 h2)
 (lenV v_0 fun m4 =>
 cnd (ibeq n_1 (Int.ofNat m4))
 (oK (builtinA env .append [34, 34] [v_0, v_2] h2) fun v5 h6 =>
 k v5 h6)
 (fI (wrap .i64 (iadd (Int.ofNat m4) (Int.ofNat m3))) fun n7 =>
 oK (builtinA env .cap [34] [v_0] h2) fun v8 h9 =>
 asI .i64 v8 fun n10 =>
 cnd (iblt n10 n7)
 (oK (slice3 env h9 34 v_0 none (some (natOf (.int .i64 n_1))) none) fun v11 h12 =>
 fI (wrap .i64 (iadd (Int.ofNat m4) (Int.ofNat m3))) fun n13 =>
 fI (wrap .i64 (isub n13 n_1)) fun n14 =>
 oK (builtinA env .append [34, 3] [v11, (.int .i64 n14)] h12) fun v15 h16 =>
 oK (slice3 env h16 34 v15 (some (natOf (.int .i64 n_1))) none none) fun v17 h18 =>
 oK (builtinA env .copy [34, 34] [v17, v_2] h18) fun v19 h20 =>
 asI .i64 v19 fun _ =>
 fI (wrap .i64 (iadd n_1 (Int.ofNat m3))) fun n22 =>
 oK (slice3 env h20 34 v15 (some (natOf (.int .i64 n22))) none none) fun v23 h24 =>
 oK (slice3 env h24 34 v_0 (some (natOf (.int .i64 n_1))) none none) fun v25 h26 =>
 oK (builtinA env .copy [34, 34] [v23, v25] h26) fun v27 h28 =>
 asI .i64 v27 fun _ =>
 k v15 h28)
 (fI (wrap .i64 (iadd (Int.ofNat m4) (Int.ofNat m3))) fun n30 =>
 oK (slice3 env h9 34 v_0 none (some (natOf (.int .i64 n30))) none) fun v31 h32 =>
 fI (wrap .i64 (iadd n_1 (Int.ofNat m3))) fun n33 =>
 oK (slice3 env h32 34 v31 (some (natOf (.int .i64 n33))) none none) fun v34 h35 =>
 c (.func 270) [v_2, v34] h35 fun v36 h37 =>
 asB v36 fun b38 =>
 J.a1 v31 n_1 v_2 (Int.ofNat m3) (Int.ofNat m4) (bnot b38) h37)))
noncomputable def s243_1 (c : Caller Prop FT) (k : KV) (_J : J243) (v_0 : AV) (n_1 : Int) (v_2 : AV) (n_7 : Int) (n_8 : Int) (b_68 : Bool) (h : H) : Prop :=
 cnd b_68
 (fI (wrap .i64 (iadd n_1 n_7)) fun n39 =>
 oK (slice3 env h 34 v_0 (some (natOf (.int .i64 n39))) none none) fun v40 h41 =>
 oK (slice3 env h41 34 v_0 (some (natOf (.int .i64 n_1))) none none) fun v42 h43 =>
 oK (builtinA env .copy [34, 34] [v40, v42] h43) fun v44 h45 =>
 asI .i64 v44 fun _ =>
 oK (slice3 env h45 34 v_0 (some (natOf (.int .i64 n_1))) none none) fun v47 h48 =>
 oK (builtinA env .copy [34, 34] [v47, v_2] h48) fun v49 h50 =>
 asI .i64 v49 fun _ =>
 k v_0 h50)
 (oK (slice3 env h 34 v_0 (some (natOf (.int .i64 n_8))) none none) fun v52 h53 =>
 oK (builtinA env .copy [34, 34] [v52, v_2] h53) fun v54 h55 =>
 asI .i64 v54 fun _ =>
 oK (slice3 env h55 34 v_0 (some (natOf (.int .i64 n_1))) none none) fun v57 h58 =>
 c (.func 271) [v57, (.int .i64 n_7)] h58 fun _ h60 =>
 k v_0 h60)
noncomputable def z243 : J243 := ⟨fun _ _ _ _ => False, fun _ _ _ _ _ _ _ => False⟩
noncomputable def r243 (c : Caller Prop FT) (k : KV) (m : Nat) : J243 := Nat.rec z243 (fun _ J => ⟨s243_0 c k J, s243_1 c k J⟩) m
noncomputable def f243 (J : J243) : Jump := fun L f h => match L with
  | 0 => asI .i64 (f 1) fun n_1 => J.a0 (f 0) n_1 (f 2) h
  | 1 => asI .i64 (f 1) fun n_1 => asI .i64 (f 7) fun n_7 => asI .i64 (f 8) fun n_8 => asB (f 68) fun b_68 => J.a1 (f 0) n_1 (f 2) n_7 n_8 b_68 h
  | _ => False
noncomputable def u243 : Cuts := [(.root, 0), ((.r (.l (.r (.r (.r (.r (.r (.r (.r (.r .root)))))))))), 1)]
noncomputable def d244 : Code := Option.rec .skip (fun c => c) Go.Proofs.Tryz.f244.body
noncomputable def q244 : Plans := []
structure J244 where
  a0 : Nat → Nat → H → Prop
noncomputable def s244_0 (c : Caller Prop FT) (k : KV) (_J : J244) (l_0 : Nat) (c_0 : Nat) (h : H) : Prop :=
 c (.func 272) [(.str l_0 c_0), (.int .u8 (Int.ofNat 47))] h fun v1 h2 =>
 asI .i64 v1 fun n3 =>
 oK (builtinA env .max [3, 3] [(.int .i64 n3), (.int .i64 (Int.ofNat 0))] h2) fun v4 h5 =>
 asI .i64 v4 fun n6 =>
 natI n6 fun m7 =>
 cutS l_0 c_0 0 m7 fun l8 c9 =>
 k (.str l8 c9) h5
noncomputable def z244 : J244 := ⟨fun _ _ _ => False⟩
noncomputable def r244 (c : Caller Prop FT) (k : KV) (m : Nat) : J244 := Nat.rec z244 (fun _ J => ⟨s244_0 c k J⟩) m
noncomputable def f244 (J : J244) : Jump := fun L f h => match L with
  | 0 => asS (f 0) fun l_0 c_0 => J.a0 l_0 c_0 h
  | _ => False
noncomputable def u244 : Cuts := [(.root, 0)]
noncomputable def d245 : Code := Option.rec .skip (fun c => c) Go.Proofs.Tryz.f245.body
noncomputable def q245 : Plans := []
structure J245 where
  a0 : Nat → Nat → Nat → Nat → H → Prop
noncomputable def s245_0 (c : Caller Prop FT) (k : KV) (_J : J245) (l_0 : Nat) (c_0 : Nat) (l_1 : Nat) (c_1 : Nat) (h : H) : Prop :=
 c (.func 154) [(.str l_1 c_1), (.str 1 47)] h fun v1 h2 =>
 asB v1 fun b3 =>
 cnd b3
 (c (.func 273) [(.str l_1 c_1)] h2 fun v4 h5 =>
 ext 0 v4 fun v6 =>
 asS v6 fun l7 c8 =>
 ext 1 v4 fun v9 =>
 asI .i64 v9 fun n10 =>
 k (.tuple [(.str l7 c8), (.int .i64 n10)]) h5)
 (catS l_0 c_0 1 47 fun l11 c12 =>
 catS l11 c12 l_1 c_1 fun l13 c14 =>
 c (.func 273) [(.str l13 c14)] h2 fun v15 h16 =>
 ext 0 v15 fun v17 =>
 asS v17 fun l18 c19 =>
 ext 1 v15 fun v20 =>
 asI .i64 v20 fun n21 =>
 k (.tuple [(.str l18 c19), (.int .i64 n21)]) h16)
noncomputable def z245 : J245 := ⟨fun _ _ _ _ _ => False⟩
noncomputable def r245 (c : Caller Prop FT) (k : KV) (m : Nat) : J245 := Nat.rec z245 (fun _ J => ⟨s245_0 c k J⟩) m
noncomputable def f245 (J : J245) : Jump := fun L f h => match L with
  | 0 => asS (f 0) fun l_0 c_0 => asS (f 1) fun l_1 c_1 => J.a0 l_0 c_0 l_1 c_1 h
  | _ => False
noncomputable def u245 : Cuts := [(.root, 0)]
noncomputable def d246 : Code := Option.rec .skip (fun c => c) Go.Proofs.Tryz.f246.body
noncomputable def q246 : Plans := [(1, [0, 1, 2, 3, 4, 5, 6])]
noncomputable def u246 : Cuts := [(.root, 0)]
noncomputable def d247 : Code := Option.rec .skip (fun c => c) Go.Proofs.Tryz.f247.body
noncomputable def q247 : Plans := []
noncomputable def u247 : Cuts := [(.root, 0), ((.r (.r (.r (.r (.r (.r (.l (.r .root)))))))), 1), ((.lab (.r .root) 0), 2), ((.r (.r (.r (.r (.lab (.r .root) 0))))), 3)]
noncomputable def d248 : Code := Option.rec .skip (fun c => c) Go.Proofs.Tryz.f248.body
noncomputable def q248 : Plans := [(1, [0, 1, 2, 3, 4, 5, 6, 7, 8, 9, 10, 11, 12, 13, 14, 15])]
noncomputable def u248 : Cuts := [(.root, 0)]
noncomputable def d249 : Code := Option.rec .skip (fun c => c) Go.Proofs.Tryz.f249.body
noncomputable def q249 : Plans := [(1, [0, 1, 3, 4, 2, 6, 5, 7, 8, 9])]
noncomputable def u249 : Cuts := [(.root, 0)]
noncomputable def d250 : Code := Option.rec .skip (fun c => c) Go.Proofs.Tryz.f250.body
noncomputable def q250 : Plans := []
noncomputable def u250 : Cuts := [(.root, 0)]
noncomputable def d251 : Code := Option.rec .skip (fun c => c) Go.Proofs.Tryz.f251.body
noncomputable def q251 : Plans := []
noncomputable def u251 : Cuts := [(.root, 0)]
noncomputable def d252 : Code := Option.rec .skip (fun c => c) Go.Proofs.Tryz.f252.body
noncomputable def q252 : Plans := [(5, [0, 1, 2, 3, 4, 5, 6, 7, 8, 9, 10, 11, 12, 13, 14, 15, 16]), (9, [0, 1, 2, 3, 4, 5])]
noncomputable def u252 : Cuts := [(.root, 0), ((.lab (.r .root) 1), 1), ((.lab (.r .root) 0), 2), ((.r (.l (.r (.r (.r (.r (.r (.r (.r (.l (.r .root))))))))))), 3)]
noncomputable def d255 : Code := Option.rec .skip (fun c => c) Go.Proofs.Tryz.f255.body
noncomputable def q255 : Plans := []
noncomputable def u255 : Cuts := [(.root, 0)]
noncomputable def d256 : Code := Option.rec .skip (fun c => c) Go.Proofs.Tryz.f256.body
noncomputable def q256 : Plans := []
noncomputable def u256 : Cuts := [(.root, 0)]
noncomputable def d257 : Code := Option.rec .skip (fun c => c) Go.Proofs.Tryz.f257.body
noncomputable def q257 : Plans := [(7, [0, 1, 2, 3, 4, 5, 6, 7, 8, 9, 10, 11, 12, 13, 14]), (8, [0, 1, 2, 3, 4, 5, 6, 7, 8, 9, 10, 11, 12, 13, 14]), (9, [0, 1, 2, 3, 4, 5, 6, 7, 8, 9, 10, 11, 12, 13, 14]), (10, [0, 1, 2, 3, 4, 5, 6, 7, 8, 9, 10, 11, 12, 13, 14]), (17, [0, 1, 2, 3, 4, 5, 6, 7, 8, 9, 10, 11, 12, 13, 14]), (18, [0, 1, 2, 3, 4, 5, 6, 7, 8, 9, 10, 11, 12, 13, 14]), (23, [0, 1, 2, 3, 4, 5, 6, 7, 8, 9, 10, 11, 12, 13, 14])]
noncomputable def u257 : Cuts := [(.root, 0), ((.l (.l (.r .root))), 1), ((.r (.r (.r (.r (.r .root))))), 2), ((.r (.r (.r (.r .root)))), 3), ((.r (.r (.l (.r (.l (.l (.l (.r .root)))))))), 4), ((.r (.r (.r (.r (.l (.r (.l (.l (.l (.r .root)))))))))), 5), ((.r (.r (.r (.r (.r (.r (.l (.r (.l (.l (.l (.r .root)))))))))))), 6), ((.r (.r (.r (.r (.r (.r (.r (.l (.r (.l (.l (.l (.r .root))))))))))))), 7), ((.r (.r (.r (.r (.r (.r (.r (.r (.l (.r (.l (.l (.l (.r .root)))))))))))))), 8), ((.r (.r (.r (.r (.r (.r (.r (.r (.r (.l (.r (.l (.l (.l (.r .root))))))))))))))), 9), ((.r (.l (.r (.l (.r (.r (.r .root))))))), 10), ((.r (.r (.r (.l (.r (.l (.r (.r (.r .root))))))))), 11), ((.r (.r (.r (.r (.l (.r (.l (.r (.r (.r .root)))))))))), 12), ((.r (.r (.r (.r (.r (.l (.r (.l (.r (.r (.r .root))))))))))), 13), ((.r (.r (.l (.r (.l (.r (.r (.r (.r .root))))))))), 14), ((.r (.r (.r (.l (.r (.l (.r (.r (.r (.r .root)))))))))), 15)]
noncomputable def d258 : Code := Option.rec .skip (fun c => c) Go.Proofs.Tryz.f258.body
noncomputable def q258 : Plans := []
noncomputable def u258 : Cuts := [(.root, 0), ((.l (.l (.r (.r (.r (.l (.r (.l (.r (.r (.r (.r (.r .root))))))))))))), 1), ((.l (.l (.r (.r (.r (.l (.r (.r (.r (.r (.r .root))))))))))), 2), ((.r (.r (.r (.r (.r (.r (.r .root))))))), 3), ((.r (.r (.r (.r (.r (.r .root)))))), 4), ((.r (.r (.r (.r (.r .root))))), 5), ((.r (.r .root)), 6)]
noncomputable def d260 : Code := Option.rec .skip (fun c => c) Go.Proofs.Tryz.f260.body
noncomputable def q260 : Plans := []
noncomputable def u260 : Cuts := [(.root, 0), ((.l (.r (.l (.r .root)))), 1)]
noncomputable def d261 : Code := Option.rec .skip (fun c => c) Go.Proofs.Tryz.f261.body
noncomputable def q261 : Plans := [(5, [0, 1, 2, 3, 4, 5, 6, 7, 8, 9, 10, 11, 12, 13, 14, 15, 16]), (8, [0, 1, 2, 3, 4, 5, 6, 7, 8, 9, 10, 11, 12, 13, 14, 15, 16, 17, 18, 19, 20, 21, 22, 23, 24, 25])]
noncomputable def u261 : Cuts := [(.root, 0), ((.l (.r (.l (.r (.r .root))))), 1), ((.r (.r (.r (.r (.r .root))))), 2)]
noncomputable def d262 : Code := Option.rec .skip (fun c => c) Go.Proofs.Tryz.f262.body
noncomputable def q262 : Plans := []
structure J262 where
  a0 : AV → H → Prop
noncomputable def s262_0 (c : Caller Prop FT) (k : KV) (_J : J262) (v_0 : AV) (h : H) : Prop :=
 c (.func 286) [] h fun _ h2 =>
 oK (exNil v_0 h2) fun v3 h4 =>
 fAddr 0 v3 fun v5 =>
 c (.func 287) [v5, (.int .i32 (Int.ofNat 0)), (.int .i32 (Int.ofNat 1))] h4 fun v6 h7 =>
 asB v6 fun b8 =>
 cnd b8
 (cnd true
 (c (.func 288) [] h7 fun _ h10 =>
 oK (convA env h10 411 290 v_0) fun v11 h12 =>
 c (.func 289) [v11] h12 fun _ h14 =>
 k (.tuple []) h14)
 (k (.tuple []) h7))
 (c (.func 290) [v_0] h7 fun _ h16 =>
 k (.tuple []) h16)
noncomputable def z262 : J262 := ⟨fun _ _ => False⟩
noncomputable def r262 (c : Caller Prop FT) (k : KV) (m : Nat) : J262 := Nat.rec z262 (fun _ J => ⟨s262_0 c k J⟩) m
noncomputable def f262 (J : J262) : Jump := fun L f h => match L with
  | 0 => J.a0 (f 0) h
  | _ => False
noncomputable def u262 : Cuts := [(.root, 0)]
noncomputable def d263 : Code := Option.rec .skip (fun c => c) Go.Proofs.Tryz.f263.body
noncomputable def q263 : Plans := []
structure J263 where
  a0 : AV → H → Prop
  a1 : AV → H → Prop
noncomputable def s263_0 (c : Caller Prop FT) (_k : KV) (J : J263) (v_0 : AV) (h : H) : Prop :=
 cnd true
 (oK (exNil v_0 h) fun v1 h2 =>
 fAddr 0 v1 fun v3 =>
 ld1 v3 h2 fun v4 =>
 asI .i32 v4 fun _ =>
 oK (convA env h2 411 290 v_0) fun v6 h7 =>
 c (.func 291) [v6] h7 fun _ h9 =>
 c (.func 286) [] h9 fun _ h11 =>
 J.a1 v_0 h11)
 (J.a1 v_0 h)
noncomputable def s263_1 (c : Caller Prop FT) (k : KV) (_J : J263) (v_0 : AV) (h : H) : Prop :=
 oK (exNil v_0 h) fun v12 h13 =>
 fAddr 0 v12 fun v14 =>
 c (.func 292) [v14, (.int .i32 (Int.negSucc 0))] h13 fun v15 h16 =>
 asI .i32 v15 fun n17 =>
 cnd (bnot (ibeq n17 (Int.ofNat 0)))
 (c (.func 293) [v_0, (.int .i32 n17)] h16 fun _ h19 =>
 c (.func 288) [] h19 fun _ h21 =>
 k (.tuple []) h21)
 (c (.func 288) [] h16 fun _ h23 =>
 k (.tuple []) h23)
noncomputable def z263 : J263 := ⟨fun _ _ => False, fun _ _ => False⟩
noncomputable def r263 (c : Caller Prop FT) (k : KV) (m : Nat) : J263 := Nat.rec z263 (fun _ J => ⟨s263_0 c k J, s263_1 c k J⟩) m
noncomputable def f263 (J : J263) : Jump := fun L f h => match L with
  | 0 => J.a0 (f 0) h
  | 1 => J.a1 (f 0) h
  | _ => False
noncomputable def u263 : Cuts := [(.root, 0), ((.r .root), 1)]
noncomputable def d265 : Code := Option.rec .skip (fun c => c) Go.Proofs.Tryz.f265.body
noncomputable def q265 : Plans := []
structure J265 where
  a0 : Bool → H → Prop
noncomputable def s265_0 (_c : Caller Prop FT) (k : KV) (_J : J265) (b_0 : Bool) (h : H) : Prop :=
 cnd b_0
 (k (.int .u32 (Int.ofNat 1)) h)
 (k (.int .u32 (Int.ofNat 0)) h)
noncomputable def z265 : J265 := ⟨fun _ _ => False⟩
noncomputable def r265 (c : Caller Prop FT) (k : KV) (m : Nat) : J265 := Nat.rec z265 (fun _ J => ⟨s265_0 c k J⟩) m
noncomputable def f265 (J : J265) : Jump := fun L f h => match L with
  | 0 => asB (f 0) fun b_0 => J.a0 b_0 h
  | _ => False
noncomputable def u265 : Cuts := [(.root, 0)]
noncomputable def d266 : Code := Option.rec .skip (fun c => c) Go.Proofs.Tryz.f266.body
noncomputable def q266 : Plans := [(7, [0, 1, 2, 3, 4, 5, 6, 8, 7, 9, 10])]
noncomputable def u266 : Cuts := [(.root, 0), ((.l (.l (.r (.r .root)))), 1)]
noncomputable def d267 : Code := Option.rec .skip (fun c => c) Go.Proofs.Tryz.f267.body
noncomputable def q267 : Plans := [(1, [0, 1, 2, 3, 4, 5, 6, 7, 8, 9, 10, 11, 12, 13, 14, 15, 16, 17, 18, 19, 20, 21, 22, 23, 24])]
noncomputable def u267 : Cuts := [(.root, 0)]
noncomputable def d268 : Code := Option.rec .skip (fun c => c) Go.Proofs.Tryz.f268.body
noncomputable def q268 : Plans := []
structure J268 where
  a0 : Nat → Nat → Nat → Nat → H → Prop
noncomputable def s268_0 (c : Caller Prop FT) (k : KV) (_J : J268) (l_0 : Nat) (c_0 : Nat) (l_1 : Nat) (c_1 : Nat) (h : H) : Prop :=
 c (.func 298) [(.str l_0 c_0), (.str l_1 c_1)] h fun v1 h2 =>
 ext 0 v1 fun v3 =>
 asS v3 fun l4 c5 =>
 ext 1 v1 fun v6 =>
 asB v6 fun b7 =>
 k (.tuple [(.str l4 c5), (.bool b7)]) h2
noncomputable def z268 : J268 := ⟨fun _ _ _ _ _ => False⟩
noncomputable def r268 (c : Caller Prop FT) (k : KV) (m : Nat) : J268 := Nat.rec z268 (fun _ J => ⟨s268_0 c k J⟩) m
noncomputable def f268 (J : J268) : Jump := fun L f h => match L with
  | 0 => asS (f 0) fun l_0 c_0 => asS (f 1) fun l_1 c_1 => J.a0 l_0 c_0 l_1 c_1 h
  | _ => False
noncomputable def u268 : Cuts := [(.root, 0)]
noncomputable def d269 : Code := Option.rec .skip (fun c => c) Go.Proofs.Tryz.f269.body
noncomputable def q269 : Plans := []
structure J269 where
  a0 : Nat → Nat → Nat → Nat → H → Prop
noncomputable def s269_0 (c : Caller Prop FT) (k : KV) (_J : J269) (l_0 : Nat) (c_0 : Nat) (l_1 : Nat) (c_1 : Nat) (h : H) : Prop :=
 c (.func 299) [(.str l_0 c_0), (.str l_1 c_1)] h fun v1 h2 =>
 ext 0 v1 fun v3 =>
 asS v3 fun l4 c5 =>
 ext 1 v1 fun v6 =>
 asB v6 fun b7 =>
 k (.tuple [(.str l4 c5), (.bool b7)]) h2
noncomputable def z269 : J269 := ⟨fun _ _ _ _ _ => False⟩
noncomputable def r269 (c : Caller Prop FT) (k : KV) (m : Nat) : J269 := Nat.rec z269 (fun _ J => ⟨s269_0 c k J⟩) m
noncomputable def f269 (J : J269) : Jump := fun L f h => match L with
  | 0 => asS (f 0) fun l_0 c_0 => asS (f 1) fun l_1 c_1 => J.a0 l_0 c_0 l_1 c_1 h
  | _ => False
noncomputable def u269 : Cuts := [(.root, 0)]
noncomputable def d271 : Code := Option.rec .skip (fun c => c) Go.Proofs.Tryz.f271.body
noncomputable def q271 : Plans := []
noncomputable def u271 : Cuts := [(.root, 0)]
noncomputable def d272 : Code := Option.rec .skip (fun c => c) Go.Proofs.Tryz.f272.body
noncomputable def q272 : Plans := []
structure J272 where
  a0 : Nat → Nat → Int → H → Prop
noncomputable def s272_0 (c : Caller Prop FT) (k : KV) (_J : J272) (l_0 : Nat) (c_0 : Nat) (n_1 : Int) (h : H) : Prop :=
 c (.func 301) [(.str l_0 c_0), (.int .u8 n_1)] h fun v1 h2 =>
 asI .i64 v1 fun n3 =>
 k (.int .i64 n3) h2
noncomputable def z272 : J272 := ⟨fun _ _ _ _ => False⟩
noncomputable def r272 (c : Caller Prop FT) (k : KV) (m : Nat) : J272 := Nat.rec z272 (fun _ J => ⟨s272_0 c k J⟩) m
noncomputable def f272 (J : J272) : Jump := fun L f h => match L with
  | 0 => asS (f 0) fun l_0 c_0 => asI .u8 (f 1) fun n_1 => J.a0 l_0 c_0 n_1 h
  | _ => False
noncomputable def u272 : Cuts := [(.root, 0)]
noncomputable def d273 : Code := Option.rec .skip (fun c => c) Go.Proofs.Tryz.f273.body
noncomputable def q273 : Plans := [(4294967294, [4]), (4294967295, [38])]
noncomputable def lp273_0 : LpS := lpOf q273 (codeAt d273 (.l (.r (.l (.r (.r (.l (.r .root))))))))
structure J273 where
  a0 : Nat → Nat → H → Prop
  a1 : H → Prop
noncomputable def s273_0 (c : Caller Prop FT) (k : KV) (J : J273) (l_0 : Nat) (c_0 : Nat) (h : H) : Prop :=
 Hp.newK h ob34 fun p1 h2 =>
 c (.func 59) [(.str l_0 c_0), (.str 1 47)] h2 fun v3 h4 =>
 rangeA env c lp273_0 v3 (fset (fun _ => .top) 4 (.ptr p1 0)) h4 fun x5 h6 =>
 cnd (axEq x5 .normal)
 (ld1 (.ptr p1 0) h6 fun v7 =>
 c (.func 302) [v7, (.str 1 47)] h6 fun v8 h9 =>
 asS v8 fun l10 c11 =>
 c (.func 36) [(.str l10 c11)] h9 fun v12 h13 =>
 asB v12 fun b14 =>
 cnd b14
 (k (.tuple [(.str l10 c11), (.int .i64 (Int.ofNat 0))]) h13)
 (k (.tuple [(.str 0 0), (.int .i64 (Int.ofNat 1))]) h13))
 (cnd (axEq x5 (.goto 0))
 (J.a1 h6)
 (False))
noncomputable def s273_1 (_c : Caller Prop FT) (k : KV) (_J : J273) (h : H) : Prop :=
 k (.tuple [(.str 0 0), (.int .i64 (Int.ofNat 1))]) h
noncomputable def z273 : J273 := ⟨fun _ _ _ => False, fun _ => False⟩
noncomputable def r273 (c : Caller Prop FT) (k : KV) (m : Nat) : J273 := Nat.rec z273 (fun _ J => ⟨s273_0 c k J, s273_1 c k J⟩) m
noncomputable def f273 (J : J273) : Jump := fun L f h => match L with
  | 0 => asS (f 0) fun l_0 c_0 => J.a0 l_0 c_0 h
  | 1 => J.a1 h
  | _ => False
noncomputable def u273 : Cuts := [(.root, 0), ((.lab (.r .root) 0), 1)]
noncomputable def d274 : Code := Option.rec .skip (fun c => c) Go.Proofs.Tryz.f274.body
noncomputable def q274 : Plans := [(6, [0, 1, 2, 3, 4, 5, 6, 7, 8])]
noncomputable def u274 : Cuts := [(.root, 0), ((.l (.r (.l (.r (.r .root))))), 1)]
noncomputable def d275 : Code := Option.rec .skip (fun c => c) Go.Proofs.Tryz.f275.body
noncomputable def q275 : Plans := []
noncomputable def u275 : Cuts := [(.root, 0), ((.l (.r (.l (.r (.r .root))))), 1)]
noncomputable def d277 : Code := Option.rec .skip (fun c => c) Go.Proofs.Tryz.f277.body
noncomputable def q277 : Plans := [(4, [0, 1, 2, 4, 5, 3, 6, 7])]
noncomputable def u277 : Cuts := [(.root, 0)]
noncomputable def d278 : Code := Option.rec .skip (fun c => c) Go.Proofs.Tryz.f278.body
noncomputable def q278 : Plans := []
noncomputable def u278 : Cuts := [(.root, 0)]
noncomputable def d279 : Code := Option.rec .skip (fun c => c) Go.Proofs.Tryz.f279.body
noncomputable def q279 : Plans := []
noncomputable def u279 : Cuts := [(.root, 0), ((.l (.r (.l (.r .root)))), 1)]
noncomputable def d280 : Code := Option.rec .skip (fun c => c) Go.Proofs.Tryz.f280.body
noncomputable def q280 : Plans := []
noncomputable def u280 : Cuts := [(.root, 0), ((.l (.r (.l (.r (.r (.r (.r (.r (.r (.r .root)))))))))), 1), ((.r (.r (.r (.r (.r .root))))), 2)]
noncomputable def d281 : Code := Option.rec .skip (fun c => c) Go.Proofs.Tryz.f281.body
noncomputable def q281 : Plans := []
noncomputable def u281 : Cuts := [(.root, 0)]
noncomputable def d282 : Code := Option.rec .skip (fun c => c) Go.Proofs.Tryz.f282.body
noncomputable def q282 : Plans := []
noncomputable def u282 : Cuts := [(.root, 0)]
noncomputable def d283 : Code := Option.rec .skip (fun c => c) Go.Proofs.Tryz.f283.body
noncomputable def q283 : Plans := []
noncomputable def u283 : Cuts := [(.root, 0)]
noncomputable def d284 : Code := Option.rec .skip (fun c => c) Go.Proofs.Tryz.f284.body
noncomputable def q284 : Plans := []
noncomputable def u284 : Cuts := [(.root, 0)]
noncomputable def d290 : Code := Option.rec .skip (fun c => c) Go.Proofs.Tryz.f290.body
noncomputable def q290 : Plans := []
noncomputable def u290 : Cuts := [(.root, 0), ((.l (.l (.r (.r (.r (.r (.r .root))))))), 1), ((.r (.l (.r (.l (.l (.l (.l (.l (.r (.r (.r (.r (.r .root))))))))))))), 2), ((.r (.l (.r (.l (.r (.r (.r (.r (.r (.l (.l (.l (.l (.r (.r (.r (.r (.r .root)))))))))))))))))), 3), ((.r (.r (.r (.l (.r (.l (.r (.r (.r (.r (.r (.r (.l (.r (.r (.r (.r (.r (.r (.r (.l (.l (.l (.l (.r (.r (.r (.r (.r .root))))))))))))))))))))))))))))), 4), ((.r (.l (.r (.l (.r (.r (.r (.r (.r (.r (.l (.r (.r (.r (.r (.r (.r (.r (.l (.l (.l (.l (.r (.r (.r (.r (.r .root))))))))))))))))))))))))))), 5), ((.r (.r (.r (.l (.r (.r (.r (.r (.r (.r (.r (.l (.l (.l (.l (.r (.r (.r (.r (.r .root)))))))))))))))))))), 6), ((.r (.r (.r (.r (.r (.r (.l (.l (.l (.l (.r (.r (.r (.r (.r .root))))))))))))))), 7), ((.r (.r (.r (.r (.r (.l (.l (.l (.l (.r (.r (.r (.r (.r .root)))))))))))))), 8), ((.r (.r (.r (.r (.l (.l (.l (.l (.r (.r (.r (.r (.r .root))))))))))))), 9), ((.r (.r (.r (.l (.l (.l (.l (.r (.r (.r (.r (.r .root)))))))))))), 10), ((.r (.r (.r (.r (.r (.r .root)))))), 11)]
noncomputable def d293 : Code := Option.rec .skip (fun c => c) Go.Proofs.Tryz.f293.body
noncomputable def q293 : Plans := []
noncomputable def u293 : Cuts := [(.root, 0), ((.l (.r (.l (.r (.r .root))))), 1), ((.r .root), 2)]
noncomputable def d294 : Code := Option.rec .skip (fun c => c) Go.Proofs.Tryz.f294.body
noncomputable def q294 : Plans := []
noncomputable def u294 : Cuts := [(.root, 0)]
noncomputable def d295 : Code := Option.rec .skip (fun c => c) Go.Proofs.Tryz.f295.body
noncomputable def q295 : Plans := [(1, [0, 1, 2, 3, 4, 5, 6, 7, 8, 9, 10, 11, 12, 13, 14, 15, 16, 17, 18, 19, 20, 21, 22, 23]), (3, [0, 1, 2, 3, 4, 5, 6, 7, 8, 9, 10, 11])]
noncomputable def u295 : Cuts := [(.root, 0), ((.l (.r (.l (.r (.r (.r .root)))))), 1)]
noncomputable def d296 : Code := Option.rec .skip (fun c => c) Go.Proofs.Tryz.f296.body
noncomputable def q296 : Plans := []
noncomputable def u296 : Cuts := [(.root, 0)]
noncomputable def d297 : Code := Option.rec .skip (fun c => c) Go.Proofs.Tryz.f297.body
noncomputable def q297 : Plans := []
noncomputable def u297 : Cuts := [(.root, 0), ((.r (.r (.r (.r (.r (.r (.r (.r (.r (.r (.r (.r (.r (.r (.r (.l (.r (.l (.r (.r (.r .root))))))))))))))))))))), 1), ((.r (.r (.r (.r (.r (.r (.r (.r (.r (.r (.r (.r (.r (.l (.r (.l (.r (.r (.r .root))))))))))))))))))), 2)]
noncomputable def d298 : Code := Option.rec .skip (fun c => c) Go.Proofs.Tryz.f298.body
noncomputable def q298 : Plans := []
structure J298 where
  a0 : Nat → Nat → Nat → Nat → H → Prop
noncomputable def s298_0 (c : Caller Prop FT) (k : KV) (_J : J298) (l_0 : Nat) (c_0 : Nat) (l_1 : Nat) (c_1 : Nat) (h : H) : Prop :=
 c (.func 199) [(.str l_0 c_0), (.str l_1 c_1)] h fun v1 h2 =>
 asB v1 fun b3 =>
 cnd (bnot b3)
 (k (.tuple [(.str l_0 c_0), (.bool false)]) h2)
 (cutS l_0 c_0 l_1 l_0 fun l4 c5 =>
 k (.tuple [(.str l4 c5), (.bool true)]) h2)
noncomputable def z298 : J298 := ⟨fun _ _ _ _ _ => False⟩
noncomputable def r298 (c : Caller Prop FT) (k : KV) (m : Nat) : J298 := Nat.rec z298 (fun _ J => ⟨s298_0 c k J⟩) m
noncomputable def f298 (J : J298) : Jump := fun L f h => match L with
  | 0 => asS (f 0) fun l_0 c_0 => asS (f 1) fun l_1 c_1 => J.a0 l_0 c_0 l_1 c_1 h
  | _ => False
noncomputable def u298 : Cuts := [(.root, 0)]
noncomputable def d299 : Code := Option.rec .skip (fun c => c) Go.Proofs.Tryz.f299.body
noncomputable def q299 : Plans := []
structure J299 where
  a0 : Nat → Nat → Nat → Nat → H → Prop
noncomputable def s299_0 (c : Caller Prop FT) (k : KV) (_J : J299) (l_0 : Nat) (c_0 : Nat) (l_1 : Nat) (c_1 : Nat) (h : H) : Prop :=
 c (.func 331) [(.str l_0 c_0), (.str l_1 c_1)] h fun v1 h2 =>
 asB v1 fun b3 =>
 cnd (bnot b3)
 (k (.tuple [(.str l_0 c_0), (.bool false)]) h2)
 (fI (wrap .i64 (isub (Int.ofNat l_0) (Int.ofNat l_1))) fun n4 =>
 natI n4 fun m5 =>
 cutS l_0 c_0 0 m5 fun l6 c7 =>
 k (.tuple [(.str l6 c7), (.bool true)]) h2)
noncomputable def z299 : J299 := ⟨fun _ _ _ _ _ => False⟩
noncomputable def r299 (c : Caller Prop FT) (k : KV) (m : Nat) : J299 := Nat.rec z299 (fun _ J => ⟨s299_0 c k J⟩) m
noncomputable def f299 (J : J299) : Jump := fun L f h => match L with
  | 0 => asS (f 0) fun l_0 c_0 => asS (f 1) fun l_1 c_1 => J.a0 l_0 c_0 l_1 c_1 h
  | _ => False
noncomputable def u299 : Cuts := [(.root, 0)]
noncomputable def d300 : Code := Option.rec .skip (fun c => c) Go.Proofs.Tryz.f300.body
noncomputable def q300 : Plans := []
noncomputable def u300 : Cuts := [(.root, 0)]
noncomputable def d301 : Code := Option.rec .skip (fun c => c) Go.Proofs.Tryz.f301.body
noncomputable def q301 : Plans := []
structure J301 where
  a0 : Nat → Nat → Int → H → Prop
  a1 : Nat → Nat → Int → Int → H → Prop
noncomputable def s301_0 (_c : Caller Prop FT) (_k : KV) (J : J301) (l_0 : Nat) (c_0 : Nat) (n_1 : Int) (h : H) : Prop :=
 fI (wrap .i64 (isub (Int.ofNat l_0) (Int.ofNat 1))) fun n1 =>
 J.a1 l_0 c_0 n_1 n1 h
noncomputable def s301_1 (_c : Caller Prop FT) (k : KV) (J : J301) (l_0 : Nat) (c_0 : Nat) (n_1 : Int) (n_5 : Int) (h : H) : Prop :=
 cnd (ible (Int.ofNat 0) n_5)
 (natI n_5 fun m2 =>
 idxS l_0 c_0 m2 fun m3 =>
 cnd (ibeq (Int.ofNat m3) n_1)
 (k (.int .i64 n_5) h)
 (fI (wrap .i64 (isub n_5 (Int.ofNat 1))) fun n4 =>
 J.a1 l_0 c_0 n_1 n4 h))
 (k (.int .i64 (Int.negSucc 0)) h)
noncomputable def z301 : J301 := ⟨fun _ _ _ _ => False, fun _ _ _ _ _ => False⟩
noncomputable def r301 (c : Caller Prop FT) (k : KV) (m : Nat) : J301 := Nat.rec z301 (fun _ J => ⟨s301_0 c k J, s301_1 c k J⟩) m
noncomputable def f301 (J : J301) : Jump := fun L f h => match L with
  | 0 => asS (f 0) fun l_0 c_0 => asI .u8 (f 1) fun n_1 => J.a0 l_0 c_0 n_1 h
  | 1 => asS (f 0) fun l_0 c_0 => asI .u8 (f 1) fun n_1 => asI .i64 (f 5) fun n_5 => J.a1 l_0 c_0 n_1 n_5 h
  | _ => False
noncomputable def u301 : Cuts := [(.root, 0), ((.l (.r (.l (.r .root)))), 1)]
noncomputable def d302 : Code := Option.rec .skip (fun c => c) Go.Proofs.Tryz.f302.body
noncomputable def q302 : Plans := []
structure J302 where
  a0 : AV → Nat → Nat → H → Prop
  a1 : AV → Nat → Nat → Int → H → Prop
  a2 : AV → Nat → Nat → Int → AV → Int → Int → H → Prop
  a3 : AV → Nat → Nat → Int → Nat → Nat → AV → Int → Int → H → Prop
  a4 : Nat → Nat → AV → AV → Int → Int → H → Prop
  a5 : AV → Nat → Nat → Int → H → Prop
noncomputable def s302_0 (_c : Caller Prop FT) (k : KV) (J : J302) (v_0 : AV) (l_1 : Nat) (c_1 : Nat) (h : H) : Prop :=
 lenV v_0 fun m1 =>
 cnd (ibeq (Int.ofNat m1) (Int.ofNat 0))
 (k (.str 0 0) h)
 (cnd (ibeq (Int.ofNat m1) (Int.ofNat 1))
 (elemA 1 0 v_0 fun v2 =>
 ld1 v2 h fun v3 =>
 asS v3 fun l4 c5 =>
 k (.str l4 c5) h)
 (cnd (iblt (Int.ofNat 0) (Int.ofNat l_1))
 (lenV v_0 fun m6 =>
 fI (wrap .i64 (isub (Int.ofNat m6) (Int.ofNat 1))) fun n7 =>
 quoI .i64 (Int.ofNat 9223372036854775807) n7 fun n8 =>
 cnd (ible n8 (Int.ofNat l_1))
 (False)
 (J.a1 v_0 l_1 c_1 (Int.ofNat 0) h))
 (J.a5 v_0 l_1 c_1 (Int.ofNat 0) h)))
noncomputable def s302_1 (_c : Caller Prop FT) (_k : KV) (J : J302) (v_0 : AV) (l_1 : Nat) (c_1 : Nat) (n_5 : Int) (h : H) : Prop :=
 lenV v_0 fun m9 =>
 fI (wrap .i64 (isub (Int.ofNat m9) (Int.ofNat 1))) fun n10 =>
 fI (wrap .i64 ((Int.ofNat l_1) * n10)) fun n11 =>
 fI (wrap .i64 (iadd n_5 n11)) fun n12 =>
 J.a5 v_0 l_1 c_1 n12 h
noncomputable def s302_2 (c : Caller Prop FT) (_k : KV) (J : J302) (v_0 : AV) (l_1 : Nat) (c_1 : Nat) (n_5 : Int) (v_39 : AV) (n_40 : Int) (n_41 : Int) (h : H) : Prop :=
 cnd (iblt n_41 n_40)
 (natI n_41 fun m13 =>
 elemA 1 m13 v_39 fun v14 =>
 ld1 v14 h fun v15 =>
 asS v15 fun l16 c17 =>
 fI (wrap .i64 (isub (Int.ofNat 9223372036854775807) n_5)) fun n18 =>
 cnd (iblt n18 (Int.ofNat l16))
 (False)
 (J.a3 v_0 l_1 c_1 n_5 l16 c17 v_39 n_40 n_41 h))
 (Hp.newK h ob198 fun p19 h20 =>
 c (.func 333) [(.ptr p19 0), (.int .i64 n_5)] h20 fun _ h22 =>
 elemA 1 0 v_0 fun v23 =>
 ld1 v23 h22 fun v24 =>
 asS v24 fun l25 c26 =>
 c (.func 84) [(.ptr p19 0), (.str l25 c26)] h22 fun _ h28 =>
 oK (slice3 env h28 34 v_0 (some (natOf (.int .i64 (Int.ofNat 1)))) none none) fun v29 h30 =>
 lenV v29 fun m31 =>
 J.a4 l_1 c_1 (.ptr p19 0) v29 (Int.ofNat m31) (Int.ofNat 0) h30)
noncomputable def s302_3 (_c : Caller Prop FT) (_k : KV) (J : J302) (v_0 : AV) (l_1 : Nat) (c_1 : Nat) (n_5 : Int) (l_7 : Nat) (_c_7 : Nat) (v_39 : AV) (n_40 : Int) (n_41 : Int) (h : H) : Prop :=
 fI (wrap .i64 (iadd n_5 (Int.ofNat l_7))) fun n32 =>
 fI (wrap .i64 (iadd n_41 (Int.ofNat 1))) fun n33 =>
 J.a2 v_0 l_1 c_1 n32 v_39 n_40 n33 h
noncomputable def s302_4 (c : Caller Prop FT) (k : KV) (J : J302) (l_1 : Nat) (c_1 : Nat) (v_8 : AV) (v_63 : AV) (n_64 : Int) (n_65 : Int) (h : H) : Prop :=
 cnd (iblt n_65 n_64)
 (natI n_65 fun m34 =>
 elemA 1 m34 v_63 fun v35 =>
 ld1 v35 h fun v36 =>
 asS v36 fun l37 c38 =>
 c (.func 84) [v_8, (.str l_1 c_1)] h fun _ h40 =>
 c (.func 84) [v_8, (.str l37 c38)] h40 fun _ h42 =>
 fI (wrap .i64 (iadd n_65 (Int.ofNat 1))) fun n43 =>
 J.a4 l_1 c_1 v_8 v_63 n_64 n43 h42)
 (c (.func 81) [v_8] h fun v44 h45 =>
 asS v44 fun l46 c47 =>
 k (.str l46 c47) h45)
noncomputable def s302_5 (_c : Caller Prop FT) (_k : KV) (J : J302) (v_0 : AV) (l_1 : Nat) (c_1 : Nat) (n_5 : Int) (h : H) : Prop :=
 lenV v_0 fun m48 =>
 J.a2 v_0 l_1 c_1 n_5 v_0 (Int.ofNat m48) (Int.ofNat 0) h
noncomputable def z302 : J302 := ⟨fun _ _ _ _ => False, fun _ _ _ _ _ => False, fun _ _ _ _ _ _ _ _ => False, fun _ _ _ _ _ _ _ _ _ _ => False, fun _ _ _ _ _ _ _ => False, fun _ _ _ _ _ => False⟩
noncomputable def r302 (c : Caller Prop FT) (k : KV) (m : Nat) : J302 := Nat.rec z302 (fun _ J => ⟨s302_0 c k J, s302_1 c k J, s302_2 c k J, s302_3 c k J, s302_4 c k J, s302_5 c k J⟩) m
noncomputable def f302 (J : J302) : Jump := fun L f h => match L with
  | 0 => asS (f 1) fun l_1 c_1 => J.a0 (f 0) l_1 c_1 h
  | 1 => asS (f 1) fun l_1 c_1 => asI .i64 (f 5) fun n_5 => J.a1 (f 0) l_1 c_1 n_5 h
  | 2 => asS (f 1) fun l_1 c_1 => asI .i64 (f 5) fun n_5 => asI .i64 (f 40) fun n_40 => asI .i64 (f 41) fun n_41 => J.a2 (f 0) l_1 c_1 n_5 (f 39) n_40 n_41 h
  | 3 => asS (f 1) fun l_1 c_1 => asI .i64 (f 5) fun n_5 => asS (f 7) fun l_7 c_7 => asI .i64 (f 40) fun n_40 => asI .i64 (f 41) fun n_41 => J.a3 (f 0) l_1 c_1 n_5 l_7 c_7 (f 39) n_40 n_41 h
  | 4 => asS (f 1) fun l_1 c_1 => asI .i64 (f 64) fun n_64 => asI .i64 (f 65) fun n_65 => J.a4 l_1 c_1 (f 8) (f 63) n_64 n_65 h
  | 5 => asS (f 1) fun l_1 c_1 => asI .i64 (f 5) fun n_5 => J.a5 (f 0) l_1 c_1 n_5 h
  | _ => False
noncomputable def u302 : Cuts := [(.root, 0), ((.r (.l (.r (.l (.r (.r (.r .root))))))), 1), ((.l (.r (.l (.r (.r (.r (.r .root))))))), 2), ((.r (.r (.l (.l (.r (.r (.l (.l (.r (.l (.r (.r (.r (.r .root)))))))))))))), 3), ((.l (.r (.l (.r (.r (.r (.r (.r (.r (.r (.r .root))))))))))), 4), ((.r (.r (.r (.r .root)))), 5)]
noncomputable def d303 : Code := Option.rec .skip (fun c => c) Go.Proofs.Tryz.f303.body
noncomputable def q303 : Plans := []
noncomputable def u303 : Cuts := [(.root, 0), ((.l (.l (.r .root))), 1)]
noncomputable def d304 : Code := Option.rec .skip (fun c => c) Go.Proofs.Tryz.f304.body
noncomputable def q304 : Plans := []
noncomputable def u304 : Cuts := [(.root, 0), ((.l (.l (.r .root))), 1)]
noncomputable def d305 : Code := Option.rec .skip (fun c => c) Go.Proofs.Tryz.f305.body
noncomputable def q305 : Plans := []
noncomputable def u305 : Cuts := [(.root, 0), ((.l (.r (.l (.r .root)))), 1)]
noncomputable def d306 : Code := Option.rec .skip (fun c => c) Go.Proofs.Tryz.f306.body
noncomputable def q306 : Plans := []
noncomputable def u306 : Cuts := [(.root, 0), ((.l (.l (.r .root))), 1)]
noncomputable def d307 : Code := Option.rec .skip (fun c => c) Go.Proofs.Tryz.f307.body
noncomputable def q307 : Plans := []
noncomputable def u307 : Cuts := [(.root, 0), ((.l (.l (.r .root))), 1)]
noncomputable def d308 : Code := Option.rec .skip (fun c => c) Go.Proofs.Tryz.f308.body
noncomputable def q308 : Plans := []
noncomputable def u308 : Cuts := [(.root, 0), ((.l (.l (.r .root))), 1)]
noncomputable def d309 : Code := Option.rec .skip (fun c => c) Go.Proofs.Tryz.f309.body
noncomputable def q309 : Plans := []
noncomputable def u309 : Cuts := [(.root, 0), ((.l (.l (.r .root))), 1), ((.r (.r (.l (.r (.l (.l (.l (.r .root)))))))), 2)]
noncomputable def d310 : Code := Option.rec .skip (fun c => c) Go.Proofs.Tryz.f310.body
noncomputable def q310 : Plans := []
noncomputable def u310 : Cuts := [(.root, 0), ((.l (.r (.l (.r (.r (.r (.l (.r (.l (.r (.r .root))))))))))), 1), ((.r (.r (.r (.r (.r (.l (.r (.l (.r (.r .root)))))))))), 2), ((.r (.r (.l (.r (.l (.r (.r .root))))))), 3)]
noncomputable def d311 : Code := Option.rec .skip (fun c => c) Go.Proofs.Tryz.f311.body
noncomputable def q311 : Plans := []
noncomputable def u311 : Cuts := [(.root, 0)]
noncomputable def d312 : Code := Option.rec .skip (fun c => c) Go.Proofs.Tryz.f312.body
noncomputable def q312 : Plans := []
noncomputable def u312 : Cuts := [(.root, 0)]
noncomputable def d313 : Code := Option.rec .skip (fun c => c) Go.Proofs.Tryz.f313.body
noncomputable def q313 : Plans := []
noncomputable def u313 : Cuts := [(.root, 0), ((.l (.r (.l (.r (.r .root))))), 1), ((.l (.r (.l (.r (.r (.r (.r (.l (.r (.l (.r (.r (.r .root))))))))))))), 2), ((.r (.r (.l (.r (.r (.l (.l (.r (.l (.l (.r (.l (.r (.r (.r (.r (.l (.r (.l (.r (.r (.r .root)))))))))))))))))))))), 3), ((.r (.r (.l (.l (.r (.l (.r (.r (.r (.r (.l (.r (.l (.r (.r (.r .root)))))))))))))))), 4), ((.r (.r (.r .root))), 5)]
noncomputable def d314 : Code := Option.rec .skip (fun c => c) Go.Proofs.Tryz.f314.body
noncomputable def q314 : Plans := [(6, [0, 1, 2, 3, 4, 5, 6]), (7, [0, 1, 2, 3, 4, 5, 6, 7, 8]), (14, [0, 1, 2, 3, 4, 5, 6, 7, 8, 9, 10]), (31, [0, 1, 2, 3, 4, 5, 6, 7, 8, 9, 10])]
noncomputable def u314 : Cuts := [(.root, 0), ((.l (.r (.l (.l (.r (.r (.r (.l (.r .root))))))))), 1), ((.l (.l (.r (.r (.r (.r (.l (.r (.r (.r (.r (.r (.r (.l (.r .root))))))))))))))), 2), ((.l (.r (.l (.r (.l (.l (.r (.l (.l (.l (.r (.r (.r (.r (.l (.r (.r (.r (.r (.r (.r (.l (.r .root))))))))))))))))))))))), 3), ((.r (.l (.l (.r (.l (.l (.l (.r (.r (.r (.r (.l (.r (.r (.r (.r (.r (.r (.l (.r .root)))))))))))))))))))), 4), ((.lab (.l (.r (.l (.l (.l (.r (.r (.r (.r (.l (.r (.r (.r (.r (.r (.r (.l (.r .root)))))))))))))))))) 0), 5), ((.l (.r (.r (.r (.l (.r (.l (.r (.r (.r (.r (.r (.r (.r (.l (.r (.r (.r (.r (.r (.r (.l (.r .root))))))))))))))))))))))), 6), ((.l (.r (.l (.l (.r (.l (.l (.r (.l (.l (.r (.r (.r (.l (.r (.l (.r (.r (.r (.r (.r (.r (.r (.l (.r (.r (.r (.r (.r (.r (.l (.r .root)))))))))))))))))))))))))))))))), 7), ((.r (.r (.l (.l (.r (.r (.r (.l (.r (.l (.r (.r (.r (.r (.r (.r (.r (.l (.r (.r (.r (.r (.r (.r (.l (.r .root)))))))))))))))))))))))))), 8), ((.lab (.r (.l (.r (.r (.r (.r (.r (.r (.r (.l (.r (.r (.r (.r (.r (.r (.l (.r .root)))))))))))))))))) 2), 9), ((.l (.r (.lab (.r (.l (.r (.r (.r (.r (.r (.r (.r (.l (.r (.r (.r (.r (.r (.r (.l (.r .root)))))))))))))))))) 2))), 10), ((.l (.r (.l (.l (.r (.l (.l (.r (.l (.l (.r (.lab (.r (.l (.r (.r (.r (.r (.r (.r (.r (.l (.r (.r (.r (.r (.r (.r (.l (.r .root)))))))))))))))))) 2)))))))))))), 11), ((.r (.r (.l (.l (.r (.lab (.r (.l (.r (.r (.r (.r (.r (.r (.r (.l (.r (.r (.r (.r (.r (.r (.l (.r .root)))))))))))))))))) 2)))))), 12), ((.lab (.r (.r (.r (.r (.r (.r (.l (.r .root)))))))) 1), 13), ((.l (.r (.r (.r (.l (.r (.l (.r (.lab (.r (.r (.r (.r (.r (.r (.l (.r .root)))))))) 1))))))))), 14), ((.l (.r (.l (.l (.r (.l (.l (.r (.l (.l (.r (.r (.r (.l (.r (.l (.r (.lab (.r (.r (.r (.r (.r (.r (.l (.r .root)))))))) 1)))))))))))))))))), 15), ((.r (.r (.l (.l (.r (.r (.r (.l (.r (.l (.r (.lab (.r (.r (.r (.r (.r (.r (.l (.r .root)))))))) 1)))))))))))), 16), ((.lab (.r (.l (.r (.lab (.r (.r (.r (.r (.r (.r (.l (.r .root)))))))) 1)))) 2), 17), ((.l (.r (.lab (.r (.l (.r (.lab (.r (.r (.r (.r (.r (.r (.l (.r .root)))))))) 1)))) 2))), 18), ((.l (.r (.l (.l (.r (.l (.l (.r (.l (.l (.r (.lab (.r (.l (.r (.lab (.r (.r (.r (.r (.r (.r (.l (.r .root)))))))) 1)))) 2)))))))))))), 19), ((.r (.r (.l (.l (.r (.lab (.r (.l (.r (.lab (.r (.r (.r (.r (.r (.r (.l (.r .root)))))))) 1)))) 2)))))), 20), ((.r (.l (.l (.r (.r (.r (.r (.r (.r (.r (.l (.r (.r (.r (.r (.r (.r (.l (.r .root))))))))))))))))))), 21), ((.r (.r (.l (.r (.l (.r (.r (.r (.r (.r (.r (.r (.l (.r (.r (.r (.r (.r (.r (.l (.r .root))))))))))))))))))))), 22)]
noncomputable def d315 : Code := Option.rec .skip (fun c => c) Go.Proofs.Tryz.f315.body
noncomputable def q315 : Plans := []
noncomputable def u315 : Cuts := [(.root, 0)]
noncomputable def d316 : Code := Option.rec .skip (fun c => c) Go.Proofs.Tryz.f316.body
noncomputable def q316 : Plans := []
noncomputable def u316 : Cuts := [(.root, 0)]
noncomputable def d326 : Code := Option.rec .skip (fun c => c) Go.Proofs.Tryz.f326.body
noncomputable def q326 : Plans := [(2, [0, 1, 2, 3, 4, 5, 6, 7, 8, 9]), (3, [0, 1, 2, 3, 4, 5, 6, 7, 8, 9, 10, 11])]
noncomputable def u326 : Cuts := [(.root, 0), ((.r (.r (.r .root))), 1)]
noncomputable def d327 : Code := Option.rec .skip (fun c => c) Go.Proofs.Tryz.f327.body
noncomputable def q327 : Plans := []
noncomputable def u327 : Cuts := [(.root, 0)]
noncomputable def d328 : Code := Option.rec .skip (fun c => c) Go.Proofs.Tryz.f328.body
noncomputable def q328 : Plans := []
noncomputable def u328 : Cuts := [(.root, 0)]
noncomputable def d329 : Code := Option.rec .skip (fun c => c) Go.Proofs.Tryz.f329.body
noncomputable def q329 : Plans := []
noncomputable def u329 : Cuts := [(.root, 0)]
noncomputable def d330 : Code := Option.rec .skip (fun c => c) Go.Proofs.Tryz.f330.body
noncomputable def q330 : Plans := []
noncomputable def u330 : Cuts := [(.root, 0), ((.r (.r (.r .root))), 1)]
noncomputable def d331 : Code := Option.rec .skip (fun c => c) Go.Proofs.Tryz.f331.body
noncomputable def q331 : Plans := []
structure J331 where
  a0 : Nat → Nat → Nat → Nat → H → Prop
noncomputable def s331_0 (_c : Caller Prop FT) (k : KV) (_J : J331) (l_0 : Nat) (c_0 : Nat) (l_1 : Nat) (c_1 : Nat) (h : H) : Prop :=
 joinB (fun k1 => gate true (ible (Int.ofNat l_1) (Int.ofNat l_0))
 (fI (wrap .i64 (isub (Int.ofNat l_0) (Int.ofNat l_1))) fun n4 =>
 natI n4 fun m5 =>
 cutS l_0 c_0 m5 l_0 fun l6 c7 =>
 k1 (strEq l6 c7 l_1 c_1) h)
 (k1 false h)) fun b3 h2 =>
 k (.bool b3) h2
noncomputable def z331 : J331 := ⟨fun _ _ _ _ _ => False⟩
noncomputable def r331 (c : Caller Prop FT) (k : KV) (m : Nat) : J331 := Nat.rec z331 (fun _ J => ⟨s331_0 c k J⟩) m
noncomputable def f331 (J : J331) : Jump := fun L f h => match L with
  | 0 => asS (f 0) fun l_0 c_0 => asS (f 1) fun l_1 c_1 => J.a0 l_0 c_0 l_1 c_1 h
  | _ => False
noncomputable def u331 : Cuts := [(.root, 0)]
noncomputable def d332 : Code := Option.rec .skip (fun c => c) Go.Proofs.Tryz.f332.body
noncomputable def q332 : Plans := [(3, [0, 1, 2, 3, 4, 5, 6, 7, 8, 9, 10, 11, 12, 13, 14, 15])]
noncomputable def u332 : Cuts := [(.root, 0), ((.l (.r .root)), 1)]
noncomputable def d333 : Code := Option.rec .skip (fun c => c) Go.Proofs.Tryz.f333.body
noncomputable def q333 : Plans := [(3, [0, 1, 2, 3, 4, 5, 6, 7, 8, 9, 10, 11, 12])]
noncomputable def u333 : Cuts := [(.root, 0), ((.r (.r .root)), 1)]
noncomputable def d334 : Code := Option.rec .skip (fun c => c) Go.Proofs.Tryz.f334.body
noncomputable def q334 : Plans := []
noncomputable def u334 : Cuts := [(.root, 0)]
noncomputable def d335 : Code := Option.rec .skip (fun c => c) Go.Proofs.Tryz.f335.body
noncomputable def q335 : Plans := []
noncomputable def u335 : Cuts := [(.root, 0)]
noncomputable def d336 : Code := Option.rec .skip (fun c => c) Go.Proofs.Tryz.f336.body
noncomputable def q336 : Plans := []
noncomputable def u336 : Cuts := [(.root, 0), ((.l (.r (.l (.r (.r (.r (.r (.r (.r (.r .root)))))))))), 1), ((.r (.r (.r (.r (.r (.r (.r (.r (.r .root))))))))), 2), ((.r (.r (.r (.r (.r (.r (.r (.r .root)))))))), 3)]
noncomputable def d337 : Code := Option.rec .skip (fun c => c) Go.Proofs.Tryz.f337.body
noncomputable def q337 : Plans := []
noncomputable def u337 : Cuts := [(.root, 0), ((.r (.r (.r (.r (.r (.r (.r (.r (.r (.r (.r (.r (.r .root))))))))))))), 1), ((.r (.r (.r (.r (.r (.r (.r (.r .root)))))))), 2), ((.r (.r (.r (.r .root)))), 3)]
noncomputable def d338 : Code := Option.rec .skip (fun c => c) Go.Proofs.Tryz.f338.body
noncomputable def q338 : Plans := [(1, [0, 1, 3, 2, 4, 5, 6])]
noncomputable def u338 : Cuts := [(.root, 0)]
noncomputable def d339 : Code := Option.rec .skip (fun c => c) Go.Proofs.Tryz.f339.body
noncomputable def q339 : Plans := [(1, [0, 1, 3, 2, 4, 5, 6])]
noncomputable def u339 : Cuts := [(.root, 0)]
noncomputable def d340 : Code := Option.rec .skip (fun c => c) Go.Proofs.Tryz.f340.body
noncomputable def q340 : Plans := []
noncomputable def u340 : Cuts := [(.root, 0)]
noncomputable def d341 : Code := Option.rec .skip (fun c => c) Go.Proofs.Tryz.f341.body
noncomputable def q341 : Plans := []
noncomputable def u341 : Cuts := [(.root, 0)]
noncomputable def d342 : Code := Option.rec .skip (fun c => c) Go.Proofs.Tryz.f342.body
noncomputable def q342 : Plans := []
noncomputable def u342 : Cuts := [(.root, 0)]
noncomputable def d343 : Code := Option.rec .skip (fun c => c) Go.Proofs.Tryz.f343.body
noncomputable def q343 : Plans := []
noncomputable def u343 : Cuts := [(.root, 0), ((.l (.r (.l (.r (.r .root))))), 1), ((.r (.r (.r (.r (.r (.r (.r (.r (.l (.r (.r (.l (.l (.r (.l (.r (.r .root))))))))))))))))), 2), ((.r (.r (.r (.r (.r (.l (.r (.r (.l (.l (.r (.l (.r (.r .root)))))))))))))), 3), ((.l (.r (.l (.r (.r (.r (.r .root))))))), 4), ((.r (.r (.r .root))), 5)]
noncomputable def d345 : Code := Option.rec .skip (fun c => c) Go.Proofs.Tryz.f345.body
noncomputable def q345 : Plans := []
noncomputable def u345 : Cuts := [(.root, 0)]
noncomputable def d348 : Code := Option.rec .skip (fun c => c) Go.Proofs.Tryz.f348.body
noncomputable def q348 : Plans := [(5, [0, 1, 2, 3, 4])]
noncomputable def u348 : Cuts := [(.root, 0), ((.r (.r (.r (.r (.r .root))))), 1)]
noncomputable def d349 : Code := Option.rec .skip (fun c => c) Go.Proofs.Tryz.f349.body
noncomputable def q349 : Plans := []
noncomputable def u349 : Cuts := [(.root, 0), ((.l (.r (.l (.r (.l (.r (.l (.r (.r (.r (.r (.r .root)))))))))))), 1), ((.r (.r (.r (.r (.r (.r .root)))))), 2)]
noncomputable def d350 : Code := Option.rec .skip (fun c => c) Go.Proofs.Tryz.f350.body
noncomputable def q350 : Plans := [(0, [0, 1, 2, 3, 4, 5, 6, 7, 9, 10, 11, 12, 13, 8, 14, 15])]
noncomputable def u350 : Cuts := [(.root, 0)]
noncomputable def d351 : Code := Option.rec .skip (fun c => c) Go.Proofs.Tryz.f351.body
noncomputable def q351 : Plans := []
noncomputable def u351 : Cuts := [(.root, 0)]
noncomputable def d352 : Code := Option.rec .skip (fun c => c) Go.Proofs.Tryz.f352.body
noncomputable def q352 : Plans := []
noncomputable def u352 : Cuts := [(.root, 0), ((.l (.r (.l (.r (.r (.r (.r (.r (.r (.r (.r (.r (.r (.r .root)))))))))))))), 1), ((.r (.r (.r (.l (.l (.r (.r (.l (.l (.r (.l (.r (.r (.r (.r (.r (.r (.r (.r (.r (.r (.r .root)))))))))))))))))))))), 2), ((.r (.r (.r (.r (.r (.r (.r (.r .root)))))))), 3), ((.r (.r (.r (.r (.r (.r .root)))))), 4), ((.r (.r (.r (.r (.r .root))))), 5)]
noncomputable def d353 : Code := Option.rec .skip (fun c => c) Go.Proofs.Tryz.f353.body
noncomputable def q353 : Plans := []
noncomputable def u353 : Cuts := [(.root, 0)]
noncomputable def d354 : Code := Option.rec .skip (fun c => c) Go.Proofs.Tryz.f354.body
noncomputable def q354 : Plans := []
noncomputable def u354 : Cuts := [(.root, 0)]
noncomputable def d355 : Code := Option.rec .skip (fun c => c) Go.Proofs.Tryz.f355.body
noncomputable def q355 : Plans := []
noncomputable def u355 : Cuts := [(.root, 0)]
noncomputable def d356 : Code := Option.rec .skip (fun c => c) Go.Proofs.Tryz.f356.body
noncomputable def q356 : Plans := []
noncomputable def u356 : Cuts := [(.root, 0)]
noncomputable def d357 : Code := Option.rec .skip (fun c => c) Go.Proofs.Tryz.f357.body
noncomputable def q357 : Plans := []
noncomputable def u357 : Cuts := [(.root, 0)]
noncomputable def d360 : Code := Option.rec .skip (fun c => c) Go.Proofs.Tryz.f360.body
noncomputable def q360 : Plans := []
noncomputable def u360 : Cuts := [(.root, 0)]
noncomputable def d361 : Code := Option.rec .skip (fun c => c) Go.Proofs.Tryz.f361.body
noncomputable def q361 : Plans := [(3, [0, 1, 2, 3]), (5, [0, 1, 2, 3, 4, 5, 6])]
noncomputable def u361 : Cuts := [(.root, 0), ((.r (.r .root)), 1)]
noncomputable def d362 : Code := Option.rec .skip (fun c => c) Go.Proofs.Tryz.f362.body
noncomputable def q362 : Plans := []
noncomputable def u362 : Cuts := [(.root, 0)]
noncomputable def d363 : Code := Option.rec .skip (fun c => c) Go.Proofs.Tryz.f363.body
noncomputable def q363 : Plans := []
noncomputable def u363 : Cuts := [(.root, 0)]
noncomputable def d365 : Code := Option.rec .skip (fun c => c) Go.Proofs.Tryz.f365.body
noncomputable def q365 : Plans := []
noncomputable def u365 : Cuts := [(.root, 0)]
noncomputable def d366 : Code := Option.rec .skip (fun c => c) Go.Proofs.Tryz.f366.body
noncomputable def q366 : Plans := []
noncomputable def u366 : Cuts := [(.root, 0), ((.l (.l (.r (.r (.r (.r (.r (.r .root)))))))), 1), ((.r (.r (.l (.l (.l (.r (.r (.r (.r (.r (.r .root))))))))))), 2), ((.r (.r (.r (.r (.r (.r .root)))))), 3), ((.r (.r (.r (.r .root)))), 4)]
noncomputable def d367 : Code := Option.rec .skip (fun c => c) Go.Proofs.Tryz.f367.body
noncomputable def q367 : Plans := []
noncomputable def u367 : Cuts := [(.root, 0)]
noncomputable def d369 : Code := Option.rec .skip (fun c => c) Go.Proofs.Tryz.f369.body
noncomputable def q369 : Plans := []
noncomputable def u369 : Cuts := [(.root, 0), ((.r (.r (.r (.l (.r (.r .root)))))), 1)]
end Go.Den
