/-
  A part of the proof: TDC, TDG.
-/
import Derived.Test.YtdpnnajfmkpfjaaDoorRunB
import Derived.Test.YtdpnnajfmkpfjaaDoorRunC
import Derived.Laws.Externs
import Derived.KernelRfl
namespace Go.Den
set_option maxRecDepth 100000
noncomputable def disp (c : Caller Prop FT) (m i : Nat) (a : List AV) (h : H) (k : KV) : Prop :=
  cnd (Nat.ble i 31)
  (cnd (Nat.ble i 16)
  (cnd (Nat.ble i 8)
  (cnd (Nat.ble i 4)
  (cnd (Nat.ble i 2)
  (cnd (Nat.beq i 2) (f2 (r2 c k m) 0 (finit a) h) False)
  (cnd (Nat.ble i 3)
  (cnd (Nat.beq i 3) (f3 (r3 c k m) 0 (finit a) h) False)
  (cnd (Nat.beq i 4) (f4 (r4 c k m) 0 (finit a) h) False)))
  (cnd (Nat.ble i 6)
  (cnd (Nat.ble i 5)
  (cnd (Nat.beq i 5) (f5 (r5 c k m) 0 (finit a) h) False)
  (cnd (Nat.beq i 6) (f6 (r6 c k m) 0 (finit a) h) False))
  (cnd (Nat.ble i 7)
  (cnd (Nat.beq i 7) (f7 (r7 c k m) 0 (finit a) h) False)
  (cnd (Nat.beq i 8) (f8 (r8 c k m) 0 (finit a) h) False))))
  (cnd (Nat.ble i 12)
  (cnd (Nat.ble i 10)
  (cnd (Nat.ble i 9)
  (cnd (Nat.beq i 9) (f9 (r9 c k m) 0 (finit a) h) False)
  (cnd (Nat.beq i 10) (f10 (r10 c k m) 0 (finit a) h) False))
  (cnd (Nat.ble i 11)
  (cnd (Nat.beq i 11) (f11 (r11 c k m) 0 (finit a) h) False)
  (cnd (Nat.beq i 12) (f12 (r12 c k m) 0 (finit a) h) False)))
  (cnd (Nat.ble i 14)
  (cnd (Nat.ble i 13)
  (cnd (Nat.beq i 13) (f13 (r13 c k m) 0 (finit a) h) False)
  (cnd (Nat.beq i 14) (f14 (r14 c k m) 0 (finit a) h) False))
  (cnd (Nat.ble i 15)
  (cnd (Nat.beq i 15) (f15 (r15 c k m) 0 (finit a) h) False)
  (cnd (Nat.beq i 16) (f16 (r16 c k m) 0 (finit a) h) False)))))
  (cnd (Nat.ble i 23)
  (cnd (Nat.ble i 19)
  (cnd (Nat.ble i 17)
  (cnd (Nat.beq i 17) (f17 (r17 c k m) 0 (finit a) h) False)
  (cnd (Nat.ble i 18)
  (cnd (Nat.beq i 18) (f18 (r18 c k m) 0 (finit a) h) False)
  (cnd (Nat.beq i 19) (f19 (r19 c k m) 0 (finit a) h) False)))
  (cnd (Nat.ble i 21)
  (cnd (Nat.ble i 20)
  (cnd (Nat.beq i 20) (f20 (r20 c k m) 0 (finit a) h) False)
  (cnd (Nat.beq i 21) (f21 (r21 c k m) 0 (finit a) h) False))
  (cnd (Nat.ble i 22)
  (cnd (Nat.beq i 22) (f22 (r22 c k m) 0 (finit a) h) False)
  (cnd (Nat.beq i 23) (f23 (r23 c k m) 0 (finit a) h) False))))
  (cnd (Nat.ble i 27)
  (cnd (Nat.ble i 25)
  (cnd (Nat.ble i 24)
  (cnd (Nat.beq i 24) (f24 (r24 c k m) 0 (finit a) h) False)
  (cnd (Nat.beq i 25) (f25 (r25 c k m) 0 (finit a) h) False))
  (cnd (Nat.ble i 26)
  (cnd (Nat.beq i 26) (f26 (r26 c k m) 0 (finit a) h) False)
  (cnd (Nat.beq i 27) (f27 (r27 c k m) 0 (finit a) h) False)))
  (cnd (Nat.ble i 29)
  (cnd (Nat.ble i 28)
  (cnd (Nat.beq i 28) (f28 (r28 c k m) 0 (finit a) h) False)
  (cnd (Nat.beq i 29) (f29 (r29 c k m) 0 (finit a) h) False))
  (cnd (Nat.ble i 30)
  (cnd (Nat.beq i 30) (f30 (r30 c k m) 0 (finit a) h) False)
  (cnd (Nat.beq i 31) (f31 (r31 c k m) 0 (finit a) h) False))))))
  (cnd (Nat.ble i 48)
  (cnd (Nat.ble i 38)
  (cnd (Nat.ble i 34)
  (cnd (Nat.ble i 32)
  (cnd (Nat.beq i 32) (f32 (r32 c k m) 0 (finit a) h) False)
  (cnd (Nat.ble i 33)
  (cnd (Nat.beq i 33) (f33 (r33 c k m) 0 (finit a) h) False)
  (cnd (Nat.beq i 34) (f34 (r34 c k m) 0 (finit a) h) False)))
  (cnd (Nat.ble i 36)
  (cnd (Nat.ble i 35)
  (cnd (Nat.beq i 35) (f35 (r35 c k m) 0 (finit a) h) False)
  (cnd (Nat.beq i 36) (f36 (r36 c k m) 0 (finit a) h) False))
  (cnd (Nat.ble i 37)
  (cnd (Nat.beq i 37) (f37 (r37 c k m) 0 (finit a) h) False)
  (cnd (Nat.beq i 38) (f38 (r38 c k m) 0 (finit a) h) False))))
  (cnd (Nat.ble i 43)
  (cnd (Nat.ble i 41)
  (cnd (Nat.ble i 39)
  (cnd (Nat.beq i 39) (f39 (r39 c k m) 0 (finit a) h) False)
  (cnd (Nat.beq i 41) (f41 (r41 c k m) 0 (finit a) h) False))
  (cnd (Nat.ble i 42)
  (cnd (Nat.beq i 42) (f42 (r42 c k m) 0 (finit a) h) False)
  (cnd (Nat.beq i 43) (f43 (r43 c k m) 0 (finit a) h) False)))
  (cnd (Nat.ble i 46)
  (cnd (Nat.ble i 45)
  (cnd (Nat.beq i 45) (f45 (r45 c k m) 0 (finit a) h) False)
  (cnd (Nat.beq i 46) (f46 (r46 c k m) 0 (finit a) h) False))
  (cnd (Nat.ble i 47)
  (cnd (Nat.beq i 47) (f47 (r47 c k m) 0 (finit a) h) False)
  (cnd (Nat.beq i 48) (f48 (r48 c k m) 0 (finit a) h) False)))))
  (cnd (Nat.ble i 60)
  (cnd (Nat.ble i 51)
  (cnd (Nat.ble i 49)
  (cnd (Nat.beq i 49) (f49 (r49 c k m) 0 (finit a) h) False)
  (cnd (Nat.ble i 50)
  (cnd (Nat.beq i 50) (f50 (r50 c k m) 0 (finit a) h) False)
  (cnd (Nat.beq i 51) (f51 (r51 c k m) 0 (finit a) h) False)))
  (cnd (Nat.ble i 55)
  (cnd (Nat.ble i 54)
  (cnd (Nat.beq i 54) (f54 (r54 c k m) 0 (finit a) h) False)
  (cnd (Nat.beq i 55) (f55 (r55 c k m) 0 (finit a) h) False))
  (cnd (Nat.ble i 57)
  (cnd (Nat.beq i 57) (f57 (r57 c k m) 0 (finit a) h) False)
  (cnd (Nat.beq i 60) (f60 (r60 c k m) 0 (finit a) h) False))))
  (cnd (Nat.ble i 66)
  (cnd (Nat.ble i 64)
  (cnd (Nat.ble i 63)
  (cnd (Nat.beq i 63) (f63 (r63 c k m) 0 (finit a) h) False)
  (cnd (Nat.beq i 64) (cnd (Nat.beq (len a) 1) (oK (extA .noEscape a h) k) False) False))
  (cnd (Nat.ble i 65)
  (cnd (Nat.beq i 65) (f65 (r65 c k m) 0 (finit a) h) False)
  (cnd (Nat.beq i 66) (f66 (r66 c k m) 0 (finit a) h) False)))
  (cnd (Nat.ble i 75)
  (cnd (Nat.ble i 67)
  (cnd (Nat.beq i 67) (f67 (r67 c k m) 0 (finit a) h) False)
  (cnd (Nat.beq i 75) (f75 (r75 c k m) 0 (finit a) h) False))
  (cnd (Nat.ble i 78)
  (cnd (Nat.beq i 78) (cnd (Nat.beq (len a) 2) (oK (extA .indexByte a h) k) False) False)
  (cnd (Nat.beq i 79) (f79 (r79 c k m) 0 (finit a) h) False))))))
noncomputable def calls (m : Nat) (n : Nat) : Caller Prop FT := Nat.rec (fun _ _ _ _ => False) (fun _ c fn a h k => Fn.rec (fun i => disp c m i a h k) (fun _ => False) (fun _ _ => False) (fun _ _ _ _ => False) (fun _ => False) fn) n
theorem x64 {a : List AV} {h : H} {k : KV} (hg : cnd (Nat.beq (len a) 1) (oK (extA .noEscape a h) k) False) : SW Go.Proofs.Tryd.prog G (.func 64) a h k :=
  extern_ok (e := .noEscape) (n := 1) rfl (fun args w => run_callFunc_extern (e := extM .noEscape) Go.Proofs.Tryd.func64 (by kernel_rfl) (by kernel_rfl) (by kernel_rfl) (by kernel_rfl) args w) hg
theorem x78 {a : List AV} {h : H} {k : KV} (hg : cnd (Nat.beq (len a) 2) (oK (extA .indexByte a h) k) False) : SW Go.Proofs.Tryd.prog G (.func 78) a h k :=
  extern_ok (e := .indexByte) (n := 2) rfl (fun args w => run_callFunc_extern (e := extM .indexByte) Go.Proofs.Tryd.func78 (by kernel_rfl) (by kernel_rfl) (by kernel_rfl) (by kernel_rfl) args w) hg
theorem disp_ok {c : Caller Prop FT} (hc : CallOk Go.Proofs.Tryd.prog (CP env) G (fun p => p) c) {m i : Nat} {a : List AV} {h : H} {k : KV} (hg : disp c m i a h k) : SW Go.Proofs.Tryd.prog G (.func i) a h k :=
  (cndN
  (cndN
  (cndN
  (cndN
  (cndN
  (cndL (T := fun q => SW Go.Proofs.Tryd.prog G (.func q) a h k) (fun hx => w2 hc hx))
  (cndN
  (cndL (T := fun q => SW Go.Proofs.Tryd.prog G (.func q) a h k) (fun hx => w3 hc hx))
  (cndL (T := fun q => SW Go.Proofs.Tryd.prog G (.func q) a h k) (fun hx => w4 hc hx))))
  (cndN
  (cndN
  (cndL (T := fun q => SW Go.Proofs.Tryd.prog G (.func q) a h k) (fun hx => w5 hc hx))
  (cndL (T := fun q => SW Go.Proofs.Tryd.prog G (.func q) a h k) (fun hx => w6 hc hx)))
  (cndN
  (cndL (T := fun q => SW Go.Proofs.Tryd.prog G (.func q) a h k) (fun hx => w7 hc hx))
  (cndL (T := fun q => SW Go.Proofs.Tryd.prog G (.func q) a h k) (fun hx => w8 hc hx)))))
  (cndN
  (cndN
  (cndN
  (cndL (T := fun q => SW Go.Proofs.Tryd.prog G (.func q) a h k) (fun hx => w9 hc hx))
  (cndL (T := fun q => SW Go.Proofs.Tryd.prog G (.func q) a h k) (fun hx => w10 hc hx)))
  (cndN
  (cndL (T := fun q => SW Go.Proofs.Tryd.prog G (.func q) a h k) (fun hx => w11 hc hx))
  (cndL (T := fun q => SW Go.Proofs.Tryd.prog G (.func q) a h k) (fun hx => w12 hc hx))))
  (cndN
  (cndN
  (cndL (T := fun q => SW Go.Proofs.Tryd.prog G (.func q) a h k) (fun hx => w13 hc hx))
  (cndL (T := fun q => SW Go.Proofs.Tryd.prog G (.func q) a h k) (fun hx => w14 hc hx)))
  (cndN
  (cndL (T := fun q => SW Go.Proofs.Tryd.prog G (.func q) a h k) (fun hx => w15 hc hx))
  (cndL (T := fun q => SW Go.Proofs.Tryd.prog G (.func q) a h k) (fun hx => w16 hc hx))))))
  (cndN
  (cndN
  (cndN
  (cndL (T := fun q => SW Go.Proofs.Tryd.prog G (.func q) a h k) (fun hx => w17 hc hx))
  (cndN
  (cndL (T := fun q => SW Go.Proofs.Tryd.prog G (.func q) a h k) (fun hx => w18 hc hx))
  (cndL (T := fun q => SW Go.Proofs.Tryd.prog G (.func q) a h k) (fun hx => w19 hc hx))))
  (cndN
  (cndN
  (cndL (T := fun q => SW Go.Proofs.Tryd.prog G (.func q) a h k) (fun hx => w20 hc hx))
  (cndL (T := fun q => SW Go.Proofs.Tryd.prog G (.func q) a h k) (fun hx => w21 hc hx)))
  (cndN
  (cndL (T := fun q => SW Go.Proofs.Tryd.prog G (.func q) a h k) (fun hx => w22 hc hx))
  (cndL (T := fun q => SW Go.Proofs.Tryd.prog G (.func q) a h k) (fun hx => w23 hc hx)))))
  (cndN
  (cndN
  (cndN
  (cndL (T := fun q => SW Go.Proofs.Tryd.prog G (.func q) a h k) (fun hx => w24 hc hx))
  (cndL (T := fun q => SW Go.Proofs.Tryd.prog G (.func q) a h k) (fun hx => w25 hc hx)))
  (cndN
  (cndL (T := fun q => SW Go.Proofs.Tryd.prog G (.func q) a h k) (fun hx => w26 hc hx))
  (cndL (T := fun q => SW Go.Proofs.Tryd.prog G (.func q) a h k) (fun hx => w27 hc hx))))
  (cndN
  (cndN
  (cndL (T := fun q => SW Go.Proofs.Tryd.prog G (.func q) a h k) (fun hx => w28 hc hx))
  (cndL (T := fun q => SW Go.Proofs.Tryd.prog G (.func q) a h k) (fun hx => w29 hc hx)))
  (cndN
  (cndL (T := fun q => SW Go.Proofs.Tryd.prog G (.func q) a h k) (fun hx => w30 hc hx))
  (cndL (T := fun q => SW Go.Proofs.Tryd.prog G (.func q) a h k) (fun hx => w31 hc hx)))))))
  (cndN
  (cndN
  (cndN
  (cndN
  (cndL (T := fun q => SW Go.Proofs.Tryd.prog G (.func q) a h k) (fun hx => w32 hc hx))
  (cndN
  (cndL (T := fun q => SW Go.Proofs.Tryd.prog G (.func q) a h k) (fun hx => w33 hc hx))
  (cndL (T := fun q => SW Go.Proofs.Tryd.prog G (.func q) a h k) (fun hx => w34 hc hx))))
  (cndN
  (cndN
  (cndL (T := fun q => SW Go.Proofs.Tryd.prog G (.func q) a h k) (fun hx => w35 hc hx))
  (cndL (T := fun q => SW Go.Proofs.Tryd.prog G (.func q) a h k) (fun hx => w36 hc hx)))
  (cndN
  (cndL (T := fun q => SW Go.Proofs.Tryd.prog G (.func q) a h k) (fun hx => w37 hc hx))
  (cndL (T := fun q => SW Go.Proofs.Tryd.prog G (.func q) a h k) (fun hx => w38 hc hx)))))
  (cndN
  (cndN
  (cndN
  (cndL (T := fun q => SW Go.Proofs.Tryd.prog G (.func q) a h k) (fun hx => w39 hc hx))
  (cndL (T := fun q => SW Go.Proofs.Tryd.prog G (.func q) a h k) (fun hx => w41 hc hx)))
  (cndN
  (cndL (T := fun q => SW Go.Proofs.Tryd.prog G (.func q) a h k) (fun hx => w42 hc hx))
  (cndL (T := fun q => SW Go.Proofs.Tryd.prog G (.func q) a h k) (fun hx => w43 hc hx))))
  (cndN
  (cndN
  (cndL (T := fun q => SW Go.Proofs.Tryd.prog G (.func q) a h k) (fun hx => w45 hc hx))
  (cndL (T := fun q => SW Go.Proofs.Tryd.prog G (.func q) a h k) (fun hx => w46 hc hx)))
  (cndN
  (cndL (T := fun q => SW Go.Proofs.Tryd.prog G (.func q) a h k) (fun hx => w47 hc hx))
  (cndL (T := fun q => SW Go.Proofs.Tryd.prog G (.func q) a h k) (fun hx => w48 hc hx))))))
  (cndN
  (cndN
  (cndN
  (cndL (T := fun q => SW Go.Proofs.Tryd.prog G (.func q) a h k) (fun hx => w49 hc hx))
  (cndN
  (cndL (T := fun q => SW Go.Proofs.Tryd.prog G (.func q) a h k) (fun hx => w50 hc hx))
  (cndL (T := fun q => SW Go.Proofs.Tryd.prog G (.func q) a h k) (fun hx => w51 hc hx))))
  (cndN
  (cndN
  (cndL (T := fun q => SW Go.Proofs.Tryd.prog G (.func q) a h k) (fun hx => w54 hc hx))
  (cndL (T := fun q => SW Go.Proofs.Tryd.prog G (.func q) a h k) (fun hx => w55 hc hx)))
  (cndN
  (cndL (T := fun q => SW Go.Proofs.Tryd.prog G (.func q) a h k) (fun hx => w57 hc hx))
  (cndL (T := fun q => SW Go.Proofs.Tryd.prog G (.func q) a h k) (fun hx => w60 hc hx)))))
  (cndN
  (cndN
  (cndN
  (cndL (T := fun q => SW Go.Proofs.Tryd.prog G (.func q) a h k) (fun hx => w63 hc hx))
  (cndL (T := fun q => SW Go.Proofs.Tryd.prog G (.func q) a h k) (fun hx => x64 hx)))
  (cndN
  (cndL (T := fun q => SW Go.Proofs.Tryd.prog G (.func q) a h k) (fun hx => w65 hc hx))
  (cndL (T := fun q => SW Go.Proofs.Tryd.prog G (.func q) a h k) (fun hx => w66 hc hx))))
  (cndN
  (cndN
  (cndL (T := fun q => SW Go.Proofs.Tryd.prog G (.func q) a h k) (fun hx => w67 hc hx))
  (cndL (T := fun q => SW Go.Proofs.Tryd.prog G (.func q) a h k) (fun hx => w75 hc hx)))
  (cndN
  (cndL (T := fun q => SW Go.Proofs.Tryd.prog G (.func q) a h k) (fun hx => x78 hx))
  (cndL (T := fun q => SW Go.Proofs.Tryd.prog G (.func q) a h k) (fun hx => w79 hc hx)))))))) hg
theorem calls_ok (m : Nat) : ∀ n, CallOk Go.Proofs.Tryd.prog (CP env) G (fun p => p) (calls m n)
  | 0 => fun _ _ _ _ _ _ _ _ _ _ _ _ hg => hg.elim
  | n + 1 => fun μ h w fn fn' args vargs k s gl hf hv hg => by
    cases fn with
    | func i => exact disp_ok (calls_ok m n) (show disp (calls m n) m i args h k from hg) μ w fn' vargs s gl hf hv
    | _ => exact hg.elim
end Go.Den
namespace Go.Den
theorem g6 {c : Caller Prop FT} {k : KV} {n : Nat} {l_0 : Nat} {c_0 : Nat} {l_1 : Nat} {c_1 : Nat} {l_2 : Nat} {c_2 : Nat} {n_3 : Int} {h : H} (hg : s6_0 c k (r6 c k n) l_0 c_0 l_1 c_1 l_2 c_2 n_3 h) : f6 (r6 c k (n + 1)) 0 (finit [.str l_0 c_0, .str l_1 c_1, .str l_2 c_2, .int .i64 n_3]) h := hg
theorem j6_0 {c : Caller Prop FT} {k : KV} {n : Nat} {x0 : Nat} {x1 : Nat} {x2 : Nat} {x3 : Nat} {x4 : Nat} {x5 : Nat} {x6 : Int} {h : H} (hg : s6_0 c k (r6 c k n) x0 x1 x2 x3 x4 x5 x6 h) : (r6 c k (n + 1)).a0 x0 x1 x2 x3 x4 x5 x6 h := hg
theorem j6_1 {c : Caller Prop FT} {k : KV} {n : Nat} {x0 : Nat} {x1 : Nat} {x2 : Nat} {x3 : Nat} {x4 : Nat} {x5 : Nat} {x6 : Nat} {x7 : Nat} {x8 : Nat} {x9 : Nat} {x10 : Bool} {x11 : Bool} {x12 : Bool} {h : H} (hg : s6_1 c k (r6 c k n) x0 x1 x2 x3 x4 x5 x6 x7 x8 x9 x10 x11 x12 h) : (r6 c k (n + 1)).a1 x0 x1 x2 x3 x4 x5 x6 x7 x8 x9 x10 x11 x12 h := hg
theorem g9 {c : Caller Prop FT} {k : KV} {n : Nat} {l_0 : Nat} {c_0 : Nat} {h : H} (hg : s9_0 c k (r9 c k n) l_0 c_0 h) : f9 (r9 c k (n + 1)) 0 (finit [.str l_0 c_0]) h := hg
theorem j9_0 {c : Caller Prop FT} {k : KV} {n : Nat} {x0 : Nat} {x1 : Nat} {h : H} (hg : s9_0 c k (r9 c k n) x0 x1 h) : (r9 c k (n + 1)).a0 x0 x1 h := hg
theorem j9_1 {c : Caller Prop FT} {k : KV} {n : Nat} {x0 : AV} {x1 : Nat} {x2 : Nat} {x3 : Bool} {x4 : Bool} {x5 : Int} {x6 : Nat} {x7 : Nat} {h : H} (hg : s9_1 c k (r9 c k n) x0 x1 x2 x3 x4 x5 x6 x7 h) : (r9 c k (n + 1)).a1 x0 x1 x2 x3 x4 x5 x6 x7 h := hg
theorem g16 {c : Caller Prop FT} {k : KV} {n : Nat} {l_0 : Nat} {c_0 : Nat} {h : H} (hg : s16_0 c k (r16 c k n) l_0 c_0 h) : f16 (r16 c k (n + 1)) 0 (finit [.str l_0 c_0]) h := hg
theorem j16_0 {c : Caller Prop FT} {k : KV} {n : Nat} {x0 : Nat} {x1 : Nat} {h : H} (hg : s16_0 c k (r16 c k n) x0 x1 h) : (r16 c k (n + 1)).a0 x0 x1 h := hg
theorem j16_1 {c : Caller Prop FT} {k : KV} {n : Nat} {x0 : Nat} {x1 : Nat} {x2 : Nat} {x3 : Nat} {x4 : Nat} {x5 : Nat} {x6 : Int} {x7 : Bool} {h : H} (hg : s16_1 c k (r16 c k n) x0 x1 x2 x3 x4 x5 x6 x7 h) : (r16 c k (n + 1)).a1 x0 x1 x2 x3 x4 x5 x6 x7 h := hg
theorem j16_2 {c : Caller Prop FT} {k : KV} {n : Nat} {x0 : Nat} {x1 : Nat} {x2 : Nat} {x3 : Nat} {x4 : Nat} {x5 : Nat} {h : H} (hg : s16_2 c k (r16 c k n) x0 x1 x2 x3 x4 x5 h) : (r16 c k (n + 1)).a2 x0 x1 x2 x3 x4 x5 h := hg
theorem g18 {c : Caller Prop FT} {k : KV} {n : Nat} {n_0 : Int} {n_1 : Int} {h : H} (hg : s18_0 c k (r18 c k n) n_0 n_1 h) : f18 (r18 c k (n + 1)) 0 (finit [.int .i64 n_0, .int .i64 n_1]) h := hg
theorem g19 {c : Caller Prop FT} {k : KV} {n : Nat} {l_0 : Nat} {c_0 : Nat} {h : H} (hg : s19_0 c k (r19 c k n) l_0 c_0 h) : f19 (r19 c k (n + 1)) 0 (finit [.str l_0 c_0]) h := hg
theorem j19_0 {c : Caller Prop FT} {k : KV} {n : Nat} {x0 : Nat} {x1 : Nat} {h : H} (hg : s19_0 c k (r19 c k n) x0 x1 h) : (r19 c k (n + 1)).a0 x0 x1 h := hg
theorem j19_1 {c : Caller Prop FT} {k : KV} {n : Nat} {x0 : Nat} {x1 : Nat} {x2 : Int} {h : H} (hg : s19_1 c k (r19 c k n) x0 x1 x2 h) : (r19 c k (n + 1)).a1 x0 x1 x2 h := hg
theorem g20 {c : Caller Prop FT} {k : KV} {n : Nat} {l_0 : Nat} {c_0 : Nat} {l_1 : Nat} {c_1 : Nat} {h : H} (hg : s20_0 c k (r20 c k n) l_0 c_0 l_1 c_1 h) : f20 (r20 c k (n + 1)) 0 (finit [.str l_0 c_0, .str l_1 c_1]) h := hg
theorem g21 {c : Caller Prop FT} {k : KV} {n : Nat} {l_0 : Nat} {c_0 : Nat} {h : H} (hg : s21_0 c k (r21 c k n) l_0 c_0 h) : f21 (r21 c k (n + 1)) 0 (finit [.str l_0 c_0]) h := hg
theorem j21_0 {c : Caller Prop FT} {k : KV} {n : Nat} {x0 : Nat} {x1 : Nat} {h : H} (hg : s21_0 c k (r21 c k n) x0 x1 h) : (r21 c k (n + 1)).a0 x0 x1 h := hg
theorem j21_1 {c : Caller Prop FT} {k : KV} {n : Nat} {x0 : Nat} {x1 : Nat} {x2 : Bool} {h : H} (hg : s21_1 c k (r21 c k n) x0 x1 x2 h) : (r21 c k (n + 1)).a1 x0 x1 x2 h := hg
theorem g22 {c : Caller Prop FT} {k : KV} {n : Nat} {l_0 : Nat} {c_0 : Nat} {h : H} (hg : s22_0 c k (r22 c k n) l_0 c_0 h) : f22 (r22 c k (n + 1)) 0 (finit [.str l_0 c_0]) h := hg
theorem g23 {c : Caller Prop FT} {k : KV} {n : Nat} {l_0 : Nat} {c_0 : Nat} {l_1 : Nat} {c_1 : Nat} {h : H} (hg : s23_0 c k (r23 c k n) l_0 c_0 l_1 c_1 h) : f23 (r23 c k (n + 1)) 0 (finit [.str l_0 c_0, .str l_1 c_1]) h := hg
theorem g24 {c : Caller Prop FT} {k : KV} {n : Nat} {l_0 : Nat} {c_0 : Nat} {l_1 : Nat} {c_1 : Nat} {h : H} (hg : s24_0 c k (r24 c k n) l_0 c_0 l_1 c_1 h) : f24 (r24 c k (n + 1)) 0 (finit [.str l_0 c_0, .str l_1 c_1]) h := hg
theorem g35 {c : Caller Prop FT} {k : KV} {n : Nat} {l_0 : Nat} {c_0 : Nat} {l_1 : Nat} {c_1 : Nat} {h : H} (hg : s35_0 c k (r35 c k n) l_0 c_0 l_1 c_1 h) : f35 (r35 c k (n + 1)) 0 (finit [.str l_0 c_0, .str l_1 c_1]) h := hg
theorem j35_0 {c : Caller Prop FT} {k : KV} {n : Nat} {x0 : Nat} {x1 : Nat} {x2 : Nat} {x3 : Nat} {h : H} (hg : s35_0 c k (r35 c k n) x0 x1 x2 x3 h) : (r35 c k (n + 1)).a0 x0 x1 x2 x3 h := hg
theorem j35_1 {c : Caller Prop FT} {k : KV} {n : Nat} {x0 : Nat} {x1 : Nat} {x2 : Nat} {x3 : Nat} {h : H} (hg : s35_1 c k (r35 c k n) x0 x1 x2 x3 h) : (r35 c k (n + 1)).a1 x0 x1 x2 x3 h := hg
theorem g38 {c : Caller Prop FT} {k : KV} {n : Nat} {l_0 : Nat} {c_0 : Nat} {h : H} (hg : s38_0 c k (r38 c k n) l_0 c_0 h) : f38 (r38 c k (n + 1)) 0 (finit [.str l_0 c_0]) h := hg
theorem j38_0 {c : Caller Prop FT} {k : KV} {n : Nat} {x0 : Nat} {x1 : Nat} {h : H} (hg : s38_0 c k (r38 c k n) x0 x1 h) : (r38 c k (n + 1)).a0 x0 x1 h := hg
theorem j38_1 {c : Caller Prop FT} {k : KV} {n : Nat} {x0 : Nat} {x1 : Nat} {x2 : AV} {x3 : Int} {h : H} (hg : s38_1 c k (r38 c k n) x0 x1 x2 x3 h) : (r38 c k (n + 1)).a1 x0 x1 x2 x3 h := hg
theorem g39 {c : Caller Prop FT} {k : KV} {n : Nat} {l_0 : Nat} {c_0 : Nat} {v_1 : AV} {h : H} (hg : s39_0 c k (r39 c k n) l_0 c_0 v_1 h) : f39 (r39 c k (n + 1)) 0 (finit [.str l_0 c_0, v_1]) h := hg
theorem j39_0 {c : Caller Prop FT} {k : KV} {n : Nat} {x0 : Nat} {x1 : Nat} {x2 : AV} {h : H} (hg : s39_0 c k (r39 c k n) x0 x1 x2 h) : (r39 c k (n + 1)).a0 x0 x1 x2 h := hg
theorem j39_1 {c : Caller Prop FT} {k : KV} {n : Nat} {x0 : Nat} {x1 : Nat} {x2 : AV} {h : H} (hg : s39_1 c k (r39 c k n) x0 x1 x2 h) : (r39 c k (n + 1)).a1 x0 x1 x2 h := hg
theorem g41 {c : Caller Prop FT} {k : KV} {n : Nat} {l_0 : Nat} {c_0 : Nat} {l_1 : Nat} {c_1 : Nat} {h : H} (hg : s41_0 c k (r41 c k n) l_0 c_0 l_1 c_1 h) : f41 (r41 c k (n + 1)) 0 (finit [.str l_0 c_0, .str l_1 c_1]) h := hg
theorem g42 {c : Caller Prop FT} {k : KV} {n : Nat} {l_0 : Nat} {c_0 : Nat} {l_1 : Nat} {c_1 : Nat} {h : H} (hg : s42_0 c k (r42 c k n) l_0 c_0 l_1 c_1 h) : f42 (r42 c k (n + 1)) 0 (finit [.str l_0 c_0, .str l_1 c_1]) h := hg
theorem g48 {c : Caller Prop FT} {k : KV} {n : Nat} {l_0 : Nat} {c_0 : Nat} {n_1 : Int} {h : H} (hg : s48_0 c k (r48 c k n) l_0 c_0 n_1 h) : f48 (r48 c k (n + 1)) 0 (finit [.str l_0 c_0, .int .u8 n_1]) h := hg
theorem g51 {c : Caller Prop FT} {k : KV} {n : Nat} {n_1 : Int} {v_0 : AV} {h : H} (hg : s51_0 c k (r51 c k n) v_0 n_1 h) : f51 (r51 c k (n + 1)) 0 (finit [v_0, .int .u8 n_1]) h := hg
theorem g55 {c : Caller Prop FT} {k : KV} {n : Nat} {l_0 : Nat} {c_0 : Nat} {v_1 : AV} {h : H} (hg : s55_0 c k (r55 c k n) l_0 c_0 v_1 h) : f55 (r55 c k (n + 1)) 0 (finit [.str l_0 c_0, v_1]) h := hg
theorem j55_0 {c : Caller Prop FT} {k : KV} {n : Nat} {x0 : Nat} {x1 : Nat} {x2 : AV} {h : H} (hg : s55_0 c k (r55 c k n) x0 x1 x2 h) : (r55 c k (n + 1)).a0 x0 x1 x2 h := hg
theorem j55_1 {c : Caller Prop FT} {k : KV} {n : Nat} {x0 : Nat} {x1 : Nat} {x2 : AV} {h : H} (hg : s55_1 c k (r55 c k n) x0 x1 x2 h) : (r55 c k (n + 1)).a1 x0 x1 x2 h := hg
theorem g65 {c : Caller Prop FT} {k : KV} {n : Nat} {l_0 : Nat} {c_0 : Nat} {n_1 : Int} {h : H} (hg : s65_0 c k (r65 c k n) l_0 c_0 n_1 h) : f65 (r65 c k (n + 1)) 0 (finit [.str l_0 c_0, .int .u8 n_1]) h := hg
end Go.Den
