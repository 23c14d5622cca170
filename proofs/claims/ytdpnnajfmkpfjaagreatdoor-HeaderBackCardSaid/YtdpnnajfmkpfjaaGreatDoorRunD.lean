/-
  A part of the proof: the table of calls, and how pieces are entered.
-/
import Derived.Test.YtdpnnajfmkpfjaaGreatDoorRunB
import Derived.Test.YtdpnnajfmkpfjaaGreatDoorRunC
import Derived.Laws.Externs
import Derived.KernelRfl
namespace Go.Den
set_option maxRecDepth 100000
noncomputable def disp (c : Caller Prop FT) (m i : Nat) (a : List AV) (h : H) (k : KV) : Prop :=
  cnd (Nat.ble i 36)
  (cnd (Nat.ble i 18)
  (cnd (Nat.ble i 9)
  (cnd (Nat.ble i 5)
  (cnd (Nat.ble i 3)
  (cnd (Nat.ble i 2)
  (cnd (Nat.beq i 2) (f2 (r2 c k m) 0 (finit a) h) False)
  (cnd (Nat.beq i 3) (f3 (r3 c k m) 0 (finit a) h) False))
  (cnd (Nat.ble i 4)
  (cnd (Nat.beq i 4) (f4 (r4 c k m) 0 (finit a) h) False)
  (cnd (Nat.beq i 5) (f5 (r5 c k m) 0 (finit a) h) False)))
  (cnd (Nat.ble i 7)
  (cnd (Nat.ble i 6)
  (cnd (Nat.beq i 6) (f6 (r6 c k m) 0 (finit a) h) False)
  (cnd (Nat.beq i 7) (f7 (r7 c k m) 0 (finit a) h) False))
  (cnd (Nat.ble i 8)
  (cnd (Nat.beq i 8) (f8 (r8 c k m) 0 (finit a) h) False)
  (cnd (Nat.beq i 9) (f9 (r9 c k m) 0 (finit a) h) False))))
  (cnd (Nat.ble i 13)
  (cnd (Nat.ble i 11)
  (cnd (Nat.ble i 10)
  (cnd (Nat.beq i 10) (f10 (r10 c k m) 0 (finit a) h) False)
  (cnd (Nat.beq i 11) (f11 (r11 c k m) 0 (finit a) h) False))
  (cnd (Nat.ble i 12)
  (cnd (Nat.beq i 12) (f12 (r12 c k m) 0 (finit a) h) False)
  (cnd (Nat.beq i 13) (f13 (r13 c k m) 0 (finit a) h) False)))
  (cnd (Nat.ble i 15)
  (cnd (Nat.ble i 14)
  (cnd (Nat.beq i 14) (f14 (r14 c k m) 0 (finit a) h) False)
  (cnd (Nat.beq i 15) (f15 (r15 c k m) 0 (finit a) h) False))
  (cnd (Nat.ble i 16)
  (cnd (Nat.beq i 16) (f16 (r16 c k m) 0 (finit a) h) False)
  (cnd (Nat.ble i 17)
  (cnd (Nat.beq i 17) (f17 (r17 c k m) 0 (finit a) h) False)
  (cnd (Nat.beq i 18) (f18 (r18 c k m) 0 (finit a) h) False))))))
  (cnd (Nat.ble i 27)
  (cnd (Nat.ble i 22)
  (cnd (Nat.ble i 20)
  (cnd (Nat.ble i 19)
  (cnd (Nat.beq i 19) (f19 (r19 c k m) 0 (finit a) h) False)
  (cnd (Nat.beq i 20) (f20 (r20 c k m) 0 (finit a) h) False))
  (cnd (Nat.ble i 21)
  (cnd (Nat.beq i 21) (f21 (r21 c k m) 0 (finit a) h) False)
  (cnd (Nat.beq i 22) (f22 (r22 c k m) 0 (finit a) h) False)))
  (cnd (Nat.ble i 24)
  (cnd (Nat.ble i 23)
  (cnd (Nat.beq i 23) (f23 (r23 c k m) 0 (finit a) h) False)
  (cnd (Nat.beq i 24) (f24 (r24 c k m) 0 (finit a) h) False))
  (cnd (Nat.ble i 25)
  (cnd (Nat.beq i 25) (f25 (r25 c k m) 0 (finit a) h) False)
  (cnd (Nat.ble i 26)
  (cnd (Nat.beq i 26) (f26 (r26 c k m) 0 (finit a) h) False)
  (cnd (Nat.beq i 27) (f27 (r27 c k m) 0 (finit a) h) False)))))
  (cnd (Nat.ble i 31)
  (cnd (Nat.ble i 29)
  (cnd (Nat.ble i 28)
  (cnd (Nat.beq i 28) (f28 (r28 c k m) 0 (finit a) h) False)
  (cnd (Nat.beq i 29) (f29 (r29 c k m) 0 (finit a) h) False))
  (cnd (Nat.ble i 30)
  (cnd (Nat.beq i 30) (f30 (r30 c k m) 0 (finit a) h) False)
  (cnd (Nat.beq i 31) (f31 (r31 c k m) 0 (finit a) h) False)))
  (cnd (Nat.ble i 33)
  (cnd (Nat.ble i 32)
  (cnd (Nat.beq i 32) (f32 (r32 c k m) 0 (finit a) h) False)
  (cnd (Nat.beq i 33) (f33 (r33 c k m) 0 (finit a) h) False))
  (cnd (Nat.ble i 34)
  (cnd (Nat.beq i 34) (f34 (r34 c k m) 0 (finit a) h) False)
  (cnd (Nat.ble i 35)
  (cnd (Nat.beq i 35) (f35 (r35 c k m) 0 (finit a) h) False)
  (cnd (Nat.beq i 36) (f36 (r36 c k m) 0 (finit a) h) False)))))))
  (cnd (Nat.ble i 57)
  (cnd (Nat.ble i 45)
  (cnd (Nat.ble i 40)
  (cnd (Nat.ble i 38)
  (cnd (Nat.ble i 37)
  (cnd (Nat.beq i 37) (cnd (Nat.beq (len a) 1) (oK (extA .noEscape a h) k) False) False)
  (cnd (Nat.beq i 38) (f38 (r38 c k m) 0 (finit a) h) False))
  (cnd (Nat.ble i 39)
  (cnd (Nat.beq i 39) (f39 (r39 c k m) 0 (finit a) h) False)
  (cnd (Nat.beq i 40) (f40 (r40 c k m) 0 (finit a) h) False)))
  (cnd (Nat.ble i 42)
  (cnd (Nat.ble i 41)
  (cnd (Nat.beq i 41) (f41 (r41 c k m) 0 (finit a) h) False)
  (cnd (Nat.beq i 42) (f42 (r42 c k m) 0 (finit a) h) False))
  (cnd (Nat.ble i 43)
  (cnd (Nat.beq i 43) (f43 (r43 c k m) 0 (finit a) h) False)
  (cnd (Nat.ble i 44)
  (cnd (Nat.beq i 44) (f44 (r44 c k m) 0 (finit a) h) False)
  (cnd (Nat.beq i 45) (f45 (r45 c k m) 0 (finit a) h) False)))))
  (cnd (Nat.ble i 49)
  (cnd (Nat.ble i 47)
  (cnd (Nat.ble i 46)
  (cnd (Nat.beq i 46) (f46 (r46 c k m) 0 (finit a) h) False)
  (cnd (Nat.beq i 47) (f47 (r47 c k m) 0 (finit a) h) False))
  (cnd (Nat.ble i 48)
  (cnd (Nat.beq i 48) (f48 (r48 c k m) 0 (finit a) h) False)
  (cnd (Nat.beq i 49) (f49 (r49 c k m) 0 (finit a) h) False)))
  (cnd (Nat.ble i 51)
  (cnd (Nat.ble i 50)
  (cnd (Nat.beq i 50) (f50 (r50 c k m) 0 (finit a) h) False)
  (cnd (Nat.beq i 51) (f51 (r51 c k m) 0 (finit a) h) False))
  (cnd (Nat.ble i 54)
  (cnd (Nat.beq i 54) (f54 (r54 c k m) 0 (finit a) h) False)
  (cnd (Nat.ble i 56)
  (cnd (Nat.beq i 56) (f56 (r56 c k m) 0 (finit a) h) False)
  (cnd (Nat.beq i 57) (f57 (r57 c k m) 0 (finit a) h) False))))))
  (cnd (Nat.ble i 72)
  (cnd (Nat.ble i 61)
  (cnd (Nat.ble i 59)
  (cnd (Nat.ble i 58)
  (cnd (Nat.beq i 58) (f58 (r58 c k m) 0 (finit a) h) False)
  (cnd (Nat.beq i 59) (f59 (r59 c k m) 0 (finit a) h) False))
  (cnd (Nat.ble i 60)
  (cnd (Nat.beq i 60) (f60 (r60 c k m) 0 (finit a) h) False)
  (cnd (Nat.beq i 61) (f61 (r61 c k m) 0 (finit a) h) False)))
  (cnd (Nat.ble i 63)
  (cnd (Nat.ble i 62)
  (cnd (Nat.beq i 62) (f62 (r62 c k m) 0 (finit a) h) False)
  (cnd (Nat.beq i 63) (f63 (r63 c k m) 0 (finit a) h) False))
  (cnd (Nat.ble i 67)
  (cnd (Nat.beq i 67) (f67 (r67 c k m) 0 (finit a) h) False)
  (cnd (Nat.ble i 68)
  (cnd (Nat.beq i 68) (f68 (r68 c k m) 0 (finit a) h) False)
  (cnd (Nat.beq i 72) (f72 (r72 c k m) 0 (finit a) h) False)))))
  (cnd (Nat.ble i 82)
  (cnd (Nat.ble i 74)
  (cnd (Nat.ble i 73)
  (cnd (Nat.beq i 73) (f73 (r73 c k m) 0 (finit a) h) False)
  (cnd (Nat.beq i 74) (f74 (r74 c k m) 0 (finit a) h) False))
  (cnd (Nat.ble i 78)
  (cnd (Nat.beq i 78) (f78 (r78 c k m) 0 (finit a) h) False)
  (cnd (Nat.beq i 82) (f82 (r82 c k m) 0 (finit a) h) False)))
  (cnd (Nat.ble i 86)
  (cnd (Nat.ble i 83)
  (cnd (Nat.beq i 83) (f83 (r83 c k m) 0 (finit a) h) False)
  (cnd (Nat.beq i 86) (cnd (Nat.beq (len a) 2) (oK (extA .indexByte a h) k) False) False))
  (cnd (Nat.ble i 87)
  (cnd (Nat.beq i 87) (f87 (r87 c k m) 0 (finit a) h) False)
  (cnd (Nat.ble i 92)
  (cnd (Nat.beq i 92) (f92 (r92 c k m) 0 (finit a) h) False)
  (cnd (Nat.beq i 143) (f143 (r143 c k m) 0 (finit a) h) False)))))))
noncomputable def calls (m : Nat) (n : Nat) : Caller Prop FT := Nat.rec (fun _ _ _ _ => False) (fun _ c fn a h k => Fn.rec (fun i => disp c m i a h k) (fun _ => False) (fun _ _ => False) (fun _ _ _ _ => False) (fun _ => False) fn) n
theorem x37 {a : List AV} {h : H} {k : KV} (hg : cnd (Nat.beq (len a) 1) (oK (extA .noEscape a h) k) False) : SW Go.Proofs.Tryz.prog G (.func 37) a h k :=
  extern_ok (e := .noEscape) (n := 1) rfl (fun args w => run_callFunc_extern (e := extM .noEscape) Go.Proofs.Tryz.func37 (by kernel_rfl) (by kernel_rfl) (by kernel_rfl) (by kernel_rfl) args w) hg
theorem x86 {a : List AV} {h : H} {k : KV} (hg : cnd (Nat.beq (len a) 2) (oK (extA .indexByte a h) k) False) : SW Go.Proofs.Tryz.prog G (.func 86) a h k :=
  extern_ok (e := .indexByte) (n := 2) rfl (fun args w => run_callFunc_extern (e := extM .indexByte) Go.Proofs.Tryz.func86 (by kernel_rfl) (by kernel_rfl) (by kernel_rfl) (by kernel_rfl) args w) hg
theorem disp_ok {c : Caller Prop FT} (hc : CallOk Go.Proofs.Tryz.prog (CP env) G (fun p => p) c) {m i : Nat} {a : List AV} {h : H} {k : KV} (hg : disp c m i a h k) : SW Go.Proofs.Tryz.prog G (.func i) a h k :=
  (cndN
  (cndN
  (cndN
  (cndN
  (cndN
  (cndN
  (cndL (T := fun q => SW Go.Proofs.Tryz.prog G (.func q) a h k) (fun hx => w2 hc hx))
  (cndL (T := fun q => SW Go.Proofs.Tryz.prog G (.func q) a h k) (fun hx => w3 hc hx)))
  (cndN
  (cndL (T := fun q => SW Go.Proofs.Tryz.prog G (.func q) a h k) (fun hx => w4 hc hx))
  (cndL (T := fun q => SW Go.Proofs.Tryz.prog G (.func q) a h k) (fun hx => w5 hc hx))))
  (cndN
  (cndN
  (cndL (T := fun q => SW Go.Proofs.Tryz.prog G (.func q) a h k) (fun hx => w6 hc hx))
  (cndL (T := fun q => SW Go.Proofs.Tryz.prog G (.func q) a h k) (fun hx => w7 hc hx)))
  (cndN
  (cndL (T := fun q => SW Go.Proofs.Tryz.prog G (.func q) a h k) (fun hx => w8 hc hx))
  (cndL (T := fun q => SW Go.Proofs.Tryz.prog G (.func q) a h k) (fun hx => w9 hc hx)))))
  (cndN
  (cndN
  (cndN
  (cndL (T := fun q => SW Go.Proofs.Tryz.prog G (.func q) a h k) (fun hx => w10 hc hx))
  (cndL (T := fun q => SW Go.Proofs.Tryz.prog G (.func q) a h k) (fun hx => w11 hc hx)))
  (cndN
  (cndL (T := fun q => SW Go.Proofs.Tryz.prog G (.func q) a h k) (fun hx => w12 hc hx))
  (cndL (T := fun q => SW Go.Proofs.Tryz.prog G (.func q) a h k) (fun hx => w13 hc hx))))
  (cndN
  (cndN
  (cndL (T := fun q => SW Go.Proofs.Tryz.prog G (.func q) a h k) (fun hx => w14 hc hx))
  (cndL (T := fun q => SW Go.Proofs.Tryz.prog G (.func q) a h k) (fun hx => w15 hc hx)))
  (cndN
  (cndL (T := fun q => SW Go.Proofs.Tryz.prog G (.func q) a h k) (fun hx => w16 hc hx))
  (cndN
  (cndL (T := fun q => SW Go.Proofs.Tryz.prog G (.func q) a h k) (fun hx => w17 hc hx))
  (cndL (T := fun q => SW Go.Proofs.Tryz.prog G (.func q) a h k) (fun hx => w18 hc hx)))))))
  (cndN
  (cndN
  (cndN
  (cndN
  (cndL (T := fun q => SW Go.Proofs.Tryz.prog G (.func q) a h k) (fun hx => w19 hc hx))
  (cndL (T := fun q => SW Go.Proofs.Tryz.prog G (.func q) a h k) (fun hx => w20 hc hx)))
  (cndN
  (cndL (T := fun q => SW Go.Proofs.Tryz.prog G (.func q) a h k) (fun hx => w21 hc hx))
  (cndL (T := fun q => SW Go.Proofs.Tryz.prog G (.func q) a h k) (fun hx => w22 hc hx))))
  (cndN
  (cndN
  (cndL (T := fun q => SW Go.Proofs.Tryz.prog G (.func q) a h k) (fun hx => w23 hc hx))
  (cndL (T := fun q => SW Go.Proofs.Tryz.prog G (.func q) a h k) (fun hx => w24 hc hx)))
  (cndN
  (cndL (T := fun q => SW Go.Proofs.Tryz.prog G (.func q) a h k) (fun hx => w25 hc hx))
  (cndN
  (cndL (T := fun q => SW Go.Proofs.Tryz.prog G (.func q) a h k) (fun hx => w26 hc hx))
  (cndL (T := fun q => SW Go.Proofs.Tryz.prog G (.func q) a h k) (fun hx => w27 hc hx))))))
  (cndN
  (cndN
  (cndN
  (cndL (T := fun q => SW Go.Proofs.Tryz.prog G (.func q) a h k) (fun hx => w28 hc hx))
  (cndL (T := fun q => SW Go.Proofs.Tryz.prog G (.func q) a h k) (fun hx => w29 hc hx)))
  (cndN
  (cndL (T := fun q => SW Go.Proofs.Tryz.prog G (.func q) a h k) (fun hx => w30 hc hx))
  (cndL (T := fun q => SW Go.Proofs.Tryz.prog G (.func q) a h k) (fun hx => w31 hc hx))))
  (cndN
  (cndN
  (cndL (T := fun q => SW Go.Proofs.Tryz.prog G (.func q) a h k) (fun hx => w32 hc hx))
  (cndL (T := fun q => SW Go.Proofs.Tryz.prog G (.func q) a h k) (fun hx => w33 hc hx)))
  (cndN
  (cndL (T := fun q => SW Go.Proofs.Tryz.prog G (.func q) a h k) (fun hx => w34 hc hx))
  (cndN
  (cndL (T := fun q => SW Go.Proofs.Tryz.prog G (.func q) a h k) (fun hx => w35 hc hx))
  (cndL (T := fun q => SW Go.Proofs.Tryz.prog G (.func q) a h k) (fun hx => w36 hc hx))))))))
  (cndN
  (cndN
  (cndN
  (cndN
  (cndN
  (cndL (T := fun q => SW Go.Proofs.Tryz.prog G (.func q) a h k) (fun hx => x37 hx))
  (cndL (T := fun q => SW Go.Proofs.Tryz.prog G (.func q) a h k) (fun hx => w38 hc hx)))
  (cndN
  (cndL (T := fun q => SW Go.Proofs.Tryz.prog G (.func q) a h k) (fun hx => w39 hc hx))
  (cndL (T := fun q => SW Go.Proofs.Tryz.prog G (.func q) a h k) (fun hx => w40 hc hx))))
  (cndN
  (cndN
  (cndL (T := fun q => SW Go.Proofs.Tryz.prog G (.func q) a h k) (fun hx => w41 hc hx))
  (cndL (T := fun q => SW Go.Proofs.Tryz.prog G (.func q) a h k) (fun hx => w42 hc hx)))
  (cndN
  (cndL (T := fun q => SW Go.Proofs.Tryz.prog G (.func q) a h k) (fun hx => w43 hc hx))
  (cndN
  (cndL (T := fun q => SW Go.Proofs.Tryz.prog G (.func q) a h k) (fun hx => w44 hc hx))
  (cndL (T := fun q => SW Go.Proofs.Tryz.prog G (.func q) a h k) (fun hx => w45 hc hx))))))
  (cndN
  (cndN
  (cndN
  (cndL (T := fun q => SW Go.Proofs.Tryz.prog G (.func q) a h k) (fun hx => w46 hc hx))
  (cndL (T := fun q => SW Go.Proofs.Tryz.prog G (.func q) a h k) (fun hx => w47 hc hx)))
  (cndN
  (cndL (T := fun q => SW Go.Proofs.Tryz.prog G (.func q) a h k) (fun hx => w48 hc hx))
  (cndL (T := fun q => SW Go.Proofs.Tryz.prog G (.func q) a h k) (fun hx => w49 hc hx))))
  (cndN
  (cndN
  (cndL (T := fun q => SW Go.Proofs.Tryz.prog G (.func q) a h k) (fun hx => w50 hc hx))
  (cndL (T := fun q => SW Go.Proofs.Tryz.prog G (.func q) a h k) (fun hx => w51 hc hx)))
  (cndN
  (cndL (T := fun q => SW Go.Proofs.Tryz.prog G (.func q) a h k) (fun hx => w54 hc hx))
  (cndN
  (cndL (T := fun q => SW Go.Proofs.Tryz.prog G (.func q) a h k) (fun hx => w56 hc hx))
  (cndL (T := fun q => SW Go.Proofs.Tryz.prog G (.func q) a h k) (fun hx => w57 hc hx)))))))
  (cndN
  (cndN
  (cndN
  (cndN
  (cndL (T := fun q => SW Go.Proofs.Tryz.prog G (.func q) a h k) (fun hx => w58 hc hx))
  (cndL (T := fun q => SW Go.Proofs.Tryz.prog G (.func q) a h k) (fun hx => w59 hc hx)))
  (cndN
  (cndL (T := fun q => SW Go.Proofs.Tryz.prog G (.func q) a h k) (fun hx => w60 hc hx))
  (cndL (T := fun q => SW Go.Proofs.Tryz.prog G (.func q) a h k) (fun hx => w61 hc hx))))
  (cndN
  (cndN
  (cndL (T := fun q => SW Go.Proofs.Tryz.prog G (.func q) a h k) (fun hx => w62 hc hx))
  (cndL (T := fun q => SW Go.Proofs.Tryz.prog G (.func q) a h k) (fun hx => w63 hc hx)))
  (cndN
  (cndL (T := fun q => SW Go.Proofs.Tryz.prog G (.func q) a h k) (fun hx => w67 hc hx))
  (cndN
  (cndL (T := fun q => SW Go.Proofs.Tryz.prog G (.func q) a h k) (fun hx => w68 hc hx))
  (cndL (T := fun q => SW Go.Proofs.Tryz.prog G (.func q) a h k) (fun hx => w72 hc hx))))))
  (cndN
  (cndN
  (cndN
  (cndL (T := fun q => SW Go.Proofs.Tryz.prog G (.func q) a h k) (fun hx => w73 hc hx))
  (cndL (T := fun q => SW Go.Proofs.Tryz.prog G (.func q) a h k) (fun hx => w74 hc hx)))
  (cndN
  (cndL (T := fun q => SW Go.Proofs.Tryz.prog G (.func q) a h k) (fun hx => w78 hc hx))
  (cndL (T := fun q => SW Go.Proofs.Tryz.prog G (.func q) a h k) (fun hx => w82 hc hx))))
  (cndN
  (cndN
  (cndL (T := fun q => SW Go.Proofs.Tryz.prog G (.func q) a h k) (fun hx => w83 hc hx))
  (cndL (T := fun q => SW Go.Proofs.Tryz.prog G (.func q) a h k) (fun hx => x86 hx)))
  (cndN
  (cndL (T := fun q => SW Go.Proofs.Tryz.prog G (.func q) a h k) (fun hx => w87 hc hx))
  (cndN
  (cndL (T := fun q => SW Go.Proofs.Tryz.prog G (.func q) a h k) (fun hx => w92 hc hx))
  (cndL (T := fun q => SW Go.Proofs.Tryz.prog G (.func q) a h k) (fun hx => w143 hc hx))))))))) hg
theorem calls_ok (m : Nat) : ∀ n, CallOk Go.Proofs.Tryz.prog (CP env) G (fun p => p) (calls m n)
  | 0 => fun _ _ _ _ _ _ _ _ _ _ _ _ hg => hg.elim
  | n + 1 => fun μ h w fn fn' args vargs k s gl hf hv hg => by
    cases fn with
    | func i => exact disp_ok (calls_ok m n) (show disp (calls m n) m i args h k from hg) μ w fn' vargs s gl hf hv
    | _ => exact hg.elim

theorem g3 {c : Caller Prop FT} {k : KV} {n : Nat} {l_0 : Nat} {c_0 : Nat} {n_1 : Int} {h : H} (hg : s3_0 c k (r3 c k n) l_0 c_0 n_1 h) : f3 (r3 c k (n + 1)) 0 (finit [.str l_0 c_0, .int .i64 n_1]) h := hg
theorem j3_0 {c : Caller Prop FT} {k : KV} {n : Nat} {x0 : Nat} {x1 : Nat} {x2 : Int} {h : H} (hg : s3_0 c k (r3 c k n) x0 x1 x2 h) : (r3 c k (n + 1)).a0 x0 x1 x2 h := hg
theorem j3_1 {c : Caller Prop FT} {k : KV} {n : Nat} {x0 : Nat} {x1 : Nat} {x2 : Int} {x3 : Int} {h : H} (hg : s3_1 c k (r3 c k n) x0 x1 x2 x3 h) : (r3 c k (n + 1)).a1 x0 x1 x2 x3 h := hg
theorem j3_2 {c : Caller Prop FT} {k : KV} {n : Nat} {x0 : Nat} {x1 : Nat} {x2 : Int} {x3 : Int} {x4 : Bool} {h : H} (hg : s3_2 c k (r3 c k n) x0 x1 x2 x3 x4 h) : (r3 c k (n + 1)).a2 x0 x1 x2 x3 x4 h := hg
theorem j3_3 {c : Caller Prop FT} {k : KV} {n : Nat} {x0 : Nat} {x1 : Nat} {x2 : Int} {x3 : AV} {x4 : Bool} {x5 : AV} {x6 : Bool} {x7 : Bool} {x8 : Bool} {x9 : Int} {x10 : Nat} {x11 : Nat} {x12 : Bool} {x13 : Bool} {h : H} (hg : s3_3 c k (r3 c k n) x0 x1 x2 x3 x4 x5 x6 x7 x8 x9 x10 x11 x12 x13 h) : (r3 c k (n + 1)).a3 x0 x1 x2 x3 x4 x5 x6 x7 x8 x9 x10 x11 x12 x13 h := hg
theorem g4 {c : Caller Prop FT} {k : KV} {n : Nat} {n_1 : Int} {v_0 : AV} {h : H} (hg : s4_0 c k (r4 c k n) v_0 n_1 h) : f4 (r4 c k (n + 1)) 0 (finit [v_0, .int .i64 n_1]) h := hg
theorem j4_0 {c : Caller Prop FT} {k : KV} {n : Nat} {x0 : AV} {x1 : Int} {h : H} (hg : s4_0 c k (r4 c k n) x0 x1 h) : (r4 c k (n + 1)).a0 x0 x1 h := hg
theorem j4_1 {c : Caller Prop FT} {k : KV} {n : Nat} {x0 : AV} {x1 : Int} {x2 : Nat} {x3 : Nat} {x4 : Nat} {x5 : Nat} {x6 : Int} {h : H} (hg : s4_1 c k (r4 c k n) x0 x1 x2 x3 x4 x5 x6 h) : (r4 c k (n + 1)).a1 x0 x1 x2 x3 x4 x5 x6 h := hg
theorem j4_2 {c : Caller Prop FT} {k : KV} {n : Nat} {x0 : AV} {x1 : Int} {x2 : Nat} {x3 : Nat} {x4 : Nat} {x5 : Nat} {x6 : Int} {x7 : Int} {h : H} (hg : s4_2 c k (r4 c k n) x0 x1 x2 x3 x4 x5 x6 x7 h) : (r4 c k (n + 1)).a2 x0 x1 x2 x3 x4 x5 x6 x7 h := hg
theorem j4_3 {c : Caller Prop FT} {k : KV} {n : Nat} {x0 : AV} {x1 : Int} {x2 : Nat} {x3 : Nat} {x4 : Nat} {x5 : Nat} {x6 : Int} {h : H} (hg : s4_3 c k (r4 c k n) x0 x1 x2 x3 x4 x5 x6 h) : (r4 c k (n + 1)).a3 x0 x1 x2 x3 x4 x5 x6 h := hg
theorem g5 {c : Caller Prop FT} {k : KV} {n : Nat}  {h : H} (hg : s5_0 c k (r5 c k n) h) : f5 (r5 c k (n + 1)) 0 (finit []) h := hg
theorem g6 {c : Caller Prop FT} {k : KV} {n : Nat} {v_0 : AV} {h : H} (hg : s6_0 c k (r6 c k n) v_0 h) : f6 (r6 c k (n + 1)) 0 (finit [v_0]) h := hg
theorem j6_0 {c : Caller Prop FT} {k : KV} {n : Nat} {x0 : AV} {h : H} (hg : s6_0 c k (r6 c k n) x0 h) : (r6 c k (n + 1)).a0 x0 h := hg
theorem j6_1 {c : Caller Prop FT} {k : KV} {n : Nat} {x0 : AV} {x1 : AV} {x2 : AV} {x3 : Int} {x4 : Int} {h : H} (hg : s6_1 c k (r6 c k n) x0 x1 x2 x3 x4 h) : (r6 c k (n + 1)).a1 x0 x1 x2 x3 x4 h := hg
theorem j6_2 {c : Caller Prop FT} {k : KV} {n : Nat} {x0 : AV} {x1 : AV} {x2 : AV} {x3 : AV} {x4 : Int} {x5 : Int} {h : H} (hg : s6_2 c k (r6 c k n) x0 x1 x2 x3 x4 x5 h) : (r6 c k (n + 1)).a2 x0 x1 x2 x3 x4 x5 h := hg
theorem g7 {c : Caller Prop FT} {k : KV} {n : Nat} {l_0 : Nat} {c_0 : Nat} {h : H} (hg : s7_0 c k (r7 c k n) l_0 c_0 h) : f7 (r7 c k (n + 1)) 0 (finit [.str l_0 c_0]) h := hg
theorem g8 {c : Caller Prop FT} {k : KV} {n : Nat} {v_0 : AV} {h : H} (hg : s8_0 c k (r8 c k n) v_0 h) : f8 (r8 c k (n + 1)) 0 (finit [v_0]) h := hg
theorem j8_0 {c : Caller Prop FT} {k : KV} {n : Nat} {x0 : AV} {h : H} (hg : s8_0 c k (r8 c k n) x0 h) : (r8 c k (n + 1)).a0 x0 h := hg
theorem j8_1 {c : Caller Prop FT} {k : KV} {n : Nat}  {h : H} (hg : s8_1 c k (r8 c k n)  h) : (r8 c k (n + 1)).a1  h := hg
theorem g9 {c : Caller Prop FT} {k : KV} {n : Nat} {n_0 : Int} {h : H} (hg : s9_0 c k (r9 c k n) n_0 h) : f9 (r9 c k (n + 1)) 0 (finit [.int .i64 n_0]) h := hg
theorem g10 {c : Caller Prop FT} {k : KV} {n : Nat} {n_0 : Int} {n_1 : Int} {h : H} (hg : s10_0 c k (r10 c k n) n_0 n_1 h) : f10 (r10 c k (n + 1)) 0 (finit [.int .i64 n_0, .int .i64 n_1]) h := hg
theorem g11 {c : Caller Prop FT} {k : KV} {n : Nat} {v_0 : AV} {h : H} (hg : s11_0 c k (r11 c k n) v_0 h) : f11 (r11 c k (n + 1)) 0 (finit [v_0]) h := hg
theorem g12 {c : Caller Prop FT} {k : KV} {n : Nat} {l_1 : Nat} {c_1 : Nat} {v_0 : AV} {h : H} (hg : s12_0 c k (r12 c k n) v_0 l_1 c_1 h) : f12 (r12 c k (n + 1)) 0 (finit [v_0, .str l_1 c_1]) h := hg
theorem g13 {c : Caller Prop FT} {k : KV} {n : Nat} {n_1 : Int} {v_0 : AV} {h : H} (hg : s13_0 c k (r13 c k n) v_0 n_1 h) : f13 (r13 c k (n + 1)) 0 (finit [v_0, .int .u8 n_1]) h := hg
theorem g14 {c : Caller Prop FT} {k : KV} {n : Nat} {l_1 : Nat} {c_1 : Nat} {v_0 : AV} {h : H} (hg : s14_0 c k (r14 c k n) v_0 l_1 c_1 h) : f14 (r14 c k (n + 1)) 0 (finit [v_0, .str l_1 c_1]) h := hg
theorem g15 {c : Caller Prop FT} {k : KV} {n : Nat} {v_0 : AV} {h : H} (hg : s15_0 c k (r15 c k n) v_0 h) : f15 (r15 c k (n + 1)) 0 (finit [v_0]) h := hg
theorem g16 {c : Caller Prop FT} {k : KV} {n : Nat} {v_0 : AV} {h : H} (hg : s16_0 c k (r16 c k n) v_0 h) : f16 (r16 c k (n + 1)) 0 (finit [v_0]) h := hg
theorem g17 {c : Caller Prop FT} {k : KV} {n : Nat} {l_0 : Nat} {c_0 : Nat} {l_1 : Nat} {c_1 : Nat} {h : H} (hg : s17_0 c k (r17 c k n) l_0 c_0 l_1 c_1 h) : f17 (r17 c k (n + 1)) 0 (finit [.str l_0 c_0, .str l_1 c_1]) h := hg
theorem j17_0 {c : Caller Prop FT} {k : KV} {n : Nat} {x0 : Nat} {x1 : Nat} {x2 : Nat} {x3 : Nat} {h : H} (hg : s17_0 c k (r17 c k n) x0 x1 x2 x3 h) : (r17 c k (n + 1)).a0 x0 x1 x2 x3 h := hg
theorem j17_1 {c : Caller Prop FT} {k : KV} {n : Nat} {x0 : Nat} {x1 : Nat} {x2 : Nat} {x3 : Nat} {x4 : AV} {x5 : AV} {x6 : AV} {x7 : AV} {x8 : Bool} {x9 : Int} {h : H} (hg : s17_1 c k (r17 c k n) x0 x1 x2 x3 x4 x5 x6 x7 x8 x9 h) : (r17 c k (n + 1)).a1 x0 x1 x2 x3 x4 x5 x6 x7 x8 x9 h := hg
theorem j17_2 {c : Caller Prop FT} {k : KV} {n : Nat} {x0 : Nat} {x1 : Nat} {x2 : Nat} {x3 : Nat} {x4 : AV} {x5 : AV} {x6 : AV} {x7 : AV} {x8 : Int} {h : H} (hg : s17_2 c k (r17 c k n) x0 x1 x2 x3 x4 x5 x6 x7 x8 h) : (r17 c k (n + 1)).a2 x0 x1 x2 x3 x4 x5 x6 x7 x8 h := hg
theorem j17_3 {c : Caller Prop FT} {k : KV} {n : Nat} {x0 : AV} {x1 : AV} {h : H} (hg : s17_3 c k (r17 c k n) x0 x1 h) : (r17 c k (n + 1)).a3 x0 x1 h := hg
theorem j17_4 {c : Caller Prop FT} {k : KV} {n : Nat} {x0 : Nat} {x1 : Nat} {x2 : AV} {x3 : AV} {x4 : AV} {h : H} (hg : s17_4 c k (r17 c k n) x0 x1 x2 x3 x4 h) : (r17 c k (n + 1)).a4 x0 x1 x2 x3 x4 h := hg
theorem j17_5 {c : Caller Prop FT} {k : KV} {n : Nat} {x0 : Nat} {x1 : Nat} {x2 : Nat} {x3 : Nat} {x4 : AV} {x5 : AV} {x6 : AV} {x7 : AV} {x8 : Bool} {x9 : Int} {x10 : Int} {x11 : Int} {x12 : Bool} {h : H} (hg : s17_5 c k (r17 c k n) x0 x1 x2 x3 x4 x5 x6 x7 x8 x9 x10 x11 x12 h) : (r17 c k (n + 1)).a5 x0 x1 x2 x3 x4 x5 x6 x7 x8 x9 x10 x11 x12 h := hg
theorem g18 {c : Caller Prop FT} {k : KV} {n : Nat} {v_0 : AV} {h : H} (hg : s18_0 c k (r18 c k n) v_0 h) : f18 (r18 c k (n + 1)) 0 (finit [v_0]) h := hg
theorem g19 {c : Caller Prop FT} {k : KV} {n : Nat} {l_0 : Nat} {c_0 : Nat} {l_1 : Nat} {c_1 : Nat} {h : H} (hg : s19_0 c k (r19 c k n) l_0 c_0 l_1 c_1 h) : f19 (r19 c k (n + 1)) 0 (finit [.str l_0 c_0, .str l_1 c_1]) h := hg
theorem g20 {c : Caller Prop FT} {k : KV} {n : Nat} {l_0 : Nat} {c_0 : Nat} {h : H} (hg : s20_0 c k (r20 c k n) l_0 c_0 h) : f20 (r20 c k (n + 1)) 0 (finit [.str l_0 c_0]) h := hg
theorem j20_0 {c : Caller Prop FT} {k : KV} {n : Nat} {x0 : Nat} {x1 : Nat} {h : H} (hg : s20_0 c k (r20 c k n) x0 x1 h) : (r20 c k (n + 1)).a0 x0 x1 h := hg
theorem j20_1 {c : Caller Prop FT} {k : KV} {n : Nat} {x0 : Nat} {x1 : Nat} {x2 : AV} {x3 : Nat} {x4 : Nat} {h : H} (hg : s20_1 c k (r20 c k n) x0 x1 x2 x3 x4 h) : (r20 c k (n + 1)).a1 x0 x1 x2 x3 x4 h := hg
theorem j20_2 {c : Caller Prop FT} {k : KV} {n : Nat}  {h : H} (hg : s20_2 c k (r20 c k n)  h) : (r20 c k (n + 1)).a2  h := hg
theorem j20_3 {c : Caller Prop FT} {k : KV} {n : Nat} {x0 : Nat} {x1 : Nat} {x2 : AV} {x3 : Nat} {x4 : Nat} {x5 : Int} {x6 : Int} {h : H} (hg : s20_3 c k (r20 c k n) x0 x1 x2 x3 x4 x5 x6 h) : (r20 c k (n + 1)).a3 x0 x1 x2 x3 x4 x5 x6 h := hg
theorem g21 {c : Caller Prop FT} {k : KV} {n : Nat} {n_0 : Int} {h : H} (hg : s21_0 c k (r21 c k n) n_0 h) : f21 (r21 c k (n + 1)) 0 (finit [.int .i64 n_0]) h := hg
theorem j21_0 {c : Caller Prop FT} {k : KV} {n : Nat} {x0 : Int} {h : H} (hg : s21_0 c k (r21 c k n) x0 h) : (r21 c k (n + 1)).a0 x0 h := hg
theorem j21_1 {c : Caller Prop FT} {k : KV} {n : Nat} {x0 : Int} {x1 : Nat} {x2 : Nat} {x3 : AV} {h : H} (hg : s21_1 c k (r21 c k n) x0 x1 x2 x3 h) : (r21 c k (n + 1)).a1 x0 x1 x2 x3 h := hg
theorem j21_2 {c : Caller Prop FT} {k : KV} {n : Nat} {x0 : Int} {x1 : Nat} {x2 : Nat} {h : H} (hg : s21_2 c k (r21 c k n) x0 x1 x2 h) : (r21 c k (n + 1)).a2 x0 x1 x2 h := hg
theorem g22 {c : Caller Prop FT} {k : KV} {n : Nat} {l_0 : Nat} {c_0 : Nat} {l_1 : Nat} {c_1 : Nat} {h : H} (hg : s22_0 c k (r22 c k n) l_0 c_0 l_1 c_1 h) : f22 (r22 c k (n + 1)) 0 (finit [.str l_0 c_0, .str l_1 c_1]) h := hg
theorem g23 {c : Caller Prop FT} {k : KV} {n : Nat} {l_0 : Nat} {c_0 : Nat} {l_1 : Nat} {c_1 : Nat} {h : H} (hg : s23_0 c k (r23 c k n) l_0 c_0 l_1 c_1 h) : f23 (r23 c k (n + 1)) 0 (finit [.str l_0 c_0, .str l_1 c_1]) h := hg
theorem g24 {c : Caller Prop FT} {k : KV} {n : Nat} {v_0 : AV} {h : H} (hg : s24_0 c k (r24 c k n) v_0 h) : f24 (r24 c k (n + 1)) 0 (finit [v_0]) h := hg
theorem g25 {c : Caller Prop FT} {k : KV} {n : Nat} {l_0 : Nat} {c_0 : Nat} {h : H} (hg : s25_0 c k (r25 c k n) l_0 c_0 h) : f25 (r25 c k (n + 1)) 0 (finit [.str l_0 c_0]) h := hg
theorem g26 {c : Caller Prop FT} {k : KV} {n : Nat} {n_0 : Int} {h : H} (hg : s26_0 c k (r26 c k n) n_0 h) : f26 (r26 c k (n + 1)) 0 (finit [.int .u8 n_0]) h := hg
theorem g27 {c : Caller Prop FT} {k : KV} {n : Nat} {n_1 : Int} {v_0 : AV} {h : H} (hg : s27_0 c k (r27 c k n) v_0 n_1 h) : f27 (r27 c k (n + 1)) 0 (finit [v_0, .int .i64 n_1]) h := hg
theorem j27_0 {c : Caller Prop FT} {k : KV} {n : Nat} {x0 : AV} {x1 : Int} {h : H} (hg : s27_0 c k (r27 c k n) x0 x1 h) : (r27 c k (n + 1)).a0 x0 x1 h := hg
theorem j27_1 {c : Caller Prop FT} {k : KV} {n : Nat} {x0 : AV} {x1 : Int} {h : H} (hg : s27_1 c k (r27 c k n) x0 x1 h) : (r27 c k (n + 1)).a1 x0 x1 h := hg
theorem j27_2 {c : Caller Prop FT} {k : KV} {n : Nat} {x0 : AV} {x1 : Int} {h : H} (hg : s27_2 c k (r27 c k n) x0 x1 h) : (r27 c k (n + 1)).a2 x0 x1 h := hg
theorem g28 {c : Caller Prop FT} {k : KV} {n : Nat} {n_1 : Int} {v_0 : AV} {h : H} (hg : s28_0 c k (r28 c k n) v_0 n_1 h) : f28 (r28 c k (n + 1)) 0 (finit [v_0, .int .i64 n_1]) h := hg
theorem j28_0 {c : Caller Prop FT} {k : KV} {n : Nat} {x0 : AV} {x1 : Int} {h : H} (hg : s28_0 c k (r28 c k n) x0 x1 h) : (r28 c k (n + 1)).a0 x0 x1 h := hg
theorem j28_1 {c : Caller Prop FT} {k : KV} {n : Nat} {x0 : AV} {x1 : Int} {h : H} (hg : s28_1 c k (r28 c k n) x0 x1 h) : (r28 c k (n + 1)).a1 x0 x1 h := hg
theorem j28_2 {c : Caller Prop FT} {k : KV} {n : Nat} {x0 : AV} {x1 : Int} {h : H} (hg : s28_2 c k (r28 c k n) x0 x1 h) : (r28 c k (n + 1)).a2 x0 x1 h := hg
theorem g29 {c : Caller Prop FT} {k : KV} {n : Nat} {v_0 : AV} {h : H} (hg : s29_0 c k (r29 c k n) v_0 h) : f29 (r29 c k (n + 1)) 0 (finit [v_0]) h := hg
theorem j29_0 {c : Caller Prop FT} {k : KV} {n : Nat} {x0 : AV} {h : H} (hg : s29_0 c k (r29 c k n) x0 h) : (r29 c k (n + 1)).a0 x0 h := hg
theorem j29_1 {c : Caller Prop FT} {k : KV} {n : Nat} {x0 : AV} {x1 : AV} {x2 : Int} {h : H} (hg : s29_1 c k (r29 c k n) x0 x1 x2 h) : (r29 c k (n + 1)).a1 x0 x1 x2 h := hg
theorem g30 {c : Caller Prop FT} {k : KV} {n : Nat} {l_0 : Nat} {c_0 : Nat} {l_1 : Nat} {c_1 : Nat} {h : H} (hg : s30_0 c k (r30 c k n) l_0 c_0 l_1 c_1 h) : f30 (r30 c k (n + 1)) 0 (finit [.str l_0 c_0, .str l_1 c_1]) h := hg
theorem g31 {c : Caller Prop FT} {k : KV} {n : Nat} {l_0 : Nat} {c_0 : Nat} {h : H} (hg : s31_0 c k (r31 c k n) l_0 c_0 h) : f31 (r31 c k (n + 1)) 0 (finit [.str l_0 c_0]) h := hg
theorem g32 {c : Caller Prop FT} {k : KV} {n : Nat} {l_0 : Nat} {c_0 : Nat} {l_1 : Nat} {c_1 : Nat} {h : H} (hg : s32_0 c k (r32 c k n) l_0 c_0 l_1 c_1 h) : f32 (r32 c k (n + 1)) 0 (finit [.str l_0 c_0, .str l_1 c_1]) h := hg
theorem g33 {c : Caller Prop FT} {k : KV} {n : Nat} {l_0 : Nat} {c_0 : Nat} {h : H} (hg : s33_0 c k (r33 c k n) l_0 c_0 h) : f33 (r33 c k (n + 1)) 0 (finit [.str l_0 c_0]) h := hg
theorem j33_0 {c : Caller Prop FT} {k : KV} {n : Nat} {x0 : Nat} {x1 : Nat} {h : H} (hg : s33_0 c k (r33 c k n) x0 x1 h) : (r33 c k (n + 1)).a0 x0 x1 h := hg
theorem j33_1 {c : Caller Prop FT} {k : KV} {n : Nat} {x0 : Nat} {x1 : Nat} {x2 : AV} {x3 : Int} {x4 : Int} {h : H} (hg : s33_1 c k (r33 c k n) x0 x1 x2 x3 x4 h) : (r33 c k (n + 1)).a1 x0 x1 x2 x3 x4 h := hg
theorem g34 {c : Caller Prop FT} {k : KV} {n : Nat} {l_0 : Nat} {c_0 : Nat} {h : H} (hg : s34_0 c k (r34 c k n) l_0 c_0 h) : f34 (r34 c k (n + 1)) 0 (finit [.str l_0 c_0]) h := hg
theorem j34_0 {c : Caller Prop FT} {k : KV} {n : Nat} {x0 : Nat} {x1 : Nat} {h : H} (hg : s34_0 c k (r34 c k n) x0 x1 h) : (r34 c k (n + 1)).a0 x0 x1 h := hg
theorem j34_1 {c : Caller Prop FT} {k : KV} {n : Nat} {x0 : Int} {x1 : Int} {x2 : Int} {x3 : AV} {h : H} (hg : s34_1 c k (r34 c k n) x0 x1 x2 x3 h) : (r34 c k (n + 1)).a1 x0 x1 x2 x3 h := hg
theorem j34_2 {c : Caller Prop FT} {k : KV} {n : Nat} {x0 : Nat} {x1 : Nat} {x2 : Int} {x3 : Int} {x4 : Int} {h : H} (hg : s34_2 c k (r34 c k n) x0 x1 x2 x3 x4 h) : (r34 c k (n + 1)).a2 x0 x1 x2 x3 x4 h := hg
theorem g35 {c : Caller Prop FT} {k : KV} {n : Nat} {l_0 : Nat} {c_0 : Nat} {l_1 : Nat} {c_1 : Nat} {h : H} (hg : s35_0 c k (r35 c k n) l_0 c_0 l_1 c_1 h) : f35 (r35 c k (n + 1)) 0 (finit [.str l_0 c_0, .str l_1 c_1]) h := hg
theorem g36 {c : Caller Prop FT} {k : KV} {n : Nat} {l_0 : Nat} {c_0 : Nat} {l_1 : Nat} {c_1 : Nat} {h : H} (hg : s36_0 c k (r36 c k n) l_0 c_0 l_1 c_1 h) : f36 (r36 c k (n + 1)) 0 (finit [.str l_0 c_0, .str l_1 c_1]) h := hg
theorem g38 {c : Caller Prop FT} {k : KV} {n : Nat} {v_0 : AV} {h : H} (hg : s38_0 c k (r38 c k n) v_0 h) : f38 (r38 c k (n + 1)) 0 (finit [v_0]) h := hg
theorem j38_0 {c : Caller Prop FT} {k : KV} {n : Nat} {x0 : AV} {h : H} (hg : s38_0 c k (r38 c k n) x0 h) : (r38 c k (n + 1)).a0 x0 h := hg
theorem j38_1 {c : Caller Prop FT} {k : KV} {n : Nat} {x0 : AV} {x1 : AV} {x2 : Int} {h : H} (hg : s38_1 c k (r38 c k n) x0 x1 x2 h) : (r38 c k (n + 1)).a1 x0 x1 x2 h := hg
theorem j38_2 {c : Caller Prop FT} {k : KV} {n : Nat} {x0 : AV} {x1 : AV} {x2 : Int} {h : H} (hg : s38_2 c k (r38 c k n) x0 x1 x2 h) : (r38 c k (n + 1)).a2 x0 x1 x2 h := hg
theorem g39 {c : Caller Prop FT} {k : KV} {n : Nat} {l_0 : Nat} {c_0 : Nat} {h : H} (hg : s39_0 c k (r39 c k n) l_0 c_0 h) : f39 (r39 c k (n + 1)) 0 (finit [.str l_0 c_0]) h := hg
theorem j39_0 {c : Caller Prop FT} {k : KV} {n : Nat} {x0 : Nat} {x1 : Nat} {h : H} (hg : s39_0 c k (r39 c k n) x0 x1 h) : (r39 c k (n + 1)).a0 x0 x1 h := hg
theorem j39_1 {c : Caller Prop FT} {k : KV} {n : Nat} {x0 : Nat} {x1 : Nat} {x2 : AV} {x3 : Int} {h : H} (hg : s39_1 c k (r39 c k n) x0 x1 x2 x3 h) : (r39 c k (n + 1)).a1 x0 x1 x2 x3 h := hg
theorem j39_2 {c : Caller Prop FT} {k : KV} {n : Nat} {x0 : Nat} {x1 : Nat} {x2 : AV} {x3 : Int} {h : H} (hg : s39_2 c k (r39 c k n) x0 x1 x2 x3 h) : (r39 c k (n + 1)).a2 x0 x1 x2 x3 h := hg
theorem g40 {c : Caller Prop FT} {k : KV} {n : Nat} {n_1 : Int} {v_0 : AV} {h : H} (hg : s40_0 c k (r40 c k n) v_0 n_1 h) : f40 (r40 c k (n + 1)) 0 (finit [v_0, .int .i64 n_1]) h := hg
theorem g41 {c : Caller Prop FT} {k : KV} {n : Nat} {n_1 : Int} {v_0 : AV} {h : H} (hg : s41_0 c k (r41 c k n) v_0 n_1 h) : f41 (r41 c k (n + 1)) 0 (finit [v_0, .int .i64 n_1]) h := hg
theorem g42 {c : Caller Prop FT} {k : KV} {n : Nat} {n_1 : Int} {v_0 : AV} {h : H} (hg : s42_0 c k (r42 c k n) v_0 n_1 h) : f42 (r42 c k (n + 1)) 0 (finit [v_0, .int .i64 n_1]) h := hg
theorem j42_0 {c : Caller Prop FT} {k : KV} {n : Nat} {x0 : AV} {x1 : Int} {h : H} (hg : s42_0 c k (r42 c k n) x0 x1 h) : (r42 c k (n + 1)).a0 x0 x1 h := hg
theorem j42_1 {c : Caller Prop FT} {k : KV} {n : Nat} {x0 : AV} {x1 : Int} {x2 : Int} {h : H} (hg : s42_1 c k (r42 c k n) x0 x1 x2 h) : (r42 c k (n + 1)).a1 x0 x1 x2 h := hg
theorem j42_2 {c : Caller Prop FT} {k : KV} {n : Nat} {x0 : AV} {x1 : Int} {x2 : Int} {h : H} (hg : s42_2 c k (r42 c k n) x0 x1 x2 h) : (r42 c k (n + 1)).a2 x0 x1 x2 h := hg
theorem g43 {c : Caller Prop FT} {k : KV} {n : Nat} {n_0 : Int} {h : H} (hg : s43_0 c k (r43 c k n) n_0 h) : f43 (r43 c k (n + 1)) 0 (finit [.int .u8 n_0]) h := hg
theorem g44 {c : Caller Prop FT} {k : KV} {n : Nat} {n_0 : Int} {h : H} (hg : s44_0 c k (r44 c k n) n_0 h) : f44 (r44 c k (n + 1)) 0 (finit [.int .u8 n_0]) h := hg
theorem g45 {c : Caller Prop FT} {k : KV} {n : Nat} {n_1 : Int} {v_0 : AV} {h : H} (hg : s45_0 c k (r45 c k n) v_0 n_1 h) : f45 (r45 c k (n + 1)) 0 (finit [v_0, .int .i64 n_1]) h := hg
theorem j45_0 {c : Caller Prop FT} {k : KV} {n : Nat} {x0 : AV} {x1 : Int} {h : H} (hg : s45_0 c k (r45 c k n) x0 x1 h) : (r45 c k (n + 1)).a0 x0 x1 h := hg
theorem j45_1 {c : Caller Prop FT} {k : KV} {n : Nat} {x0 : AV} {x1 : Int} {h : H} (hg : s45_1 c k (r45 c k n) x0 x1 h) : (r45 c k (n + 1)).a1 x0 x1 h := hg
theorem g46 {c : Caller Prop FT} {k : KV} {n : Nat} {n_1 : Int} {v_0 : AV} {h : H} (hg : s46_0 c k (r46 c k n) v_0 n_1 h) : f46 (r46 c k (n + 1)) 0 (finit [v_0, .int .i64 n_1]) h := hg
theorem j46_0 {c : Caller Prop FT} {k : KV} {n : Nat} {x0 : AV} {x1 : Int} {h : H} (hg : s46_0 c k (r46 c k n) x0 x1 h) : (r46 c k (n + 1)).a0 x0 x1 h := hg
theorem j46_1 {c : Caller Prop FT} {k : KV} {n : Nat} {x0 : AV} {x1 : Int} {x2 : AV} {x3 : Int} {h : H} (hg : s46_1 c k (r46 c k n) x0 x1 x2 x3 h) : (r46 c k (n + 1)).a1 x0 x1 x2 x3 h := hg
theorem j46_2 {c : Caller Prop FT} {k : KV} {n : Nat} {x0 : AV} {x1 : Int} {x2 : AV} {x3 : Int} {x4 : Int} {h : H} (hg : s46_2 c k (r46 c k n) x0 x1 x2 x3 x4 h) : (r46 c k (n + 1)).a2 x0 x1 x2 x3 x4 h := hg
theorem g47 {c : Caller Prop FT} {k : KV} {n : Nat} {l_0 : Nat} {c_0 : Nat} {n_1 : Int} {h : H} (hg : s47_0 c k (r47 c k n) l_0 c_0 n_1 h) : f47 (r47 c k (n + 1)) 0 (finit [.str l_0 c_0, .int .u8 n_1]) h := hg
theorem j47_0 {c : Caller Prop FT} {k : KV} {n : Nat} {x0 : Nat} {x1 : Nat} {x2 : Int} {h : H} (hg : s47_0 c k (r47 c k n) x0 x1 x2 h) : (r47 c k (n + 1)).a0 x0 x1 x2 h := hg
theorem j47_1 {c : Caller Prop FT} {k : KV} {n : Nat} {x0 : Nat} {x1 : Nat} {x2 : Int} {h : H} (hg : s47_1 c k (r47 c k n) x0 x1 x2 h) : (r47 c k (n + 1)).a1 x0 x1 x2 h := hg
theorem g48 {c : Caller Prop FT} {k : KV} {n : Nat} {l_0 : Nat} {c_0 : Nat} {n_1 : Int} {h : H} (hg : s48_0 c k (r48 c k n) l_0 c_0 n_1 h) : f48 (r48 c k (n + 1)) 0 (finit [.str l_0 c_0, .int .u8 n_1]) h := hg
theorem j48_0 {c : Caller Prop FT} {k : KV} {n : Nat} {x0 : Nat} {x1 : Nat} {x2 : Int} {h : H} (hg : s48_0 c k (r48 c k n) x0 x1 x2 h) : (r48 c k (n + 1)).a0 x0 x1 x2 h := hg
theorem j48_1 {c : Caller Prop FT} {k : KV} {n : Nat} {x0 : Nat} {x1 : Nat} {x2 : Int} {h : H} (hg : s48_1 c k (r48 c k n) x0 x1 x2 h) : (r48 c k (n + 1)).a1 x0 x1 x2 h := hg
theorem g49 {c : Caller Prop FT} {k : KV} {n : Nat} {l_0 : Nat} {c_0 : Nat} {h : H} (hg : s49_0 c k (r49 c k n) l_0 c_0 h) : f49 (r49 c k (n + 1)) 0 (finit [.str l_0 c_0]) h := hg
theorem j49_0 {c : Caller Prop FT} {k : KV} {n : Nat} {x0 : Nat} {x1 : Nat} {h : H} (hg : s49_0 c k (r49 c k n) x0 x1 h) : (r49 c k (n + 1)).a0 x0 x1 h := hg
theorem j49_1 {c : Caller Prop FT} {k : KV} {n : Nat} {x0 : Nat} {x1 : Nat} {x2 : AV} {x3 : Int} {h : H} (hg : s49_1 c k (r49 c k n) x0 x1 x2 x3 h) : (r49 c k (n + 1)).a1 x0 x1 x2 x3 h := hg
theorem g50 {c : Caller Prop FT} {k : KV} {n : Nat} {l_0 : Nat} {c_0 : Nat} {v_1 : AV} {h : H} (hg : s50_0 c k (r50 c k n) l_0 c_0 v_1 h) : f50 (r50 c k (n + 1)) 0 (finit [.str l_0 c_0, v_1]) h := hg
theorem j50_0 {c : Caller Prop FT} {k : KV} {n : Nat} {x0 : Nat} {x1 : Nat} {x2 : AV} {h : H} (hg : s50_0 c k (r50 c k n) x0 x1 x2 h) : (r50 c k (n + 1)).a0 x0 x1 x2 h := hg
theorem j50_1 {c : Caller Prop FT} {k : KV} {n : Nat} {x0 : Nat} {x1 : Nat} {x2 : AV} {h : H} (hg : s50_1 c k (r50 c k n) x0 x1 x2 h) : (r50 c k (n + 1)).a1 x0 x1 x2 h := hg
theorem g51 {c : Caller Prop FT} {k : KV} {n : Nat} {l_0 : Nat} {c_0 : Nat} {v_1 : AV} {h : H} (hg : s51_0 c k (r51 c k n) l_0 c_0 v_1 h) : f51 (r51 c k (n + 1)) 0 (finit [.str l_0 c_0, v_1]) h := hg
theorem j51_0 {c : Caller Prop FT} {k : KV} {n : Nat} {x0 : Nat} {x1 : Nat} {x2 : AV} {h : H} (hg : s51_0 c k (r51 c k n) x0 x1 x2 h) : (r51 c k (n + 1)).a0 x0 x1 x2 h := hg
theorem j51_1 {c : Caller Prop FT} {k : KV} {n : Nat} {x0 : Nat} {x1 : Nat} {x2 : AV} {h : H} (hg : s51_1 c k (r51 c k n) x0 x1 x2 h) : (r51 c k (n + 1)).a1 x0 x1 x2 h := hg
theorem g54 {c : Caller Prop FT} {k : KV} {n : Nat} {l_0 : Nat} {c_0 : Nat} {h : H} (hg : s54_0 c k (r54 c k n) l_0 c_0 h) : f54 (r54 c k (n + 1)) 0 (finit [.str l_0 c_0]) h := hg
theorem j54_0 {c : Caller Prop FT} {k : KV} {n : Nat} {x0 : Nat} {x1 : Nat} {h : H} (hg : s54_0 c k (r54 c k n) x0 x1 h) : (r54 c k (n + 1)).a0 x0 x1 h := hg
theorem j54_1 {c : Caller Prop FT} {k : KV} {n : Nat} {x0 : Nat} {x1 : Nat} {x2 : Int} {x3 : AV} {x4 : Int} {x5 : Int} {h : H} (hg : s54_1 c k (r54 c k n) x0 x1 x2 x3 x4 x5 h) : (r54 c k (n + 1)).a1 x0 x1 x2 x3 x4 x5 h := hg
theorem j54_2 {c : Caller Prop FT} {k : KV} {n : Nat} {x0 : Int} {h : H} (hg : s54_2 c k (r54 c k n) x0 h) : (r54 c k (n + 1)).a2 x0 h := hg
theorem j54_3 {c : Caller Prop FT} {k : KV} {n : Nat} {x0 : Nat} {x1 : Nat} {x2 : Nat} {x3 : Nat} {h : H} (hg : s54_3 c k (r54 c k n) x0 x1 x2 x3 h) : (r54 c k (n + 1)).a3 x0 x1 x2 x3 h := hg
theorem g56 {c : Caller Prop FT} {k : KV} {n : Nat} {l_0 : Nat} {c_0 : Nat} {n_1 : Int} {h : H} (hg : s56_0 c k (r56 c k n) l_0 c_0 n_1 h) : f56 (r56 c k (n + 1)) 0 (finit [.str l_0 c_0, .int .u8 n_1]) h := hg
theorem g57 {c : Caller Prop FT} {k : KV} {n : Nat} {l_0 : Nat} {c_0 : Nat} {l_1 : Nat} {c_1 : Nat} {h : H} (hg : s57_0 c k (r57 c k n) l_0 c_0 l_1 c_1 h) : f57 (r57 c k (n + 1)) 0 (finit [.str l_0 c_0, .str l_1 c_1]) h := hg
theorem g58 {c : Caller Prop FT} {k : KV} {n : Nat} {l_0 : Nat} {c_0 : Nat} {h : H} (hg : s58_0 c k (r58 c k n) l_0 c_0 h) : f58 (r58 c k (n + 1)) 0 (finit [.str l_0 c_0]) h := hg
theorem j58_0 {c : Caller Prop FT} {k : KV} {n : Nat} {x0 : Nat} {x1 : Nat} {h : H} (hg : s58_0 c k (r58 c k n) x0 x1 h) : (r58 c k (n + 1)).a0 x0 x1 h := hg
theorem j58_1 {c : Caller Prop FT} {k : KV} {n : Nat} {x0 : Nat} {x1 : Nat} {x2 : Bool} {x3 : Bool} {x4 : Int} {h : H} (hg : s58_1 c k (r58 c k n) x0 x1 x2 x3 x4 h) : (r58 c k (n + 1)).a1 x0 x1 x2 x3 x4 h := hg
theorem j58_2 {c : Caller Prop FT} {k : KV} {n : Nat} {x0 : Nat} {x1 : Nat} {x2 : AV} {x3 : Int} {x4 : Int} {h : H} (hg : s58_2 c k (r58 c k n) x0 x1 x2 x3 x4 h) : (r58 c k (n + 1)).a2 x0 x1 x2 x3 x4 h := hg
theorem j58_3 {c : Caller Prop FT} {k : KV} {n : Nat} {x0 : Nat} {x1 : Nat} {x2 : AV} {x3 : Int} {x4 : Int} {h : H} (hg : s58_3 c k (r58 c k n) x0 x1 x2 x3 x4 h) : (r58 c k (n + 1)).a3 x0 x1 x2 x3 x4 h := hg
theorem j58_4 {c : Caller Prop FT} {k : KV} {n : Nat} {x0 : Nat} {x1 : Nat} {x2 : AV} {x3 : Int} {x4 : Int} {h : H} (hg : s58_4 c k (r58 c k n) x0 x1 x2 x3 x4 h) : (r58 c k (n + 1)).a4 x0 x1 x2 x3 x4 h := hg
theorem j58_5 {c : Caller Prop FT} {k : KV} {n : Nat} {x0 : Nat} {x1 : Nat} {x2 : Bool} {x3 : Bool} {h : H} (hg : s58_5 c k (r58 c k n) x0 x1 x2 x3 h) : (r58 c k (n + 1)).a5 x0 x1 x2 x3 h := hg
theorem g59 {c : Caller Prop FT} {k : KV} {n : Nat} {l_0 : Nat} {c_0 : Nat} {n_1 : Int} {h : H} (hg : s59_0 c k (r59 c k n) l_0 c_0 n_1 h) : f59 (r59 c k (n + 1)) 0 (finit [.str l_0 c_0, .int .i32 n_1]) h := hg
theorem j59_0 {c : Caller Prop FT} {k : KV} {n : Nat} {x0 : Nat} {x1 : Nat} {x2 : Int} {h : H} (hg : s59_0 c k (r59 c k n) x0 x1 x2 h) : (r59 c k (n + 1)).a0 x0 x1 x2 h := hg
theorem j59_1 {c : Caller Prop FT} {k : KV} {n : Nat} {x0 : AV} {h : H} (hg : s59_1 c k (r59 c k n) x0 h) : (r59 c k (n + 1)).a1 x0 h := hg
theorem j59_2 {c : Caller Prop FT} {k : KV} {n : Nat} {x0 : Nat} {x1 : Nat} {x2 : Int} {x3 : Nat} {x4 : Nat} {x5 : Int} {x6 : Int} {x7 : Int} {h : H} (hg : s59_2 c k (r59 c k n) x0 x1 x2 x3 x4 x5 x6 x7 h) : (r59 c k (n + 1)).a2 x0 x1 x2 x3 x4 x5 x6 x7 h := hg
theorem j59_3 {c : Caller Prop FT} {k : KV} {n : Nat} {x0 : Nat} {x1 : Nat} {x2 : Int} {x3 : Nat} {x4 : Nat} {x5 : Int} {x6 : Int} {x7 : Int} {x8 : Int} {h : H} (hg : s59_3 c k (r59 c k n) x0 x1 x2 x3 x4 x5 x6 x7 x8 h) : (r59 c k (n + 1)).a3 x0 x1 x2 x3 x4 x5 x6 x7 x8 h := hg
theorem j59_4 {c : Caller Prop FT} {k : KV} {n : Nat} {x0 : Nat} {x1 : Nat} {x2 : Int} {x3 : Nat} {x4 : Nat} {x5 : Int} {x6 : Int} {x7 : Int} {h : H} (hg : s59_4 c k (r59 c k n) x0 x1 x2 x3 x4 x5 x6 x7 h) : (r59 c k (n + 1)).a4 x0 x1 x2 x3 x4 x5 x6 x7 h := hg
theorem j59_5 {c : Caller Prop FT} {k : KV} {n : Nat} {x0 : Nat} {x1 : Nat} {x2 : Int} {x3 : Nat} {x4 : Nat} {x5 : Int} {x6 : Int} {x7 : Int} {h : H} (hg : s59_5 c k (r59 c k n) x0 x1 x2 x3 x4 x5 x6 x7 h) : (r59 c k (n + 1)).a5 x0 x1 x2 x3 x4 x5 x6 x7 h := hg
theorem j59_6 {c : Caller Prop FT} {k : KV} {n : Nat} {x0 : Nat} {x1 : Nat} {x2 : Nat} {x3 : Nat} {x4 : Int} {x5 : Int} {x6 : Int} {x7 : Int} {h : H} (hg : s59_6 c k (r59 c k n) x0 x1 x2 x3 x4 x5 x6 x7 h) : (r59 c k (n + 1)).a6 x0 x1 x2 x3 x4 x5 x6 x7 h := hg
theorem j59_7 {c : Caller Prop FT} {k : KV} {n : Nat} {x0 : Nat} {x1 : Nat} {x2 : Nat} {x3 : Nat} {x4 : Int} {x5 : Int} {x6 : Int} {x7 : Int} {x8 : Int} {h : H} (hg : s59_7 c k (r59 c k n) x0 x1 x2 x3 x4 x5 x6 x7 x8 h) : (r59 c k (n + 1)).a7 x0 x1 x2 x3 x4 x5 x6 x7 x8 h := hg
theorem j59_8 {c : Caller Prop FT} {k : KV} {n : Nat} {x0 : Nat} {x1 : Nat} {x2 : Nat} {x3 : Nat} {x4 : Int} {x5 : Int} {x6 : Int} {x7 : Int} {h : H} (hg : s59_8 c k (r59 c k n) x0 x1 x2 x3 x4 x5 x6 x7 h) : (r59 c k (n + 1)).a8 x0 x1 x2 x3 x4 x5 x6 x7 h := hg
theorem j59_9 {c : Caller Prop FT} {k : KV} {n : Nat} {x0 : Nat} {x1 : Nat} {x2 : Nat} {x3 : Nat} {x4 : Int} {x5 : Int} {x6 : Int} {x7 : Int} {h : H} (hg : s59_9 c k (r59 c k n) x0 x1 x2 x3 x4 x5 x6 x7 h) : (r59 c k (n + 1)).a9 x0 x1 x2 x3 x4 x5 x6 x7 h := hg
theorem j59_10 {c : Caller Prop FT} {k : KV} {n : Nat} {x0 : Nat} {x1 : Nat} {x2 : Nat} {x3 : Nat} {x4 : Int} {x5 : Int} {x6 : Int} {x7 : Int} {h : H} (hg : s59_10 c k (r59 c k n) x0 x1 x2 x3 x4 x5 x6 x7 h) : (r59 c k (n + 1)).a10 x0 x1 x2 x3 x4 x5 x6 x7 h := hg
theorem j59_11 {c : Caller Prop FT} {k : KV} {n : Nat} {x0 : Nat} {x1 : Nat} {x2 : Nat} {x3 : Nat} {x4 : Int} {x5 : Int} {x6 : Int} {x7 : Int} {x8 : Int} {h : H} (hg : s59_11 c k (r59 c k n) x0 x1 x2 x3 x4 x5 x6 x7 x8 h) : (r59 c k (n + 1)).a11 x0 x1 x2 x3 x4 x5 x6 x7 x8 h := hg
theorem j59_12 {c : Caller Prop FT} {k : KV} {n : Nat} {x0 : Nat} {x1 : Nat} {x2 : Nat} {x3 : Nat} {x4 : Int} {x5 : Int} {x6 : Int} {x7 : Int} {h : H} (hg : s59_12 c k (r59 c k n) x0 x1 x2 x3 x4 x5 x6 x7 h) : (r59 c k (n + 1)).a12 x0 x1 x2 x3 x4 x5 x6 x7 h := hg
theorem j59_13 {c : Caller Prop FT} {k : KV} {n : Nat} {x0 : Nat} {x1 : Nat} {x2 : Int} {x3 : Nat} {x4 : Nat} {x5 : Int} {x6 : Int} {h : H} (hg : s59_13 c k (r59 c k n) x0 x1 x2 x3 x4 x5 x6 h) : (r59 c k (n + 1)).a13 x0 x1 x2 x3 x4 x5 x6 h := hg
theorem j59_14 {c : Caller Prop FT} {k : KV} {n : Nat} {x0 : Nat} {x1 : Nat} {x2 : Nat} {x3 : Nat} {x4 : Int} {x5 : Int} {x6 : Int} {x7 : Int} {h : H} (hg : s59_14 c k (r59 c k n) x0 x1 x2 x3 x4 x5 x6 x7 h) : (r59 c k (n + 1)).a14 x0 x1 x2 x3 x4 x5 x6 x7 h := hg
theorem j59_15 {c : Caller Prop FT} {k : KV} {n : Nat} {x0 : Nat} {x1 : Nat} {x2 : Nat} {x3 : Nat} {x4 : Int} {x5 : Int} {x6 : Int} {x7 : Int} {x8 : Int} {h : H} (hg : s59_15 c k (r59 c k n) x0 x1 x2 x3 x4 x5 x6 x7 x8 h) : (r59 c k (n + 1)).a15 x0 x1 x2 x3 x4 x5 x6 x7 x8 h := hg
theorem j59_16 {c : Caller Prop FT} {k : KV} {n : Nat} {x0 : Nat} {x1 : Nat} {x2 : Nat} {x3 : Nat} {x4 : Int} {x5 : Int} {x6 : Int} {x7 : Int} {h : H} (hg : s59_16 c k (r59 c k n) x0 x1 x2 x3 x4 x5 x6 x7 h) : (r59 c k (n + 1)).a16 x0 x1 x2 x3 x4 x5 x6 x7 h := hg
theorem j59_17 {c : Caller Prop FT} {k : KV} {n : Nat} {x0 : Nat} {x1 : Nat} {x2 : Nat} {x3 : Nat} {x4 : Int} {x5 : Int} {x6 : Int} {x7 : Int} {h : H} (hg : s59_17 c k (r59 c k n) x0 x1 x2 x3 x4 x5 x6 x7 h) : (r59 c k (n + 1)).a17 x0 x1 x2 x3 x4 x5 x6 x7 h := hg
theorem j59_18 {c : Caller Prop FT} {k : KV} {n : Nat} {x0 : Nat} {x1 : Nat} {x2 : Nat} {x3 : Nat} {x4 : Int} {x5 : Int} {x6 : Int} {x7 : Int} {h : H} (hg : s59_18 c k (r59 c k n) x0 x1 x2 x3 x4 x5 x6 x7 h) : (r59 c k (n + 1)).a18 x0 x1 x2 x3 x4 x5 x6 x7 h := hg
theorem j59_19 {c : Caller Prop FT} {k : KV} {n : Nat} {x0 : Nat} {x1 : Nat} {x2 : Nat} {x3 : Nat} {x4 : Int} {x5 : Int} {x6 : Int} {x7 : Int} {x8 : Int} {h : H} (hg : s59_19 c k (r59 c k n) x0 x1 x2 x3 x4 x5 x6 x7 x8 h) : (r59 c k (n + 1)).a19 x0 x1 x2 x3 x4 x5 x6 x7 x8 h := hg
theorem j59_20 {c : Caller Prop FT} {k : KV} {n : Nat} {x0 : Nat} {x1 : Nat} {x2 : Nat} {x3 : Nat} {x4 : Int} {x5 : Int} {x6 : Int} {x7 : Int} {h : H} (hg : s59_20 c k (r59 c k n) x0 x1 x2 x3 x4 x5 x6 x7 h) : (r59 c k (n + 1)).a20 x0 x1 x2 x3 x4 x5 x6 x7 h := hg
theorem j59_21 {c : Caller Prop FT} {k : KV} {n : Nat} {x0 : Int} {x1 : Int} {x2 : Int} {h : H} (hg : s59_21 c k (r59 c k n) x0 x1 x2 h) : (r59 c k (n + 1)).a21 x0 x1 x2 h := hg
theorem j59_22 {c : Caller Prop FT} {k : KV} {n : Nat} {x0 : Nat} {x1 : Nat} {x2 : Nat} {x3 : Nat} {x4 : Int} {x5 : Int} {x6 : Int} {x7 : Int} {h : H} (hg : s59_22 c k (r59 c k n) x0 x1 x2 x3 x4 x5 x6 x7 h) : (r59 c k (n + 1)).a22 x0 x1 x2 x3 x4 x5 x6 x7 h := hg
theorem g60 {c : Caller Prop FT} {k : KV} {n : Nat} {l_0 : Nat} {c_0 : Nat} {l_1 : Nat} {c_1 : Nat} {h : H} (hg : s60_0 c k (r60 c k n) l_0 c_0 l_1 c_1 h) : f60 (r60 c k (n + 1)) 0 (finit [.str l_0 c_0, .str l_1 c_1]) h := hg
theorem g61 {c : Caller Prop FT} {k : KV} {n : Nat} {n_0 : Int} {h : H} (hg : s61_0 c k (r61 c k n) n_0 h) : f61 (r61 c k (n + 1)) 0 (finit [.int .u8 n_0]) h := hg
theorem j61_0 {c : Caller Prop FT} {k : KV} {n : Nat} {x0 : Int} {h : H} (hg : s61_0 c k (r61 c k n) x0 h) : (r61 c k (n + 1)).a0 x0 h := hg
theorem j61_1 {c : Caller Prop FT} {k : KV} {n : Nat} {x0 : Int} {x1 : Int} {h : H} (hg : s61_1 c k (r61 c k n) x0 x1 h) : (r61 c k (n + 1)).a1 x0 x1 h := hg
theorem g62 {c : Caller Prop FT} {k : KV} {n : Nat}  {h : H} (hg : s62_0 c k (r62 c k n) h) : f62 (r62 c k (n + 1)) 0 (finit []) h := hg
theorem g63 {c : Caller Prop FT} {k : KV} {n : Nat} {n_1 : Int} {v_0 : AV} {h : H} (hg : s63_0 c k (r63 c k n) v_0 n_1 h) : f63 (r63 c k (n + 1)) 0 (finit [v_0, .int .u8 n_1]) h := hg
theorem g67 {c : Caller Prop FT} {k : KV} {n : Nat} {l_0 : Nat} {c_0 : Nat} {n_1 : Int} {n_2 : Int} {h : H} (hg : s67_0 c k (r67 c k n) l_0 c_0 n_1 n_2 h) : f67 (r67 c k (n + 1)) 0 (finit [.str l_0 c_0, .int .i64 n_1, .int .i64 n_2]) h := hg
theorem j67_0 {c : Caller Prop FT} {k : KV} {n : Nat} {x0 : Nat} {x1 : Nat} {x2 : Int} {x3 : Int} {h : H} (hg : s67_0 c k (r67 c k n) x0 x1 x2 x3 h) : (r67 c k (n + 1)).a0 x0 x1 x2 x3 h := hg
theorem j67_1 {c : Caller Prop FT} {k : KV} {n : Nat} {x0 : Int} {h : H} (hg : s67_1 c k (r67 c k n) x0 h) : (r67 c k (n + 1)).a1 x0 h := hg
theorem j67_2 {c : Caller Prop FT} {k : KV} {n : Nat} {x0 : Int} {x1 : Bool} {x2 : Int} {h : H} (hg : s67_2 c k (r67 c k n) x0 x1 x2 h) : (r67 c k (n + 1)).a2 x0 x1 x2 h := hg
theorem j67_3 {c : Caller Prop FT} {k : KV} {n : Nat} {x0 : Nat} {x1 : Nat} {x2 : Int} {x3 : Int} {x4 : Bool} {h : H} (hg : s67_3 c k (r67 c k n) x0 x1 x2 x3 x4 h) : (r67 c k (n + 1)).a3 x0 x1 x2 x3 x4 h := hg
theorem g68 {c : Caller Prop FT} {k : KV} {n : Nat} {l_0 : Nat} {c_0 : Nat} {l_1 : Nat} {c_1 : Nat} {h : H} (hg : s68_0 c k (r68 c k n) l_0 c_0 l_1 c_1 h) : f68 (r68 c k (n + 1)) 0 (finit [.str l_0 c_0, .str l_1 c_1]) h := hg
theorem g72 {c : Caller Prop FT} {k : KV} {n : Nat} {l_0 : Nat} {c_0 : Nat} {n_1 : Int} {h : H} (hg : s72_0 c k (r72 c k n) l_0 c_0 n_1 h) : f72 (r72 c k (n + 1)) 0 (finit [.str l_0 c_0, .int .u8 n_1]) h := hg
theorem g73 {c : Caller Prop FT} {k : KV} {n : Nat} {l_0 : Nat} {c_0 : Nat} {l_1 : Nat} {c_1 : Nat} {h : H} (hg : s73_0 c k (r73 c k n) l_0 c_0 l_1 c_1 h) : f73 (r73 c k (n + 1)) 0 (finit [.str l_0 c_0, .str l_1 c_1]) h := hg
theorem g74 {c : Caller Prop FT} {k : KV} {n : Nat} {n_1 : Int} {v_0 : AV} {h : H} (hg : s74_0 c k (r74 c k n) v_0 n_1 h) : f74 (r74 c k (n + 1)) 0 (finit [v_0, .int .i64 n_1]) h := hg
theorem j74_0 {c : Caller Prop FT} {k : KV} {n : Nat} {x0 : AV} {x1 : Int} {h : H} (hg : s74_0 c k (r74 c k n) x0 x1 h) : (r74 c k (n + 1)).a0 x0 x1 h := hg
theorem j74_1 {c : Caller Prop FT} {k : KV} {n : Nat} {x0 : AV} {x1 : Int} {h : H} (hg : s74_1 c k (r74 c k n) x0 x1 h) : (r74 c k (n + 1)).a1 x0 x1 h := hg
theorem g78 {c : Caller Prop FT} {k : KV} {n : Nat} {n_0 : Int} {h : H} (hg : s78_0 c k (r78 c k n) n_0 h) : f78 (r78 c k (n + 1)) 0 (finit [.int .i64 n_0]) h := hg
theorem g82 {c : Caller Prop FT} {k : KV} {n : Nat} {l_0 : Nat} {c_0 : Nat} {n_1 : Int} {n_2 : Int} {h : H} (hg : s82_0 c k (r82 c k n) l_0 c_0 n_1 n_2 h) : f82 (r82 c k (n + 1)) 0 (finit [.str l_0 c_0, .int .i64 n_1, .int .i64 n_2]) h := hg
theorem j82_0 {c : Caller Prop FT} {k : KV} {n : Nat} {x0 : Nat} {x1 : Nat} {x2 : Int} {x3 : Int} {h : H} (hg : s82_0 c k (r82 c k n) x0 x1 x2 x3 h) : (r82 c k (n + 1)).a0 x0 x1 x2 x3 h := hg
theorem j82_1 {c : Caller Prop FT} {k : KV} {n : Nat} {x0 : Int} {x1 : Bool} {x2 : Nat} {x3 : Nat} {x4 : Int} {x5 : Int} {x6 : Bool} {x7 : Int} {x8 : AV} {x9 : Int} {x10 : Int} {h : H} (hg : s82_1 c k (r82 c k n) x0 x1 x2 x3 x4 x5 x6 x7 x8 x9 x10 h) : (r82 c k (n + 1)).a1 x0 x1 x2 x3 x4 x5 x6 x7 x8 x9 x10 h := hg
theorem j82_2 {c : Caller Prop FT} {k : KV} {n : Nat} {x0 : Int} {x1 : Bool} {x2 : Nat} {x3 : Nat} {x4 : Int} {x5 : Int} {x6 : Bool} {x7 : Int} {x8 : Int} {x9 : AV} {x10 : Int} {x11 : Int} {h : H} (hg : s82_2 c k (r82 c k n) x0 x1 x2 x3 x4 x5 x6 x7 x8 x9 x10 x11 h) : (r82 c k (n + 1)).a2 x0 x1 x2 x3 x4 x5 x6 x7 x8 x9 x10 x11 h := hg
theorem j82_3 {c : Caller Prop FT} {k : KV} {n : Nat} {x0 : Nat} {x1 : Nat} {x2 : Int} {x3 : Int} {x4 : Bool} {x5 : Nat} {x6 : Nat} {x7 : Int} {h : H} (hg : s82_3 c k (r82 c k n) x0 x1 x2 x3 x4 x5 x6 x7 h) : (r82 c k (n + 1)).a3 x0 x1 x2 x3 x4 x5 x6 x7 h := hg
theorem j82_4 {c : Caller Prop FT} {k : KV} {n : Nat} {x0 : Nat} {x1 : Nat} {x2 : Int} {x3 : Int} {x4 : Bool} {x5 : Nat} {x6 : Nat} {h : H} (hg : s82_4 c k (r82 c k n) x0 x1 x2 x3 x4 x5 x6 h) : (r82 c k (n + 1)).a4 x0 x1 x2 x3 x4 x5 x6 h := hg
theorem j82_5 {c : Caller Prop FT} {k : KV} {n : Nat} {x0 : Nat} {x1 : Nat} {x2 : Int} {x3 : Int} {x4 : Bool} {x5 : Nat} {x6 : Nat} {h : H} (hg : s82_5 c k (r82 c k n) x0 x1 x2 x3 x4 x5 x6 h) : (r82 c k (n + 1)).a5 x0 x1 x2 x3 x4 x5 x6 h := hg
theorem g83 {c : Caller Prop FT} {k : KV} {n : Nat} {l_0 : Nat} {c_0 : Nat} {h : H} (hg : s83_0 c k (r83 c k n) l_0 c_0 h) : f83 (r83 c k (n + 1)) 0 (finit [.str l_0 c_0]) h := hg
theorem g87 {c : Caller Prop FT} {k : KV} {n : Nat} {n_1 : Int} {v_0 : AV} {h : H} (hg : s87_0 c k (r87 c k n) v_0 n_1 h) : f87 (r87 c k (n + 1)) 0 (finit [v_0, .int .i64 n_1]) h := hg
theorem g92 {c : Caller Prop FT} {k : KV} {n : Nat} {n_0 : Int} {h : H} (hg : s92_0 c k (r92 c k n) n_0 h) : f92 (r92 c k (n + 1)) 0 (finit [.int .u8 n_0]) h := hg
end Go.Den
