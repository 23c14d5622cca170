/-
  A part of the proof: the table of calls is the program's.
-/
import Derived.Test.YtpnfpdmkladmpaaGreatDoorTaC
import Derived.Test.YtpnfpdmkladmpaaGreatDoorTaB1
import Derived.Test.YtpnfpdmkladmpaaGreatDoorTaB2
import Derived.Test.YtpnfpdmkladmpaaGreatDoorTaB3
import Derived.Laws.Externs
import Derived.KernelRfl
namespace Go.Den
set_option maxRecDepth 100000
theorem x84 {a : List AV} {h : H} {k : KV} (hg : cnd (Nat.beq (len a) 2) (oK (extA (.aStore .i64) a h) k) False) : SW Go.Proofs.Tryz.prog G (.func 84) a h k :=
  extern_ok (e := (.aStore .i64)) (n := 2) rfl (fun args w => run_callFunc_extern (e := extM (.aStore .i64)) Go.Proofs.Tryz.func84 (by kernel_rfl) (by kernel_rfl) (by kernel_rfl) (by kernel_rfl) args w) hg
theorem x107 {a : List AV} {h : H} {k : KV} (hg : cnd (Nat.beq (len a) 2) (oK (extA (.aAdd .i64) a h) k) False) : SW Go.Proofs.Tryz.prog G (.func 107) a h k :=
  extern_ok (e := (.aAdd .i64)) (n := 2) rfl (fun args w => run_callFunc_extern (e := extM (.aAdd .i64)) Go.Proofs.Tryz.func107 (by kernel_rfl) (by kernel_rfl) (by kernel_rfl) (by kernel_rfl) args w) hg
theorem x149 {a : List AV} {h : H} {k : KV} (hg : cnd (Nat.beq (len a) 1) (oK (extA .noEscape a h) k) False) : SW Go.Proofs.Tryz.prog G (.func 149) a h k :=
  extern_ok (e := .noEscape) (n := 1) rfl (fun args w => run_callFunc_extern (e := extM .noEscape) Go.Proofs.Tryz.func149 (by kernel_rfl) (by kernel_rfl) (by kernel_rfl) (by kernel_rfl) args w) hg
theorem x226 {a : List AV} {h : H} {k : KV} (hg : cnd (Nat.beq (len a) 2) (oK (extA .indexByte a h) k) False) : SW Go.Proofs.Tryz.prog G (.func 226) a h k :=
  extern_ok (e := .indexByte) (n := 2) rfl (fun args w => run_callFunc_extern (e := extM .indexByte) Go.Proofs.Tryz.func226 (by kernel_rfl) (by kernel_rfl) (by kernel_rfl) (by kernel_rfl) args w) hg
theorem x228 {a : List AV} {h : H} {k : KV} (hg : cnd (Nat.beq (len a) 1) (oK (extA (.aLoad .u32) a h) k) False) : SW Go.Proofs.Tryz.prog G (.func 228) a h k :=
  extern_ok (e := (.aLoad .u32)) (n := 1) rfl (fun args w => run_callFunc_extern (e := extM (.aLoad .u32)) Go.Proofs.Tryz.func228 (by kernel_rfl) (by kernel_rfl) (by kernel_rfl) (by kernel_rfl) args w) hg
theorem x246 {a : List AV} {h : H} {k : KV} (hg : cnd (Nat.beq (len a) 1) (oK (extA (.aLoad .i64) a h) k) False) : SW Go.Proofs.Tryz.prog G (.func 246) a h k :=
  extern_ok (e := (.aLoad .i64)) (n := 1) rfl (fun args w => run_callFunc_extern (e := extM (.aLoad .i64)) Go.Proofs.Tryz.func246 (by kernel_rfl) (by kernel_rfl) (by kernel_rfl) (by kernel_rfl) args w) hg
theorem x247 {a : List AV} {h : H} {k : KV} (hg : cnd (Nat.beq (len a) 3) (oK (extA (.aCas .i64) a h) k) False) : SW Go.Proofs.Tryz.prog G (.func 247) a h k :=
  extern_ok (e := (.aCas .i64)) (n := 3) rfl (fun args w => run_callFunc_extern (e := extM (.aCas .i64)) Go.Proofs.Tryz.func247 (by kernel_rfl) (by kernel_rfl) (by kernel_rfl) (by kernel_rfl) args w) hg
theorem x257 {a : List AV} {h : H} {k : KV} (hg : cnd (Nat.beq (len a) 2) (oK (extA (.aStore .u32) a h) k) False) : SW Go.Proofs.Tryz.prog G (.func 257) a h k :=
  extern_ok (e := (.aStore .u32)) (n := 2) rfl (fun args w => run_callFunc_extern (e := extM (.aStore .u32)) Go.Proofs.Tryz.func257 (by kernel_rfl) (by kernel_rfl) (by kernel_rfl) (by kernel_rfl) args w) hg
theorem x279 {a : List AV} {h : H} {k : KV} (hg : cnd (Nat.beq (len a) 0) (k .undef h) False) : SW Go.Proofs.Tryz.prog G (.func 279) a h k :=
  mark0_ok (run_call_mark0 Go.Proofs.Tryz.func279 (by kernel_rfl) (by kernel_rfl) (by kernel_rfl) .disable (by kernel_rfl)) hg
theorem x280 {a : List AV} {h : H} {k : KV} (hg : cnd (Nat.beq (len a) 3) (oK (extA (.aCas .i32) a h) k) False) : SW Go.Proofs.Tryz.prog G (.func 280) a h k :=
  extern_ok (e := (.aCas .i32)) (n := 3) rfl (fun args w => run_callFunc_extern (e := extM (.aCas .i32)) Go.Proofs.Tryz.func280 (by kernel_rfl) (by kernel_rfl) (by kernel_rfl) (by kernel_rfl) args w) hg
theorem x281 {a : List AV} {h : H} {k : KV} (hg : cnd (Nat.beq (len a) 0) (k .undef h) False) : SW Go.Proofs.Tryz.prog G (.func 281) a h k :=
  mark0_ok (run_call_mark0 Go.Proofs.Tryz.func281 (by kernel_rfl) (by kernel_rfl) (by kernel_rfl) .enable (by kernel_rfl)) hg
theorem x282 {a : List AV} {h : H} {k : KV} (hg : asP (arg0 a) fun _ _ => cnd (Nat.beq (len a) 1) (k .undef h) False) : SW Go.Proofs.Tryz.prog G (.func 282) a h k :=
  mark1_ok (run_call_marked Go.Proofs.Tryz.func282 (by kernel_rfl) (by kernel_rfl) (by kernel_rfl) .acquire (by kernel_rfl)) hg
theorem x284 {a : List AV} {h : H} {k : KV} (hg : asP (arg0 a) fun _ _ => cnd (Nat.beq (len a) 1) (k .undef h) False) : SW Go.Proofs.Tryz.prog G (.func 284) a h k :=
  mark1_ok (run_call_marked Go.Proofs.Tryz.func284 (by kernel_rfl) (by kernel_rfl) (by kernel_rfl) .releaseMerge (by kernel_rfl)) hg
theorem x285 {a : List AV} {h : H} {k : KV} (hg : cnd (Nat.beq (len a) 2) (oK (extA (.aAdd .i32) a h) k) False) : SW Go.Proofs.Tryz.prog G (.func 285) a h k :=
  extern_ok (e := (.aAdd .i32)) (n := 2) rfl (fun args w => run_callFunc_extern (e := extM (.aAdd .i32)) Go.Proofs.Tryz.func285 (by kernel_rfl) (by kernel_rfl) (by kernel_rfl) (by kernel_rfl) args w) hg
theorem x395 {a : List AV} {h : H} {k : KV} (hg : cnd (Nat.beq (len a) 2) (oK (extA .count a h) k) False) : SW Go.Proofs.Tryz.prog G (.func 395) a h k :=
  extern_ok (e := .count) (n := 2) rfl (fun args w => run_callFunc_extern (e := extM .count) Go.Proofs.Tryz.func395 (by kernel_rfl) (by kernel_rfl) (by kernel_rfl) (by kernel_rfl) args w) hg
theorem w199 {c : Caller Prop FT} (hc : CallOk Go.Proofs.Tryz.prog (CP env) G (fun p => p) c) {k : KV} {m : Nat} {a : List AV} {h : H} (hg : onceP env c (oc 0).toList (takeL 3 (oc 1).toList) (oc 2).toList (takeL 3 (oc 3).toList) (oc 4).toList (.tmp 10) (.tmp 15) (.tmp 18) (fun a h k => f230 (r230 c k m) 0 (finit a) h) (fun a h k => f231 (r231 c k m) 0 (finit a) h) (finit a) h k) : SW Go.Proofs.Tryz.prog G (.func 199) a h k :=
  once_ok (o0 := oc 0) (o1 := oc 1) (o2 := oc 2) (o3 := oc 3) (o4 := oc 4) (u1 := 230) (u3 := 231) (d1 := operAt (oc 1).toList 3) (d3 := operAt (oc 3).toList 3) (i0 := idOf (codeAt d199 (.l .root))) (i1 := idOf (codeAt d199 (.l (.r .root)))) (i2 := idOf (codeAt d199 (.l (.r (.r .root))))) (i3 := idOf (codeAt d199 (.l (.l (.r (.r (.r .root))))))) (i4 := idOf (codeAt d199 (.r (.l (.r (.r (.r .root))))))) (a1 := atsOf (operAt (oc 1).toList 3)) (a3 := atsOf (operAt (oc 3).toList 3)) envOk hc Go.Proofs.Tryz.func199 (by kernel_rfl) (by kernel_rfl) (by kernel_rfl) (by kernel_rfl) (by kernel_rfl) ⟨by kernel_rfl, by kernel_rfl, by kernel_rfl⟩ ⟨by kernel_rfl, by kernel_rfl, by kernel_rfl⟩
    (by kernel_rfl) (by kernel_rfl) (by kernel_rfl) (by kernel_rfl) (by kernel_rfl) (by kernel_rfl) (by kernel_rfl) (by kernel_rfl) (fun _ _ _ hx => wd230 hc hx) (fun _ _ _ hx => wd231 hc hx) hg
theorem disp_ok {c : Caller Prop FT} (hc : CallOk Go.Proofs.Tryz.prog (CP env) G (fun p => p) c) {m i : Nat} {a : List AV} {h : H} {k : KV} (hg : disp c m i a h k) : SW Go.Proofs.Tryz.prog G (.func i) a h k :=
  (cndN
  (cndN
  (cndN
  (cndN
  (cndN
  (cndN
  (cndN
  (cndL (T := fun q => SW Go.Proofs.Tryz.prog G (.func q) a h k) (fun hx => w6 hc hx))
  (cndN
  (cndL (T := fun q => SW Go.Proofs.Tryz.prog G (.func q) a h k) (fun hx => w8 hc hx))
  (cndL (T := fun q => SW Go.Proofs.Tryz.prog G (.func q) a h k) (fun hx => w10 hc hx))))
  (cndN
  (cndL (T := fun q => SW Go.Proofs.Tryz.prog G (.func q) a h k) (fun hx => w11 hc hx))
  (cndN
  (cndL (T := fun q => SW Go.Proofs.Tryz.prog G (.func q) a h k) (fun hx => w13 hc hx))
  (cndL (T := fun q => SW Go.Proofs.Tryz.prog G (.func q) a h k) (fun hx => w14 hc hx)))))
  (cndN
  (cndN
  (cndL (T := fun q => SW Go.Proofs.Tryz.prog G (.func q) a h k) (fun hx => w15 hc hx))
  (cndN
  (cndL (T := fun q => SW Go.Proofs.Tryz.prog G (.func q) a h k) (fun hx => w16 hc hx))
  (cndL (T := fun q => SW Go.Proofs.Tryz.prog G (.func q) a h k) (fun hx => w17 hc hx))))
  (cndN
  (cndL (T := fun q => SW Go.Proofs.Tryz.prog G (.func q) a h k) (fun hx => w18 hc hx))
  (cndN
  (cndL (T := fun q => SW Go.Proofs.Tryz.prog G (.func q) a h k) (fun hx => w19 hc hx))
  (cndL (T := fun q => SW Go.Proofs.Tryz.prog G (.func q) a h k) (fun hx => w20 hc hx))))))
  (cndN
  (cndN
  (cndN
  (cndL (T := fun q => SW Go.Proofs.Tryz.prog G (.func q) a h k) (fun hx => w21 hc hx))
  (cndN
  (cndL (T := fun q => SW Go.Proofs.Tryz.prog G (.func q) a h k) (fun hx => w22 hc hx))
  (cndL (T := fun q => SW Go.Proofs.Tryz.prog G (.func q) a h k) (fun hx => w23 hc hx))))
  (cndN
  (cndL (T := fun q => SW Go.Proofs.Tryz.prog G (.func q) a h k) (fun hx => w24 hc hx))
  (cndN
  (cndL (T := fun q => SW Go.Proofs.Tryz.prog G (.func q) a h k) (fun hx => w25 hc hx))
  (cndL (T := fun q => SW Go.Proofs.Tryz.prog G (.func q) a h k) (fun hx => w26 hc hx)))))
  (cndN
  (cndN
  (cndL (T := fun q => SW Go.Proofs.Tryz.prog G (.func q) a h k) (fun hx => w27 hc hx))
  (cndN
  (cndL (T := fun q => SW Go.Proofs.Tryz.prog G (.func q) a h k) (fun hx => w28 hc hx))
  (cndL (T := fun q => SW Go.Proofs.Tryz.prog G (.func q) a h k) (fun hx => w29 hc hx))))
  (cndN
  (cndL (T := fun q => SW Go.Proofs.Tryz.prog G (.func q) a h k) (fun hx => w30 hc hx))
  (cndN
  (cndL (T := fun q => SW Go.Proofs.Tryz.prog G (.func q) a h k) (fun hx => w32 hc hx))
  (cndL (T := fun q => SW Go.Proofs.Tryz.prog G (.func q) a h k) (fun hx => w33 hc hx)))))))
  (cndN
  (cndN
  (cndN
  (cndN
  (cndL (T := fun q => SW Go.Proofs.Tryz.prog G (.func q) a h k) (fun hx => w34 hc hx))
  (cndN
  (cndL (T := fun q => SW Go.Proofs.Tryz.prog G (.func q) a h k) (fun hx => w35 hc hx))
  (cndL (T := fun q => SW Go.Proofs.Tryz.prog G (.func q) a h k) (fun hx => w36 hc hx))))
  (cndN
  (cndL (T := fun q => SW Go.Proofs.Tryz.prog G (.func q) a h k) (fun hx => w37 hc hx))
  (cndN
  (cndL (T := fun q => SW Go.Proofs.Tryz.prog G (.func q) a h k) (fun hx => w38 hc hx))
  (cndL (T := fun q => SW Go.Proofs.Tryz.prog G (.func q) a h k) (fun hx => w39 hc hx)))))
  (cndN
  (cndN
  (cndL (T := fun q => SW Go.Proofs.Tryz.prog G (.func q) a h k) (fun hx => w40 hc hx))
  (cndN
  (cndL (T := fun q => SW Go.Proofs.Tryz.prog G (.func q) a h k) (fun hx => w41 hc hx))
  (cndL (T := fun q => SW Go.Proofs.Tryz.prog G (.func q) a h k) (fun hx => w42 hc hx))))
  (cndN
  (cndL (T := fun q => SW Go.Proofs.Tryz.prog G (.func q) a h k) (fun hx => w43 hc hx))
  (cndN
  (cndL (T := fun q => SW Go.Proofs.Tryz.prog G (.func q) a h k) (fun hx => w44 hc hx))
  (cndL (T := fun q => SW Go.Proofs.Tryz.prog G (.func q) a h k) (fun hx => w45 hc hx))))))
  (cndN
  (cndN
  (cndN
  (cndL (T := fun q => SW Go.Proofs.Tryz.prog G (.func q) a h k) (fun hx => w46 hc hx))
  (cndN
  (cndL (T := fun q => SW Go.Proofs.Tryz.prog G (.func q) a h k) (fun hx => w47 hc hx))
  (cndL (T := fun q => SW Go.Proofs.Tryz.prog G (.func q) a h k) (fun hx => w48 hc hx))))
  (cndN
  (cndL (T := fun q => SW Go.Proofs.Tryz.prog G (.func q) a h k) (fun hx => w49 hc hx))
  (cndN
  (cndL (T := fun q => SW Go.Proofs.Tryz.prog G (.func q) a h k) (fun hx => w50 hc hx))
  (cndL (T := fun q => SW Go.Proofs.Tryz.prog G (.func q) a h k) (fun hx => w51 hc hx)))))
  (cndN
  (cndN
  (cndL (T := fun q => SW Go.Proofs.Tryz.prog G (.func q) a h k) (fun hx => w52 hc hx))
  (cndN
  (cndL (T := fun q => SW Go.Proofs.Tryz.prog G (.func q) a h k) (fun hx => w53 hc hx))
  (cndL (T := fun q => SW Go.Proofs.Tryz.prog G (.func q) a h k) (fun hx => w54 hc hx))))
  (cndN
  (cndN
  (cndL (T := fun q => SW Go.Proofs.Tryz.prog G (.func q) a h k) (fun hx => w55 hc hx))
  (cndL (T := fun q => SW Go.Proofs.Tryz.prog G (.func q) a h k) (fun hx => w56 hc hx)))
  (cndN
  (cndL (T := fun q => SW Go.Proofs.Tryz.prog G (.func q) a h k) (fun hx => w57 hc hx))
  (cndL (T := fun q => SW Go.Proofs.Tryz.prog G (.func q) a h k) (fun hx => w58 hc hx))))))))
  (cndN
  (cndN
  (cndN
  (cndN
  (cndN
  (cndL (T := fun q => SW Go.Proofs.Tryz.prog G (.func q) a h k) (fun hx => w59 hc hx))
  (cndN
  (cndL (T := fun q => SW Go.Proofs.Tryz.prog G (.func q) a h k) (fun hx => w60 hc hx))
  (cndL (T := fun q => SW Go.Proofs.Tryz.prog G (.func q) a h k) (fun hx => w61 hc hx))))
  (cndN
  (cndL (T := fun q => SW Go.Proofs.Tryz.prog G (.func q) a h k) (fun hx => w62 hc hx))
  (cndN
  (cndL (T := fun q => SW Go.Proofs.Tryz.prog G (.func q) a h k) (fun hx => w63 hc hx))
  (cndL (T := fun q => SW Go.Proofs.Tryz.prog G (.func q) a h k) (fun hx => w65 hc hx)))))
  (cndN
  (cndN
  (cndL (T := fun q => SW Go.Proofs.Tryz.prog G (.func q) a h k) (fun hx => w66 hc hx))
  (cndN
  (cndL (T := fun q => SW Go.Proofs.Tryz.prog G (.func q) a h k) (fun hx => w67 hc hx))
  (cndL (T := fun q => SW Go.Proofs.Tryz.prog G (.func q) a h k) (fun hx => w68 hc hx))))
  (cndN
  (cndL (T := fun q => SW Go.Proofs.Tryz.prog G (.func q) a h k) (fun hx => w69 hc hx))
  (cndN
  (cndL (T := fun q => SW Go.Proofs.Tryz.prog G (.func q) a h k) (fun hx => w70 hc hx))
  (cndL (T := fun q => SW Go.Proofs.Tryz.prog G (.func q) a h k) (fun hx => w71 hc hx))))))
  (cndN
  (cndN
  (cndN
  (cndL (T := fun q => SW Go.Proofs.Tryz.prog G (.func q) a h k) (fun hx => w72 hc hx))
  (cndN
  (cndL (T := fun q => SW Go.Proofs.Tryz.prog G (.func q) a h k) (fun hx => w73 hc hx))
  (cndL (T := fun q => SW Go.Proofs.Tryz.prog G (.func q) a h k) (fun hx => w74 hc hx))))
  (cndN
  (cndL (T := fun q => SW Go.Proofs.Tryz.prog G (.func q) a h k) (fun hx => w75 hc hx))
  (cndN
  (cndL (T := fun q => SW Go.Proofs.Tryz.prog G (.func q) a h k) (fun hx => w76 hc hx))
  (cndL (T := fun q => SW Go.Proofs.Tryz.prog G (.func q) a h k) (fun hx => w77 hc hx)))))
  (cndN
  (cndN
  (cndL (T := fun q => SW Go.Proofs.Tryz.prog G (.func q) a h k) (fun hx => w78 hc hx))
  (cndN
  (cndL (T := fun q => SW Go.Proofs.Tryz.prog G (.func q) a h k) (fun hx => w79 hc hx))
  (cndL (T := fun q => SW Go.Proofs.Tryz.prog G (.func q) a h k) (fun hx => w80 hc hx))))
  (cndN
  (cndL (T := fun q => SW Go.Proofs.Tryz.prog G (.func q) a h k) (fun hx => w81 hc hx))
  (cndN
  (cndL (T := fun q => SW Go.Proofs.Tryz.prog G (.func q) a h k) (fun hx => w83 hc hx))
  (cndL (T := fun q => SW Go.Proofs.Tryz.prog G (.func q) a h k) (fun hx => x84 hx)))))))
  (cndN
  (cndN
  (cndN
  (cndN
  (cndL (T := fun q => SW Go.Proofs.Tryz.prog G (.func q) a h k) (fun hx => w85 hc hx))
  (cndN
  (cndL (T := fun q => SW Go.Proofs.Tryz.prog G (.func q) a h k) (fun hx => w86 hc hx))
  (cndL (T := fun q => SW Go.Proofs.Tryz.prog G (.func q) a h k) (fun hx => w87 hc hx))))
  (cndN
  (cndL (T := fun q => SW Go.Proofs.Tryz.prog G (.func q) a h k) (fun hx => w88 hc hx))
  (cndN
  (cndL (T := fun q => SW Go.Proofs.Tryz.prog G (.func q) a h k) (fun hx => w89 hc hx))
  (cndL (T := fun q => SW Go.Proofs.Tryz.prog G (.func q) a h k) (fun hx => w90 hc hx)))))
  (cndN
  (cndN
  (cndL (T := fun q => SW Go.Proofs.Tryz.prog G (.func q) a h k) (fun hx => w91 hc hx))
  (cndN
  (cndL (T := fun q => SW Go.Proofs.Tryz.prog G (.func q) a h k) (fun hx => w92 hc hx))
  (cndL (T := fun q => SW Go.Proofs.Tryz.prog G (.func q) a h k) (fun hx => w93 hc hx))))
  (cndN
  (cndL (T := fun q => SW Go.Proofs.Tryz.prog G (.func q) a h k) (fun hx => w94 hc hx))
  (cndN
  (cndL (T := fun q => SW Go.Proofs.Tryz.prog G (.func q) a h k) (fun hx => w95 hc hx))
  (cndL (T := fun q => SW Go.Proofs.Tryz.prog G (.func q) a h k) (fun hx => w96 hc hx))))))
  (cndN
  (cndN
  (cndN
  (cndL (T := fun q => SW Go.Proofs.Tryz.prog G (.func q) a h k) (fun hx => w97 hc hx))
  (cndN
  (cndL (T := fun q => SW Go.Proofs.Tryz.prog G (.func q) a h k) (fun hx => w98 hc hx))
  (cndL (T := fun q => SW Go.Proofs.Tryz.prog G (.func q) a h k) (fun hx => w99 hc hx))))
  (cndN
  (cndL (T := fun q => SW Go.Proofs.Tryz.prog G (.func q) a h k) (fun hx => w100 hc hx))
  (cndN
  (cndL (T := fun q => SW Go.Proofs.Tryz.prog G (.func q) a h k) (fun hx => w101 hc hx))
  (cndL (T := fun q => SW Go.Proofs.Tryz.prog G (.func q) a h k) (fun hx => w102 hc hx)))))
  (cndN
  (cndN
  (cndL (T := fun q => SW Go.Proofs.Tryz.prog G (.func q) a h k) (fun hx => w103 hc hx))
  (cndN
  (cndL (T := fun q => SW Go.Proofs.Tryz.prog G (.func q) a h k) (fun hx => w105 hc hx))
  (cndL (T := fun q => SW Go.Proofs.Tryz.prog G (.func q) a h k) (fun hx => x107 hx))))
  (cndN
  (cndN
  (cndL (T := fun q => SW Go.Proofs.Tryz.prog G (.func q) a h k) (fun hx => w108 hc hx))
  (cndL (T := fun q => SW Go.Proofs.Tryz.prog G (.func q) a h k) (fun hx => w109 hc hx)))
  (cndN
  (cndL (T := fun q => SW Go.Proofs.Tryz.prog G (.func q) a h k) (fun hx => w112 hc hx))
  (cndL (T := fun q => SW Go.Proofs.Tryz.prog G (.func q) a h k) (fun hx => w113 hc hx)))))))))
  (cndN
  (cndN
  (cndN
  (cndN
  (cndN
  (cndN
  (cndL (T := fun q => SW Go.Proofs.Tryz.prog G (.func q) a h k) (fun hx => w119 hc hx))
  (cndN
  (cndL (T := fun q => SW Go.Proofs.Tryz.prog G (.func q) a h k) (fun hx => w123 hc hx))
  (cndL (T := fun q => SW Go.Proofs.Tryz.prog G (.func q) a h k) (fun hx => w124 hc hx))))
  (cndN
  (cndL (T := fun q => SW Go.Proofs.Tryz.prog G (.func q) a h k) (fun hx => w125 hc hx))
  (cndN
  (cndL (T := fun q => SW Go.Proofs.Tryz.prog G (.func q) a h k) (fun hx => w126 hc hx))
  (cndL (T := fun q => SW Go.Proofs.Tryz.prog G (.func q) a h k) (fun hx => w127 hc hx)))))
  (cndN
  (cndN
  (cndL (T := fun q => SW Go.Proofs.Tryz.prog G (.func q) a h k) (fun hx => w128 hc hx))
  (cndN
  (cndL (T := fun q => SW Go.Proofs.Tryz.prog G (.func q) a h k) (fun hx => w129 hc hx))
  (cndL (T := fun q => SW Go.Proofs.Tryz.prog G (.func q) a h k) (fun hx => w130 hc hx))))
  (cndN
  (cndL (T := fun q => SW Go.Proofs.Tryz.prog G (.func q) a h k) (fun hx => w131 hc hx))
  (cndN
  (cndL (T := fun q => SW Go.Proofs.Tryz.prog G (.func q) a h k) (fun hx => w132 hc hx))
  (cndL (T := fun q => SW Go.Proofs.Tryz.prog G (.func q) a h k) (fun hx => w133 hc hx))))))
  (cndN
  (cndN
  (cndN
  (cndL (T := fun q => SW Go.Proofs.Tryz.prog G (.func q) a h k) (fun hx => w134 hc hx))
  (cndN
  (cndL (T := fun q => SW Go.Proofs.Tryz.prog G (.func q) a h k) (fun hx => w135 hc hx))
  (cndL (T := fun q => SW Go.Proofs.Tryz.prog G (.func q) a h k) (fun hx => w136 hc hx))))
  (cndN
  (cndL (T := fun q => SW Go.Proofs.Tryz.prog G (.func q) a h k) (fun hx => w139 hc hx))
  (cndN
  (cndL (T := fun q => SW Go.Proofs.Tryz.prog G (.func q) a h k) (fun hx => w140 hc hx))
  (cndL (T := fun q => SW Go.Proofs.Tryz.prog G (.func q) a h k) (fun hx => w141 hc hx)))))
  (cndN
  (cndN
  (cndL (T := fun q => SW Go.Proofs.Tryz.prog G (.func q) a h k) (fun hx => w142 hc hx))
  (cndN
  (cndL (T := fun q => SW Go.Proofs.Tryz.prog G (.func q) a h k) (fun hx => w143 hc hx))
  (cndL (T := fun q => SW Go.Proofs.Tryz.prog G (.func q) a h k) (fun hx => w144 hc hx))))
  (cndN
  (cndL (T := fun q => SW Go.Proofs.Tryz.prog G (.func q) a h k) (fun hx => w145 hc hx))
  (cndN
  (cndL (T := fun q => SW Go.Proofs.Tryz.prog G (.func q) a h k) (fun hx => w146 hc hx))
  (cndL (T := fun q => SW Go.Proofs.Tryz.prog G (.func q) a h k) (fun hx => w147 hc hx)))))))
  (cndN
  (cndN
  (cndN
  (cndN
  (cndL (T := fun q => SW Go.Proofs.Tryz.prog G (.func q) a h k) (fun hx => x149 hx))
  (cndN
  (cndL (T := fun q => SW Go.Proofs.Tryz.prog G (.func q) a h k) (fun hx => w151 hc hx))
  (cndL (T := fun q => SW Go.Proofs.Tryz.prog G (.func q) a h k) (fun hx => w152 hc hx))))
  (cndN
  (cndL (T := fun q => SW Go.Proofs.Tryz.prog G (.func q) a h k) (fun hx => w153 hc hx))
  (cndN
  (cndL (T := fun q => SW Go.Proofs.Tryz.prog G (.func q) a h k) (fun hx => w154 hc hx))
  (cndL (T := fun q => SW Go.Proofs.Tryz.prog G (.func q) a h k) (fun hx => w158 hc hx)))))
  (cndN
  (cndN
  (cndL (T := fun q => SW Go.Proofs.Tryz.prog G (.func q) a h k) (fun hx => w161 hc hx))
  (cndN
  (cndL (T := fun q => SW Go.Proofs.Tryz.prog G (.func q) a h k) (fun hx => w169 hc hx))
  (cndL (T := fun q => SW Go.Proofs.Tryz.prog G (.func q) a h k) (fun hx => w170 hc hx))))
  (cndN
  (cndL (T := fun q => SW Go.Proofs.Tryz.prog G (.func q) a h k) (fun hx => w171 hc hx))
  (cndN
  (cndL (T := fun q => SW Go.Proofs.Tryz.prog G (.func q) a h k) (fun hx => w172 hc hx))
  (cndL (T := fun q => SW Go.Proofs.Tryz.prog G (.func q) a h k) (fun hx => w173 hc hx))))))
  (cndN
  (cndN
  (cndN
  (cndL (T := fun q => SW Go.Proofs.Tryz.prog G (.func q) a h k) (fun hx => w174 hc hx))
  (cndN
  (cndL (T := fun q => SW Go.Proofs.Tryz.prog G (.func q) a h k) (fun hx => w175 hc hx))
  (cndL (T := fun q => SW Go.Proofs.Tryz.prog G (.func q) a h k) (fun hx => w176 hc hx))))
  (cndN
  (cndL (T := fun q => SW Go.Proofs.Tryz.prog G (.func q) a h k) (fun hx => w177 hc hx))
  (cndN
  (cndL (T := fun q => SW Go.Proofs.Tryz.prog G (.func q) a h k) (fun hx => w178 hc hx))
  (cndL (T := fun q => SW Go.Proofs.Tryz.prog G (.func q) a h k) (fun hx => w179 hc hx)))))
  (cndN
  (cndN
  (cndL (T := fun q => SW Go.Proofs.Tryz.prog G (.func q) a h k) (fun hx => w182 hc hx))
  (cndN
  (cndL (T := fun q => SW Go.Proofs.Tryz.prog G (.func q) a h k) (fun hx => w183 hc hx))
  (cndL (T := fun q => SW Go.Proofs.Tryz.prog G (.func q) a h k) (fun hx => w184 hc hx))))
  (cndN
  (cndN
  (cndL (T := fun q => SW Go.Proofs.Tryz.prog G (.func q) a h k) (fun hx => w185 hc hx))
  (cndL (T := fun q => SW Go.Proofs.Tryz.prog G (.func q) a h k) (fun hx => w186 hc hx)))
  (cndN
  (cndL (T := fun q => SW Go.Proofs.Tryz.prog G (.func q) a h k) (fun hx => w187 hc hx))
  (cndL (T := fun q => SW Go.Proofs.Tryz.prog G (.func q) a h k) (fun hx => w188 hc hx))))))))
  (cndN
  (cndN
  (cndN
  (cndN
  (cndN
  (cndL (T := fun q => SW Go.Proofs.Tryz.prog G (.func q) a h k) (fun hx => w189 hc hx))
  (cndN
  (cndL (T := fun q => SW Go.Proofs.Tryz.prog G (.func q) a h k) (fun hx => w190 hc hx))
  (cndL (T := fun q => SW Go.Proofs.Tryz.prog G (.func q) a h k) (fun hx => w191 hc hx))))
  (cndN
  (cndL (T := fun q => SW Go.Proofs.Tryz.prog G (.func q) a h k) (fun hx => w192 hc hx))
  (cndN
  (cndL (T := fun q => SW Go.Proofs.Tryz.prog G (.func q) a h k) (fun hx => w193 hc hx))
  (cndL (T := fun q => SW Go.Proofs.Tryz.prog G (.func q) a h k) (fun hx => w194 hc hx)))))
  (cndN
  (cndN
  (cndL (T := fun q => SW Go.Proofs.Tryz.prog G (.func q) a h k) (fun hx => w198 hc hx))
  (cndN
  (cndL (T := fun q => SW Go.Proofs.Tryz.prog G (.func q) a h k) (fun hx => w199 hc hx))
  (cndL (T := fun q => SW Go.Proofs.Tryz.prog G (.func q) a h k) (fun hx => w206 hc hx))))
  (cndN
  (cndL (T := fun q => SW Go.Proofs.Tryz.prog G (.func q) a h k) (fun hx => w207 hc hx))
  (cndN
  (cndL (T := fun q => SW Go.Proofs.Tryz.prog G (.func q) a h k) (fun hx => w208 hc hx))
  (cndL (T := fun q => SW Go.Proofs.Tryz.prog G (.func q) a h k) (fun hx => w211 hc hx))))))
  (cndN
  (cndN
  (cndN
  (cndL (T := fun q => SW Go.Proofs.Tryz.prog G (.func q) a h k) (fun hx => w212 hc hx))
  (cndN
  (cndL (T := fun q => SW Go.Proofs.Tryz.prog G (.func q) a h k) (fun hx => w214 hc hx))
  (cndL (T := fun q => SW Go.Proofs.Tryz.prog G (.func q) a h k) (fun hx => w216 hc hx))))
  (cndN
  (cndL (T := fun q => SW Go.Proofs.Tryz.prog G (.func q) a h k) (fun hx => w217 hc hx))
  (cndN
  (cndL (T := fun q => SW Go.Proofs.Tryz.prog G (.func q) a h k) (fun hx => w218 hc hx))
  (cndL (T := fun q => SW Go.Proofs.Tryz.prog G (.func q) a h k) (fun hx => w220 hc hx)))))
  (cndN
  (cndN
  (cndL (T := fun q => SW Go.Proofs.Tryz.prog G (.func q) a h k) (fun hx => w221 hc hx))
  (cndN
  (cndL (T := fun q => SW Go.Proofs.Tryz.prog G (.func q) a h k) (fun hx => w222 hc hx))
  (cndL (T := fun q => SW Go.Proofs.Tryz.prog G (.func q) a h k) (fun hx => w223 hc hx))))
  (cndN
  (cndN
  (cndL (T := fun q => SW Go.Proofs.Tryz.prog G (.func q) a h k) (fun hx => w224 hc hx))
  (cndL (T := fun q => SW Go.Proofs.Tryz.prog G (.func q) a h k) (fun hx => w225 hc hx)))
  (cndN
  (cndL (T := fun q => SW Go.Proofs.Tryz.prog G (.func q) a h k) (fun hx => x226 hx))
  (cndL (T := fun q => SW Go.Proofs.Tryz.prog G (.func q) a h k) (fun hx => x228 hx)))))))
  (cndN
  (cndN
  (cndN
  (cndN
  (cndL (T := fun q => SW Go.Proofs.Tryz.prog G (.func q) a h k) (fun hx => w229 hc hx))
  (cndN
  (cndL (T := fun q => SW Go.Proofs.Tryz.prog G (.func q) a h k) (fun hx => w230 hc hx))
  (cndL (T := fun q => SW Go.Proofs.Tryz.prog G (.func q) a h k) (fun hx => w231 hc hx))))
  (cndN
  (cndL (T := fun q => SW Go.Proofs.Tryz.prog G (.func q) a h k) (fun hx => w240 hc hx))
  (cndN
  (cndL (T := fun q => SW Go.Proofs.Tryz.prog G (.func q) a h k) (fun hx => w241 hc hx))
  (cndL (T := fun q => SW Go.Proofs.Tryz.prog G (.func q) a h k) (fun hx => w242 hc hx)))))
  (cndN
  (cndN
  (cndL (T := fun q => SW Go.Proofs.Tryz.prog G (.func q) a h k) (fun hx => x246 hx))
  (cndN
  (cndL (T := fun q => SW Go.Proofs.Tryz.prog G (.func q) a h k) (fun hx => x247 hx))
  (cndL (T := fun q => SW Go.Proofs.Tryz.prog G (.func q) a h k) (fun hx => w248 hc hx))))
  (cndN
  (cndL (T := fun q => SW Go.Proofs.Tryz.prog G (.func q) a h k) (fun hx => w252 hc hx))
  (cndN
  (cndL (T := fun q => SW Go.Proofs.Tryz.prog G (.func q) a h k) (fun hx => w253 hc hx))
  (cndL (T := fun q => SW Go.Proofs.Tryz.prog G (.func q) a h k) (fun hx => w254 hc hx))))))
  (cndN
  (cndN
  (cndN
  (cndL (T := fun q => SW Go.Proofs.Tryz.prog G (.func q) a h k) (fun hx => w255 hc hx))
  (cndN
  (cndL (T := fun q => SW Go.Proofs.Tryz.prog G (.func q) a h k) (fun hx => w256 hc hx))
  (cndL (T := fun q => SW Go.Proofs.Tryz.prog G (.func q) a h k) (fun hx => x257 hx))))
  (cndN
  (cndL (T := fun q => SW Go.Proofs.Tryz.prog G (.func q) a h k) (fun hx => w258 hc hx))
  (cndN
  (cndL (T := fun q => SW Go.Proofs.Tryz.prog G (.func q) a h k) (fun hx => w278 hc hx))
  (cndL (T := fun q => SW Go.Proofs.Tryz.prog G (.func q) a h k) (fun hx => x279 hx)))))
  (cndN
  (cndN
  (cndL (T := fun q => SW Go.Proofs.Tryz.prog G (.func q) a h k) (fun hx => x280 hx))
  (cndN
  (cndL (T := fun q => SW Go.Proofs.Tryz.prog G (.func q) a h k) (fun hx => x281 hx))
  (cndL (T := fun q => SW Go.Proofs.Tryz.prog G (.func q) a h k) (fun hx => x282 hx))))
  (cndN
  (cndN
  (cndL (T := fun q => SW Go.Proofs.Tryz.prog G (.func q) a h k) (fun hx => x284 hx))
  (cndL (T := fun q => SW Go.Proofs.Tryz.prog G (.func q) a h k) (fun hx => x285 hx)))
  (cndN
  (cndL (T := fun q => SW Go.Proofs.Tryz.prog G (.func q) a h k) (fun hx => w391 hc hx))
  (cndL (T := fun q => SW Go.Proofs.Tryz.prog G (.func q) a h k) (fun hx => x395 hx)))))))))) hg
theorem calls_ok (m : Nat) : ∀ n, CallOk Go.Proofs.Tryz.prog (CP env) G (fun p => p) (calls m n)
  | 0 => fun _ _ _ _ _ _ _ _ _ _ _ _ hg => hg.elim
  | n + 1 => fun μ h w fn fn' args vargs k s gl hf hv hg => by
    cases fn with
    | func i => exact disp_ok (calls_ok m n) (show disp (calls m n) m i args h k from hg) μ w fn' vargs s gl hf hv
    | yield l => exact yield_ok mixed envOk (calls_ok m n) (show yieldA env (calls m n) (okLp Go.Proofs.Tryz.prog env G) l args h k from hg) μ w fn' vargs s gl hf hv
    | _ => exact hg.elim

end Go.Den
