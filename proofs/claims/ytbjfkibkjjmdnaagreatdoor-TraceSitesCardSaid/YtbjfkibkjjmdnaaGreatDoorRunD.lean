/-
  A part of the proof: the table of calls is the program's.
-/
import Derived.Test.YtbjfkibkjjmdnaaGreatDoorRunC
import Derived.Test.YtbjfkibkjjmdnaaGreatDoorRunB1
import Derived.Test.YtbjfkibkjjmdnaaGreatDoorRunB2
import Derived.Test.YtbjfkibkjjmdnaaGreatDoorRunB3
import Derived.Test.YtbjfkibkjjmdnaaGreatDoorRunB4
import Derived.Laws.Externs
import Derived.KernelRfl
namespace Go.Den
set_option maxRecDepth 100000
theorem x91 {a : List AV} {h : H} {k : KV} (hg : cnd (Nat.beq (len a) 2) (oK (extA (.aStore .i64) a h) k) False) : SW Go.Proofs.Tryz.prog G (.func 91) a h k :=
  extern_ok (e := (.aStore .i64)) (n := 2) rfl (fun args w => run_callFunc_extern (e := extM (.aStore .i64)) Go.Proofs.Tryz.func91 (by kernel_rfl) (by kernel_rfl) (by kernel_rfl) (by kernel_rfl) args w) hg
theorem x114 {a : List AV} {h : H} {k : KV} (hg : cnd (Nat.beq (len a) 2) (oK (extA (.aAdd .i64) a h) k) False) : SW Go.Proofs.Tryz.prog G (.func 114) a h k :=
  extern_ok (e := (.aAdd .i64)) (n := 2) rfl (fun args w => run_callFunc_extern (e := extM (.aAdd .i64)) Go.Proofs.Tryz.func114 (by kernel_rfl) (by kernel_rfl) (by kernel_rfl) (by kernel_rfl) args w) hg
theorem x156 {a : List AV} {h : H} {k : KV} (hg : cnd (Nat.beq (len a) 1) (oK (extA .noEscape a h) k) False) : SW Go.Proofs.Tryz.prog G (.func 156) a h k :=
  extern_ok (e := .noEscape) (n := 1) rfl (fun args w => run_callFunc_extern (e := extM .noEscape) Go.Proofs.Tryz.func156 (by kernel_rfl) (by kernel_rfl) (by kernel_rfl) (by kernel_rfl) args w) hg
theorem x233 {a : List AV} {h : H} {k : KV} (hg : cnd (Nat.beq (len a) 2) (oK (extA .indexByte a h) k) False) : SW Go.Proofs.Tryz.prog G (.func 233) a h k :=
  extern_ok (e := .indexByte) (n := 2) rfl (fun args w => run_callFunc_extern (e := extM .indexByte) Go.Proofs.Tryz.func233 (by kernel_rfl) (by kernel_rfl) (by kernel_rfl) (by kernel_rfl) args w) hg
theorem x235 {a : List AV} {h : H} {k : KV} (hg : cnd (Nat.beq (len a) 1) (oK (extA (.aLoad .u32) a h) k) False) : SW Go.Proofs.Tryz.prog G (.func 235) a h k :=
  extern_ok (e := (.aLoad .u32)) (n := 1) rfl (fun args w => run_callFunc_extern (e := extM (.aLoad .u32)) Go.Proofs.Tryz.func235 (by kernel_rfl) (by kernel_rfl) (by kernel_rfl) (by kernel_rfl) args w) hg
theorem x253 {a : List AV} {h : H} {k : KV} (hg : cnd (Nat.beq (len a) 1) (oK (extA (.aLoad .i64) a h) k) False) : SW Go.Proofs.Tryz.prog G (.func 253) a h k :=
  extern_ok (e := (.aLoad .i64)) (n := 1) rfl (fun args w => run_callFunc_extern (e := extM (.aLoad .i64)) Go.Proofs.Tryz.func253 (by kernel_rfl) (by kernel_rfl) (by kernel_rfl) (by kernel_rfl) args w) hg
theorem x254 {a : List AV} {h : H} {k : KV} (hg : cnd (Nat.beq (len a) 3) (oK (extA (.aCas .i64) a h) k) False) : SW Go.Proofs.Tryz.prog G (.func 254) a h k :=
  extern_ok (e := (.aCas .i64)) (n := 3) rfl (fun args w => run_callFunc_extern (e := extM (.aCas .i64)) Go.Proofs.Tryz.func254 (by kernel_rfl) (by kernel_rfl) (by kernel_rfl) (by kernel_rfl) args w) hg
theorem x264 {a : List AV} {h : H} {k : KV} (hg : cnd (Nat.beq (len a) 2) (oK (extA (.aStore .u32) a h) k) False) : SW Go.Proofs.Tryz.prog G (.func 264) a h k :=
  extern_ok (e := (.aStore .u32)) (n := 2) rfl (fun args w => run_callFunc_extern (e := extM (.aStore .u32)) Go.Proofs.Tryz.func264 (by kernel_rfl) (by kernel_rfl) (by kernel_rfl) (by kernel_rfl) args w) hg
theorem x286 {a : List AV} {h : H} {k : KV} (hg : cnd (Nat.beq (len a) 0) (k .undef h) False) : SW Go.Proofs.Tryz.prog G (.func 286) a h k :=
  mark0_ok (run_call_mark0 Go.Proofs.Tryz.func286 (by kernel_rfl) (by kernel_rfl) (by kernel_rfl) .disable (by kernel_rfl)) hg
theorem x287 {a : List AV} {h : H} {k : KV} (hg : cnd (Nat.beq (len a) 3) (oK (extA (.aCas .i32) a h) k) False) : SW Go.Proofs.Tryz.prog G (.func 287) a h k :=
  extern_ok (e := (.aCas .i32)) (n := 3) rfl (fun args w => run_callFunc_extern (e := extM (.aCas .i32)) Go.Proofs.Tryz.func287 (by kernel_rfl) (by kernel_rfl) (by kernel_rfl) (by kernel_rfl) args w) hg
theorem x288 {a : List AV} {h : H} {k : KV} (hg : cnd (Nat.beq (len a) 0) (k .undef h) False) : SW Go.Proofs.Tryz.prog G (.func 288) a h k :=
  mark0_ok (run_call_mark0 Go.Proofs.Tryz.func288 (by kernel_rfl) (by kernel_rfl) (by kernel_rfl) .enable (by kernel_rfl)) hg
theorem x289 {a : List AV} {h : H} {k : KV} (hg : asP (arg0 a) fun _ _ => cnd (Nat.beq (len a) 1) (k .undef h) False) : SW Go.Proofs.Tryz.prog G (.func 289) a h k :=
  mark1_ok (run_call_marked Go.Proofs.Tryz.func289 (by kernel_rfl) (by kernel_rfl) (by kernel_rfl) .acquire (by kernel_rfl)) hg
theorem x291 {a : List AV} {h : H} {k : KV} (hg : asP (arg0 a) fun _ _ => cnd (Nat.beq (len a) 1) (k .undef h) False) : SW Go.Proofs.Tryz.prog G (.func 291) a h k :=
  mark1_ok (run_call_marked Go.Proofs.Tryz.func291 (by kernel_rfl) (by kernel_rfl) (by kernel_rfl) .releaseMerge (by kernel_rfl)) hg
theorem x292 {a : List AV} {h : H} {k : KV} (hg : cnd (Nat.beq (len a) 2) (oK (extA (.aAdd .i32) a h) k) False) : SW Go.Proofs.Tryz.prog G (.func 292) a h k :=
  extern_ok (e := (.aAdd .i32)) (n := 2) rfl (fun args w => run_callFunc_extern (e := extM (.aAdd .i32)) Go.Proofs.Tryz.func292 (by kernel_rfl) (by kernel_rfl) (by kernel_rfl) (by kernel_rfl) args w) hg
theorem x402 {a : List AV} {h : H} {k : KV} (hg : cnd (Nat.beq (len a) 2) (oK (extA .count a h) k) False) : SW Go.Proofs.Tryz.prog G (.func 402) a h k :=
  extern_ok (e := .count) (n := 2) rfl (fun args w => run_callFunc_extern (e := extM .count) Go.Proofs.Tryz.func402 (by kernel_rfl) (by kernel_rfl) (by kernel_rfl) (by kernel_rfl) args w) hg
theorem w206 {c : Caller Prop FT} (hc : CallOk Go.Proofs.Tryz.prog (CP env) G (fun p => p) c) {k : KV} {m : Nat} {a : List AV} {h : H} (hg : onceP env c (oc 0).toList (takeL 3 (oc 1).toList) (oc 2).toList (takeL 3 (oc 3).toList) (oc 4).toList (.tmp 10) (.tmp 15) (.tmp 18) (fun a h k => f237 (r237 c k m) 0 (finit a) h) (fun a h k => f238 (r238 c k m) 0 (finit a) h) (finit a) h k) : SW Go.Proofs.Tryz.prog G (.func 206) a h k :=
  once_ok (o0 := oc 0) (o1 := oc 1) (o2 := oc 2) (o3 := oc 3) (o4 := oc 4) (u1 := 237) (u3 := 238) (d1 := operAt (oc 1).toList 3) (d3 := operAt (oc 3).toList 3) (i0 := idOf (codeAt d206 (.l .root))) (i1 := idOf (codeAt d206 (.l (.r .root)))) (i2 := idOf (codeAt d206 (.l (.r (.r .root))))) (i3 := idOf (codeAt d206 (.l (.l (.r (.r (.r .root))))))) (i4 := idOf (codeAt d206 (.r (.l (.r (.r (.r .root))))))) (a1 := atsOf (operAt (oc 1).toList 3)) (a3 := atsOf (operAt (oc 3).toList 3)) envOk hc Go.Proofs.Tryz.func206 (by kernel_rfl) (by kernel_rfl) (by kernel_rfl) (by kernel_rfl) (by kernel_rfl) ⟨by kernel_rfl, by kernel_rfl, by kernel_rfl⟩ ⟨by kernel_rfl, by kernel_rfl, by kernel_rfl⟩
    (by kernel_rfl) (by kernel_rfl) (by kernel_rfl) (by kernel_rfl) (by kernel_rfl) (by kernel_rfl) (by kernel_rfl) (by kernel_rfl) (fun _ _ _ hx => wd237 hc hx) (fun _ _ _ hx => wd238 hc hx) hg
theorem disp_ok {c : Caller Prop FT} (hc : CallOk Go.Proofs.Tryz.prog (CP env) G (fun p => p) c) {m i : Nat} {a : List AV} {h : H} {k : KV} (hg : disp c m i a h k) : SW Go.Proofs.Tryz.prog G (.func i) a h k :=
  (cndN
  (cndN
  (cndN
  (cndN
  (cndN
  (cndN
  (cndN
  (cndN
  (cndL (T := fun q => SW Go.Proofs.Tryz.prog G (.func q) a h k) (fun hx => w3 hc hx))
  (cndL (T := fun q => SW Go.Proofs.Tryz.prog G (.func q) a h k) (fun hx => w6 hc hx)))
  (cndN
  (cndL (T := fun q => SW Go.Proofs.Tryz.prog G (.func q) a h k) (fun hx => w7 hc hx))
  (cndN
  (cndL (T := fun q => SW Go.Proofs.Tryz.prog G (.func q) a h k) (fun hx => w8 hc hx))
  (cndL (T := fun q => SW Go.Proofs.Tryz.prog G (.func q) a h k) (fun hx => w9 hc hx)))))
  (cndN
  (cndN
  (cndL (T := fun q => SW Go.Proofs.Tryz.prog G (.func q) a h k) (fun hx => w10 hc hx))
  (cndL (T := fun q => SW Go.Proofs.Tryz.prog G (.func q) a h k) (fun hx => w11 hc hx)))
  (cndN
  (cndL (T := fun q => SW Go.Proofs.Tryz.prog G (.func q) a h k) (fun hx => w12 hc hx))
  (cndN
  (cndL (T := fun q => SW Go.Proofs.Tryz.prog G (.func q) a h k) (fun hx => w17 hc hx))
  (cndL (T := fun q => SW Go.Proofs.Tryz.prog G (.func q) a h k) (fun hx => w19 hc hx))))))
  (cndN
  (cndN
  (cndN
  (cndL (T := fun q => SW Go.Proofs.Tryz.prog G (.func q) a h k) (fun hx => w21 hc hx))
  (cndL (T := fun q => SW Go.Proofs.Tryz.prog G (.func q) a h k) (fun hx => w22 hc hx)))
  (cndN
  (cndL (T := fun q => SW Go.Proofs.Tryz.prog G (.func q) a h k) (fun hx => w23 hc hx))
  (cndN
  (cndL (T := fun q => SW Go.Proofs.Tryz.prog G (.func q) a h k) (fun hx => w24 hc hx))
  (cndL (T := fun q => SW Go.Proofs.Tryz.prog G (.func q) a h k) (fun hx => w25 hc hx)))))
  (cndN
  (cndN
  (cndL (T := fun q => SW Go.Proofs.Tryz.prog G (.func q) a h k) (fun hx => w26 hc hx))
  (cndL (T := fun q => SW Go.Proofs.Tryz.prog G (.func q) a h k) (fun hx => w27 hc hx)))
  (cndN
  (cndL (T := fun q => SW Go.Proofs.Tryz.prog G (.func q) a h k) (fun hx => w29 hc hx))
  (cndN
  (cndL (T := fun q => SW Go.Proofs.Tryz.prog G (.func q) a h k) (fun hx => w32 hc hx))
  (cndL (T := fun q => SW Go.Proofs.Tryz.prog G (.func q) a h k) (fun hx => w35 hc hx)))))))
  (cndN
  (cndN
  (cndN
  (cndN
  (cndL (T := fun q => SW Go.Proofs.Tryz.prog G (.func q) a h k) (fun hx => w36 hc hx))
  (cndL (T := fun q => SW Go.Proofs.Tryz.prog G (.func q) a h k) (fun hx => w37 hc hx)))
  (cndN
  (cndL (T := fun q => SW Go.Proofs.Tryz.prog G (.func q) a h k) (fun hx => w38 hc hx))
  (cndN
  (cndL (T := fun q => SW Go.Proofs.Tryz.prog G (.func q) a h k) (fun hx => w39 hc hx))
  (cndL (T := fun q => SW Go.Proofs.Tryz.prog G (.func q) a h k) (fun hx => w40 hc hx)))))
  (cndN
  (cndN
  (cndL (T := fun q => SW Go.Proofs.Tryz.prog G (.func q) a h k) (fun hx => w41 hc hx))
  (cndL (T := fun q => SW Go.Proofs.Tryz.prog G (.func q) a h k) (fun hx => w42 hc hx)))
  (cndN
  (cndL (T := fun q => SW Go.Proofs.Tryz.prog G (.func q) a h k) (fun hx => w43 hc hx))
  (cndN
  (cndL (T := fun q => SW Go.Proofs.Tryz.prog G (.func q) a h k) (fun hx => w44 hc hx))
  (cndL (T := fun q => SW Go.Proofs.Tryz.prog G (.func q) a h k) (fun hx => w45 hc hx))))))
  (cndN
  (cndN
  (cndN
  (cndL (T := fun q => SW Go.Proofs.Tryz.prog G (.func q) a h k) (fun hx => w46 hc hx))
  (cndL (T := fun q => SW Go.Proofs.Tryz.prog G (.func q) a h k) (fun hx => w47 hc hx)))
  (cndN
  (cndL (T := fun q => SW Go.Proofs.Tryz.prog G (.func q) a h k) (fun hx => w48 hc hx))
  (cndN
  (cndL (T := fun q => SW Go.Proofs.Tryz.prog G (.func q) a h k) (fun hx => w49 hc hx))
  (cndL (T := fun q => SW Go.Proofs.Tryz.prog G (.func q) a h k) (fun hx => w50 hc hx)))))
  (cndN
  (cndN
  (cndL (T := fun q => SW Go.Proofs.Tryz.prog G (.func q) a h k) (fun hx => w51 hc hx))
  (cndN
  (cndL (T := fun q => SW Go.Proofs.Tryz.prog G (.func q) a h k) (fun hx => w52 hc hx))
  (cndL (T := fun q => SW Go.Proofs.Tryz.prog G (.func q) a h k) (fun hx => w53 hc hx))))
  (cndN
  (cndL (T := fun q => SW Go.Proofs.Tryz.prog G (.func q) a h k) (fun hx => w54 hc hx))
  (cndN
  (cndL (T := fun q => SW Go.Proofs.Tryz.prog G (.func q) a h k) (fun hx => w55 hc hx))
  (cndL (T := fun q => SW Go.Proofs.Tryz.prog G (.func q) a h k) (fun hx => w56 hc hx))))))))
  (cndN
  (cndN
  (cndN
  (cndN
  (cndN
  (cndL (T := fun q => SW Go.Proofs.Tryz.prog G (.func q) a h k) (fun hx => w59 hc hx))
  (cndL (T := fun q => SW Go.Proofs.Tryz.prog G (.func q) a h k) (fun hx => w60 hc hx)))
  (cndN
  (cndL (T := fun q => SW Go.Proofs.Tryz.prog G (.func q) a h k) (fun hx => w61 hc hx))
  (cndN
  (cndL (T := fun q => SW Go.Proofs.Tryz.prog G (.func q) a h k) (fun hx => w62 hc hx))
  (cndL (T := fun q => SW Go.Proofs.Tryz.prog G (.func q) a h k) (fun hx => w63 hc hx)))))
  (cndN
  (cndN
  (cndL (T := fun q => SW Go.Proofs.Tryz.prog G (.func q) a h k) (fun hx => w64 hc hx))
  (cndL (T := fun q => SW Go.Proofs.Tryz.prog G (.func q) a h k) (fun hx => w65 hc hx)))
  (cndN
  (cndL (T := fun q => SW Go.Proofs.Tryz.prog G (.func q) a h k) (fun hx => w66 hc hx))
  (cndN
  (cndL (T := fun q => SW Go.Proofs.Tryz.prog G (.func q) a h k) (fun hx => w67 hc hx))
  (cndL (T := fun q => SW Go.Proofs.Tryz.prog G (.func q) a h k) (fun hx => w68 hc hx))))))
  (cndN
  (cndN
  (cndN
  (cndL (T := fun q => SW Go.Proofs.Tryz.prog G (.func q) a h k) (fun hx => w69 hc hx))
  (cndL (T := fun q => SW Go.Proofs.Tryz.prog G (.func q) a h k) (fun hx => w70 hc hx)))
  (cndN
  (cndL (T := fun q => SW Go.Proofs.Tryz.prog G (.func q) a h k) (fun hx => w71 hc hx))
  (cndN
  (cndL (T := fun q => SW Go.Proofs.Tryz.prog G (.func q) a h k) (fun hx => w72 hc hx))
  (cndL (T := fun q => SW Go.Proofs.Tryz.prog G (.func q) a h k) (fun hx => w73 hc hx)))))
  (cndN
  (cndN
  (cndL (T := fun q => SW Go.Proofs.Tryz.prog G (.func q) a h k) (fun hx => w74 hc hx))
  (cndL (T := fun q => SW Go.Proofs.Tryz.prog G (.func q) a h k) (fun hx => w75 hc hx)))
  (cndN
  (cndL (T := fun q => SW Go.Proofs.Tryz.prog G (.func q) a h k) (fun hx => w76 hc hx))
  (cndN
  (cndL (T := fun q => SW Go.Proofs.Tryz.prog G (.func q) a h k) (fun hx => w77 hc hx))
  (cndL (T := fun q => SW Go.Proofs.Tryz.prog G (.func q) a h k) (fun hx => w78 hc hx)))))))
  (cndN
  (cndN
  (cndN
  (cndN
  (cndL (T := fun q => SW Go.Proofs.Tryz.prog G (.func q) a h k) (fun hx => w79 hc hx))
  (cndL (T := fun q => SW Go.Proofs.Tryz.prog G (.func q) a h k) (fun hx => w80 hc hx)))
  (cndN
  (cndL (T := fun q => SW Go.Proofs.Tryz.prog G (.func q) a h k) (fun hx => w81 hc hx))
  (cndN
  (cndL (T := fun q => SW Go.Proofs.Tryz.prog G (.func q) a h k) (fun hx => w82 hc hx))
  (cndL (T := fun q => SW Go.Proofs.Tryz.prog G (.func q) a h k) (fun hx => w83 hc hx)))))
  (cndN
  (cndN
  (cndL (T := fun q => SW Go.Proofs.Tryz.prog G (.func q) a h k) (fun hx => w84 hc hx))
  (cndL (T := fun q => SW Go.Proofs.Tryz.prog G (.func q) a h k) (fun hx => w86 hc hx)))
  (cndN
  (cndL (T := fun q => SW Go.Proofs.Tryz.prog G (.func q) a h k) (fun hx => w87 hc hx))
  (cndN
  (cndL (T := fun q => SW Go.Proofs.Tryz.prog G (.func q) a h k) (fun hx => w88 hc hx))
  (cndL (T := fun q => SW Go.Proofs.Tryz.prog G (.func q) a h k) (fun hx => w89 hc hx))))))
  (cndN
  (cndN
  (cndN
  (cndL (T := fun q => SW Go.Proofs.Tryz.prog G (.func q) a h k) (fun hx => w90 hc hx))
  (cndL (T := fun q => SW Go.Proofs.Tryz.prog G (.func q) a h k) (fun hx => x91 hx)))
  (cndN
  (cndL (T := fun q => SW Go.Proofs.Tryz.prog G (.func q) a h k) (fun hx => w92 hc hx))
  (cndN
  (cndL (T := fun q => SW Go.Proofs.Tryz.prog G (.func q) a h k) (fun hx => w93 hc hx))
  (cndL (T := fun q => SW Go.Proofs.Tryz.prog G (.func q) a h k) (fun hx => w94 hc hx)))))
  (cndN
  (cndN
  (cndL (T := fun q => SW Go.Proofs.Tryz.prog G (.func q) a h k) (fun hx => w95 hc hx))
  (cndN
  (cndL (T := fun q => SW Go.Proofs.Tryz.prog G (.func q) a h k) (fun hx => w96 hc hx))
  (cndL (T := fun q => SW Go.Proofs.Tryz.prog G (.func q) a h k) (fun hx => w97 hc hx))))
  (cndN
  (cndL (T := fun q => SW Go.Proofs.Tryz.prog G (.func q) a h k) (fun hx => w98 hc hx))
  (cndN
  (cndL (T := fun q => SW Go.Proofs.Tryz.prog G (.func q) a h k) (fun hx => w99 hc hx))
  (cndL (T := fun q => SW Go.Proofs.Tryz.prog G (.func q) a h k) (fun hx => w100 hc hx)))))))))
  (cndN
  (cndN
  (cndN
  (cndN
  (cndN
  (cndN
  (cndL (T := fun q => SW Go.Proofs.Tryz.prog G (.func q) a h k) (fun hx => w101 hc hx))
  (cndL (T := fun q => SW Go.Proofs.Tryz.prog G (.func q) a h k) (fun hx => w102 hc hx)))
  (cndN
  (cndL (T := fun q => SW Go.Proofs.Tryz.prog G (.func q) a h k) (fun hx => w103 hc hx))
  (cndN
  (cndL (T := fun q => SW Go.Proofs.Tryz.prog G (.func q) a h k) (fun hx => w104 hc hx))
  (cndL (T := fun q => SW Go.Proofs.Tryz.prog G (.func q) a h k) (fun hx => w105 hc hx)))))
  (cndN
  (cndN
  (cndL (T := fun q => SW Go.Proofs.Tryz.prog G (.func q) a h k) (fun hx => w106 hc hx))
  (cndL (T := fun q => SW Go.Proofs.Tryz.prog G (.func q) a h k) (fun hx => w107 hc hx)))
  (cndN
  (cndL (T := fun q => SW Go.Proofs.Tryz.prog G (.func q) a h k) (fun hx => w108 hc hx))
  (cndN
  (cndL (T := fun q => SW Go.Proofs.Tryz.prog G (.func q) a h k) (fun hx => w109 hc hx))
  (cndL (T := fun q => SW Go.Proofs.Tryz.prog G (.func q) a h k) (fun hx => w110 hc hx))))))
  (cndN
  (cndN
  (cndN
  (cndL (T := fun q => SW Go.Proofs.Tryz.prog G (.func q) a h k) (fun hx => w111 hc hx))
  (cndL (T := fun q => SW Go.Proofs.Tryz.prog G (.func q) a h k) (fun hx => w112 hc hx)))
  (cndN
  (cndL (T := fun q => SW Go.Proofs.Tryz.prog G (.func q) a h k) (fun hx => w113 hc hx))
  (cndN
  (cndL (T := fun q => SW Go.Proofs.Tryz.prog G (.func q) a h k) (fun hx => x114 hx))
  (cndL (T := fun q => SW Go.Proofs.Tryz.prog G (.func q) a h k) (fun hx => w115 hc hx)))))
  (cndN
  (cndN
  (cndL (T := fun q => SW Go.Proofs.Tryz.prog G (.func q) a h k) (fun hx => w116 hc hx))
  (cndL (T := fun q => SW Go.Proofs.Tryz.prog G (.func q) a h k) (fun hx => w117 hc hx)))
  (cndN
  (cndL (T := fun q => SW Go.Proofs.Tryz.prog G (.func q) a h k) (fun hx => w118 hc hx))
  (cndN
  (cndL (T := fun q => SW Go.Proofs.Tryz.prog G (.func q) a h k) (fun hx => w119 hc hx))
  (cndL (T := fun q => SW Go.Proofs.Tryz.prog G (.func q) a h k) (fun hx => w120 hc hx)))))))
  (cndN
  (cndN
  (cndN
  (cndN
  (cndL (T := fun q => SW Go.Proofs.Tryz.prog G (.func q) a h k) (fun hx => w122 hc hx))
  (cndL (T := fun q => SW Go.Proofs.Tryz.prog G (.func q) a h k) (fun hx => w123 hc hx)))
  (cndN
  (cndL (T := fun q => SW Go.Proofs.Tryz.prog G (.func q) a h k) (fun hx => w124 hc hx))
  (cndN
  (cndL (T := fun q => SW Go.Proofs.Tryz.prog G (.func q) a h k) (fun hx => w125 hc hx))
  (cndL (T := fun q => SW Go.Proofs.Tryz.prog G (.func q) a h k) (fun hx => w126 hc hx)))))
  (cndN
  (cndN
  (cndL (T := fun q => SW Go.Proofs.Tryz.prog G (.func q) a h k) (fun hx => w127 hc hx))
  (cndL (T := fun q => SW Go.Proofs.Tryz.prog G (.func q) a h k) (fun hx => w128 hc hx)))
  (cndN
  (cndL (T := fun q => SW Go.Proofs.Tryz.prog G (.func q) a h k) (fun hx => w129 hc hx))
  (cndN
  (cndL (T := fun q => SW Go.Proofs.Tryz.prog G (.func q) a h k) (fun hx => w130 hc hx))
  (cndL (T := fun q => SW Go.Proofs.Tryz.prog G (.func q) a h k) (fun hx => w131 hc hx))))))
  (cndN
  (cndN
  (cndN
  (cndL (T := fun q => SW Go.Proofs.Tryz.prog G (.func q) a h k) (fun hx => w132 hc hx))
  (cndL (T := fun q => SW Go.Proofs.Tryz.prog G (.func q) a h k) (fun hx => w133 hc hx)))
  (cndN
  (cndL (T := fun q => SW Go.Proofs.Tryz.prog G (.func q) a h k) (fun hx => w134 hc hx))
  (cndN
  (cndL (T := fun q => SW Go.Proofs.Tryz.prog G (.func q) a h k) (fun hx => w135 hc hx))
  (cndL (T := fun q => SW Go.Proofs.Tryz.prog G (.func q) a h k) (fun hx => w136 hc hx)))))
  (cndN
  (cndN
  (cndL (T := fun q => SW Go.Proofs.Tryz.prog G (.func q) a h k) (fun hx => w137 hc hx))
  (cndN
  (cndL (T := fun q => SW Go.Proofs.Tryz.prog G (.func q) a h k) (fun hx => w138 hc hx))
  (cndL (T := fun q => SW Go.Proofs.Tryz.prog G (.func q) a h k) (fun hx => w139 hc hx))))
  (cndN
  (cndL (T := fun q => SW Go.Proofs.Tryz.prog G (.func q) a h k) (fun hx => w140 hc hx))
  (cndN
  (cndL (T := fun q => SW Go.Proofs.Tryz.prog G (.func q) a h k) (fun hx => w141 hc hx))
  (cndL (T := fun q => SW Go.Proofs.Tryz.prog G (.func q) a h k) (fun hx => w142 hc hx))))))))
  (cndN
  (cndN
  (cndN
  (cndN
  (cndN
  (cndL (T := fun q => SW Go.Proofs.Tryz.prog G (.func q) a h k) (fun hx => w143 hc hx))
  (cndL (T := fun q => SW Go.Proofs.Tryz.prog G (.func q) a h k) (fun hx => w144 hc hx)))
  (cndN
  (cndL (T := fun q => SW Go.Proofs.Tryz.prog G (.func q) a h k) (fun hx => w145 hc hx))
  (cndN
  (cndL (T := fun q => SW Go.Proofs.Tryz.prog G (.func q) a h k) (fun hx => w146 hc hx))
  (cndL (T := fun q => SW Go.Proofs.Tryz.prog G (.func q) a h k) (fun hx => w147 hc hx)))))
  (cndN
  (cndN
  (cndL (T := fun q => SW Go.Proofs.Tryz.prog G (.func q) a h k) (fun hx => w148 hc hx))
  (cndL (T := fun q => SW Go.Proofs.Tryz.prog G (.func q) a h k) (fun hx => w149 hc hx)))
  (cndN
  (cndL (T := fun q => SW Go.Proofs.Tryz.prog G (.func q) a h k) (fun hx => w150 hc hx))
  (cndN
  (cndL (T := fun q => SW Go.Proofs.Tryz.prog G (.func q) a h k) (fun hx => w151 hc hx))
  (cndL (T := fun q => SW Go.Proofs.Tryz.prog G (.func q) a h k) (fun hx => w152 hc hx))))))
  (cndN
  (cndN
  (cndN
  (cndL (T := fun q => SW Go.Proofs.Tryz.prog G (.func q) a h k) (fun hx => w153 hc hx))
  (cndL (T := fun q => SW Go.Proofs.Tryz.prog G (.func q) a h k) (fun hx => w154 hc hx)))
  (cndN
  (cndL (T := fun q => SW Go.Proofs.Tryz.prog G (.func q) a h k) (fun hx => w155 hc hx))
  (cndN
  (cndL (T := fun q => SW Go.Proofs.Tryz.prog G (.func q) a h k) (fun hx => x156 hx))
  (cndL (T := fun q => SW Go.Proofs.Tryz.prog G (.func q) a h k) (fun hx => w157 hc hx)))))
  (cndN
  (cndN
  (cndL (T := fun q => SW Go.Proofs.Tryz.prog G (.func q) a h k) (fun hx => w158 hc hx))
  (cndL (T := fun q => SW Go.Proofs.Tryz.prog G (.func q) a h k) (fun hx => w159 hc hx)))
  (cndN
  (cndL (T := fun q => SW Go.Proofs.Tryz.prog G (.func q) a h k) (fun hx => w160 hc hx))
  (cndN
  (cndL (T := fun q => SW Go.Proofs.Tryz.prog G (.func q) a h k) (fun hx => w161 hc hx))
  (cndL (T := fun q => SW Go.Proofs.Tryz.prog G (.func q) a h k) (fun hx => w162 hc hx)))))))
  (cndN
  (cndN
  (cndN
  (cndN
  (cndL (T := fun q => SW Go.Proofs.Tryz.prog G (.func q) a h k) (fun hx => w163 hc hx))
  (cndL (T := fun q => SW Go.Proofs.Tryz.prog G (.func q) a h k) (fun hx => w164 hc hx)))
  (cndN
  (cndL (T := fun q => SW Go.Proofs.Tryz.prog G (.func q) a h k) (fun hx => w165 hc hx))
  (cndN
  (cndL (T := fun q => SW Go.Proofs.Tryz.prog G (.func q) a h k) (fun hx => w166 hc hx))
  (cndL (T := fun q => SW Go.Proofs.Tryz.prog G (.func q) a h k) (fun hx => w167 hc hx)))))
  (cndN
  (cndN
  (cndL (T := fun q => SW Go.Proofs.Tryz.prog G (.func q) a h k) (fun hx => w168 hc hx))
  (cndL (T := fun q => SW Go.Proofs.Tryz.prog G (.func q) a h k) (fun hx => w169 hc hx)))
  (cndN
  (cndL (T := fun q => SW Go.Proofs.Tryz.prog G (.func q) a h k) (fun hx => w170 hc hx))
  (cndN
  (cndL (T := fun q => SW Go.Proofs.Tryz.prog G (.func q) a h k) (fun hx => w172 hc hx))
  (cndL (T := fun q => SW Go.Proofs.Tryz.prog G (.func q) a h k) (fun hx => w173 hc hx))))))
  (cndN
  (cndN
  (cndN
  (cndL (T := fun q => SW Go.Proofs.Tryz.prog G (.func q) a h k) (fun hx => w174 hc hx))
  (cndL (T := fun q => SW Go.Proofs.Tryz.prog G (.func q) a h k) (fun hx => w175 hc hx)))
  (cndN
  (cndL (T := fun q => SW Go.Proofs.Tryz.prog G (.func q) a h k) (fun hx => w176 hc hx))
  (cndN
  (cndL (T := fun q => SW Go.Proofs.Tryz.prog G (.func q) a h k) (fun hx => w177 hc hx))
  (cndL (T := fun q => SW Go.Proofs.Tryz.prog G (.func q) a h k) (fun hx => w178 hc hx)))))
  (cndN
  (cndN
  (cndL (T := fun q => SW Go.Proofs.Tryz.prog G (.func q) a h k) (fun hx => w179 hc hx))
  (cndN
  (cndL (T := fun q => SW Go.Proofs.Tryz.prog G (.func q) a h k) (fun hx => w180 hc hx))
  (cndL (T := fun q => SW Go.Proofs.Tryz.prog G (.func q) a h k) (fun hx => w181 hc hx))))
  (cndN
  (cndL (T := fun q => SW Go.Proofs.Tryz.prog G (.func q) a h k) (fun hx => w182 hc hx))
  (cndN
  (cndL (T := fun q => SW Go.Proofs.Tryz.prog G (.func q) a h k) (fun hx => w183 hc hx))
  (cndL (T := fun q => SW Go.Proofs.Tryz.prog G (.func q) a h k) (fun hx => w184 hc hx))))))))))
  (cndN
  (cndN
  (cndN
  (cndN
  (cndN
  (cndN
  (cndN
  (cndL (T := fun q => SW Go.Proofs.Tryz.prog G (.func q) a h k) (fun hx => w185 hc hx))
  (cndL (T := fun q => SW Go.Proofs.Tryz.prog G (.func q) a h k) (fun hx => w186 hc hx)))
  (cndN
  (cndL (T := fun q => SW Go.Proofs.Tryz.prog G (.func q) a h k) (fun hx => w188 hc hx))
  (cndN
  (cndL (T := fun q => SW Go.Proofs.Tryz.prog G (.func q) a h k) (fun hx => w189 hc hx))
  (cndL (T := fun q => SW Go.Proofs.Tryz.prog G (.func q) a h k) (fun hx => w190 hc hx)))))
  (cndN
  (cndN
  (cndL (T := fun q => SW Go.Proofs.Tryz.prog G (.func q) a h k) (fun hx => w191 hc hx))
  (cndL (T := fun q => SW Go.Proofs.Tryz.prog G (.func q) a h k) (fun hx => w192 hc hx)))
  (cndN
  (cndL (T := fun q => SW Go.Proofs.Tryz.prog G (.func q) a h k) (fun hx => w193 hc hx))
  (cndN
  (cndL (T := fun q => SW Go.Proofs.Tryz.prog G (.func q) a h k) (fun hx => w194 hc hx))
  (cndL (T := fun q => SW Go.Proofs.Tryz.prog G (.func q) a h k) (fun hx => w195 hc hx))))))
  (cndN
  (cndN
  (cndN
  (cndL (T := fun q => SW Go.Proofs.Tryz.prog G (.func q) a h k) (fun hx => w196 hc hx))
  (cndL (T := fun q => SW Go.Proofs.Tryz.prog G (.func q) a h k) (fun hx => w197 hc hx)))
  (cndN
  (cndL (T := fun q => SW Go.Proofs.Tryz.prog G (.func q) a h k) (fun hx => w198 hc hx))
  (cndN
  (cndL (T := fun q => SW Go.Proofs.Tryz.prog G (.func q) a h k) (fun hx => w199 hc hx))
  (cndL (T := fun q => SW Go.Proofs.Tryz.prog G (.func q) a h k) (fun hx => w200 hc hx)))))
  (cndN
  (cndN
  (cndL (T := fun q => SW Go.Proofs.Tryz.prog G (.func q) a h k) (fun hx => w201 hc hx))
  (cndL (T := fun q => SW Go.Proofs.Tryz.prog G (.func q) a h k) (fun hx => w203 hc hx)))
  (cndN
  (cndL (T := fun q => SW Go.Proofs.Tryz.prog G (.func q) a h k) (fun hx => w204 hc hx))
  (cndN
  (cndL (T := fun q => SW Go.Proofs.Tryz.prog G (.func q) a h k) (fun hx => w205 hc hx))
  (cndL (T := fun q => SW Go.Proofs.Tryz.prog G (.func q) a h k) (fun hx => w206 hc hx)))))))
  (cndN
  (cndN
  (cndN
  (cndN
  (cndL (T := fun q => SW Go.Proofs.Tryz.prog G (.func q) a h k) (fun hx => w207 hc hx))
  (cndL (T := fun q => SW Go.Proofs.Tryz.prog G (.func q) a h k) (fun hx => w208 hc hx)))
  (cndN
  (cndL (T := fun q => SW Go.Proofs.Tryz.prog G (.func q) a h k) (fun hx => w209 hc hx))
  (cndN
  (cndL (T := fun q => SW Go.Proofs.Tryz.prog G (.func q) a h k) (fun hx => w210 hc hx))
  (cndL (T := fun q => SW Go.Proofs.Tryz.prog G (.func q) a h k) (fun hx => w211 hc hx)))))
  (cndN
  (cndN
  (cndL (T := fun q => SW Go.Proofs.Tryz.prog G (.func q) a h k) (fun hx => w212 hc hx))
  (cndL (T := fun q => SW Go.Proofs.Tryz.prog G (.func q) a h k) (fun hx => w213 hc hx)))
  (cndN
  (cndL (T := fun q => SW Go.Proofs.Tryz.prog G (.func q) a h k) (fun hx => w214 hc hx))
  (cndN
  (cndL (T := fun q => SW Go.Proofs.Tryz.prog G (.func q) a h k) (fun hx => w215 hc hx))
  (cndL (T := fun q => SW Go.Proofs.Tryz.prog G (.func q) a h k) (fun hx => w216 hc hx))))))
  (cndN
  (cndN
  (cndN
  (cndL (T := fun q => SW Go.Proofs.Tryz.prog G (.func q) a h k) (fun hx => w217 hc hx))
  (cndL (T := fun q => SW Go.Proofs.Tryz.prog G (.func q) a h k) (fun hx => w218 hc hx)))
  (cndN
  (cndL (T := fun q => SW Go.Proofs.Tryz.prog G (.func q) a h k) (fun hx => w219 hc hx))
  (cndN
  (cndL (T := fun q => SW Go.Proofs.Tryz.prog G (.func q) a h k) (fun hx => w220 hc hx))
  (cndL (T := fun q => SW Go.Proofs.Tryz.prog G (.func q) a h k) (fun hx => w221 hc hx)))))
  (cndN
  (cndN
  (cndL (T := fun q => SW Go.Proofs.Tryz.prog G (.func q) a h k) (fun hx => w222 hc hx))
  (cndN
  (cndL (T := fun q => SW Go.Proofs.Tryz.prog G (.func q) a h k) (fun hx => w223 hc hx))
  (cndL (T := fun q => SW Go.Proofs.Tryz.prog G (.func q) a h k) (fun hx => w224 hc hx))))
  (cndN
  (cndL (T := fun q => SW Go.Proofs.Tryz.prog G (.func q) a h k) (fun hx => w225 hc hx))
  (cndN
  (cndL (T := fun q => SW Go.Proofs.Tryz.prog G (.func q) a h k) (fun hx => w226 hc hx))
  (cndL (T := fun q => SW Go.Proofs.Tryz.prog G (.func q) a h k) (fun hx => w227 hc hx))))))))
  (cndN
  (cndN
  (cndN
  (cndN
  (cndN
  (cndL (T := fun q => SW Go.Proofs.Tryz.prog G (.func q) a h k) (fun hx => w228 hc hx))
  (cndL (T := fun q => SW Go.Proofs.Tryz.prog G (.func q) a h k) (fun hx => w229 hc hx)))
  (cndN
  (cndL (T := fun q => SW Go.Proofs.Tryz.prog G (.func q) a h k) (fun hx => w230 hc hx))
  (cndN
  (cndL (T := fun q => SW Go.Proofs.Tryz.prog G (.func q) a h k) (fun hx => w231 hc hx))
  (cndL (T := fun q => SW Go.Proofs.Tryz.prog G (.func q) a h k) (fun hx => w232 hc hx)))))
  (cndN
  (cndN
  (cndL (T := fun q => SW Go.Proofs.Tryz.prog G (.func q) a h k) (fun hx => x233 hx))
  (cndL (T := fun q => SW Go.Proofs.Tryz.prog G (.func q) a h k) (fun hx => w234 hc hx)))
  (cndN
  (cndL (T := fun q => SW Go.Proofs.Tryz.prog G (.func q) a h k) (fun hx => x235 hx))
  (cndN
  (cndL (T := fun q => SW Go.Proofs.Tryz.prog G (.func q) a h k) (fun hx => w236 hc hx))
  (cndL (T := fun q => SW Go.Proofs.Tryz.prog G (.func q) a h k) (fun hx => w237 hc hx))))))
  (cndN
  (cndN
  (cndN
  (cndL (T := fun q => SW Go.Proofs.Tryz.prog G (.func q) a h k) (fun hx => w238 hc hx))
  (cndL (T := fun q => SW Go.Proofs.Tryz.prog G (.func q) a h k) (fun hx => w239 hc hx)))
  (cndN
  (cndL (T := fun q => SW Go.Proofs.Tryz.prog G (.func q) a h k) (fun hx => w240 hc hx))
  (cndN
  (cndL (T := fun q => SW Go.Proofs.Tryz.prog G (.func q) a h k) (fun hx => w241 hc hx))
  (cndL (T := fun q => SW Go.Proofs.Tryz.prog G (.func q) a h k) (fun hx => w242 hc hx)))))
  (cndN
  (cndN
  (cndL (T := fun q => SW Go.Proofs.Tryz.prog G (.func q) a h k) (fun hx => w243 hc hx))
  (cndL (T := fun q => SW Go.Proofs.Tryz.prog G (.func q) a h k) (fun hx => w244 hc hx)))
  (cndN
  (cndL (T := fun q => SW Go.Proofs.Tryz.prog G (.func q) a h k) (fun hx => w245 hc hx))
  (cndN
  (cndL (T := fun q => SW Go.Proofs.Tryz.prog G (.func q) a h k) (fun hx => w246 hc hx))
  (cndL (T := fun q => SW Go.Proofs.Tryz.prog G (.func q) a h k) (fun hx => w247 hc hx)))))))
  (cndN
  (cndN
  (cndN
  (cndN
  (cndL (T := fun q => SW Go.Proofs.Tryz.prog G (.func q) a h k) (fun hx => w248 hc hx))
  (cndL (T := fun q => SW Go.Proofs.Tryz.prog G (.func q) a h k) (fun hx => w249 hc hx)))
  (cndN
  (cndL (T := fun q => SW Go.Proofs.Tryz.prog G (.func q) a h k) (fun hx => w250 hc hx))
  (cndN
  (cndL (T := fun q => SW Go.Proofs.Tryz.prog G (.func q) a h k) (fun hx => w251 hc hx))
  (cndL (T := fun q => SW Go.Proofs.Tryz.prog G (.func q) a h k) (fun hx => w252 hc hx)))))
  (cndN
  (cndN
  (cndL (T := fun q => SW Go.Proofs.Tryz.prog G (.func q) a h k) (fun hx => x253 hx))
  (cndL (T := fun q => SW Go.Proofs.Tryz.prog G (.func q) a h k) (fun hx => x254 hx)))
  (cndN
  (cndL (T := fun q => SW Go.Proofs.Tryz.prog G (.func q) a h k) (fun hx => w255 hc hx))
  (cndN
  (cndL (T := fun q => SW Go.Proofs.Tryz.prog G (.func q) a h k) (fun hx => w256 hc hx))
  (cndL (T := fun q => SW Go.Proofs.Tryz.prog G (.func q) a h k) (fun hx => w257 hc hx))))))
  (cndN
  (cndN
  (cndN
  (cndL (T := fun q => SW Go.Proofs.Tryz.prog G (.func q) a h k) (fun hx => w258 hc hx))
  (cndL (T := fun q => SW Go.Proofs.Tryz.prog G (.func q) a h k) (fun hx => w260 hc hx)))
  (cndN
  (cndL (T := fun q => SW Go.Proofs.Tryz.prog G (.func q) a h k) (fun hx => w261 hc hx))
  (cndN
  (cndL (T := fun q => SW Go.Proofs.Tryz.prog G (.func q) a h k) (fun hx => w262 hc hx))
  (cndL (T := fun q => SW Go.Proofs.Tryz.prog G (.func q) a h k) (fun hx => w263 hc hx)))))
  (cndN
  (cndN
  (cndL (T := fun q => SW Go.Proofs.Tryz.prog G (.func q) a h k) (fun hx => x264 hx))
  (cndN
  (cndL (T := fun q => SW Go.Proofs.Tryz.prog G (.func q) a h k) (fun hx => w265 hc hx))
  (cndL (T := fun q => SW Go.Proofs.Tryz.prog G (.func q) a h k) (fun hx => w266 hc hx))))
  (cndN
  (cndL (T := fun q => SW Go.Proofs.Tryz.prog G (.func q) a h k) (fun hx => w267 hc hx))
  (cndN
  (cndL (T := fun q => SW Go.Proofs.Tryz.prog G (.func q) a h k) (fun hx => w268 hc hx))
  (cndL (T := fun q => SW Go.Proofs.Tryz.prog G (.func q) a h k) (fun hx => w269 hc hx)))))))))
  (cndN
  (cndN
  (cndN
  (cndN
  (cndN
  (cndN
  (cndL (T := fun q => SW Go.Proofs.Tryz.prog G (.func q) a h k) (fun hx => w271 hc hx))
  (cndL (T := fun q => SW Go.Proofs.Tryz.prog G (.func q) a h k) (fun hx => w272 hc hx)))
  (cndN
  (cndL (T := fun q => SW Go.Proofs.Tryz.prog G (.func q) a h k) (fun hx => w273 hc hx))
  (cndN
  (cndL (T := fun q => SW Go.Proofs.Tryz.prog G (.func q) a h k) (fun hx => w274 hc hx))
  (cndL (T := fun q => SW Go.Proofs.Tryz.prog G (.func q) a h k) (fun hx => w275 hc hx)))))
  (cndN
  (cndN
  (cndL (T := fun q => SW Go.Proofs.Tryz.prog G (.func q) a h k) (fun hx => w277 hc hx))
  (cndL (T := fun q => SW Go.Proofs.Tryz.prog G (.func q) a h k) (fun hx => w278 hc hx)))
  (cndN
  (cndL (T := fun q => SW Go.Proofs.Tryz.prog G (.func q) a h k) (fun hx => w279 hc hx))
  (cndN
  (cndL (T := fun q => SW Go.Proofs.Tryz.prog G (.func q) a h k) (fun hx => w280 hc hx))
  (cndL (T := fun q => SW Go.Proofs.Tryz.prog G (.func q) a h k) (fun hx => w281 hc hx))))))
  (cndN
  (cndN
  (cndN
  (cndL (T := fun q => SW Go.Proofs.Tryz.prog G (.func q) a h k) (fun hx => w282 hc hx))
  (cndL (T := fun q => SW Go.Proofs.Tryz.prog G (.func q) a h k) (fun hx => w283 hc hx)))
  (cndN
  (cndL (T := fun q => SW Go.Proofs.Tryz.prog G (.func q) a h k) (fun hx => w284 hc hx))
  (cndN
  (cndL (T := fun q => SW Go.Proofs.Tryz.prog G (.func q) a h k) (fun hx => x286 hx))
  (cndL (T := fun q => SW Go.Proofs.Tryz.prog G (.func q) a h k) (fun hx => x287 hx)))))
  (cndN
  (cndN
  (cndL (T := fun q => SW Go.Proofs.Tryz.prog G (.func q) a h k) (fun hx => x288 hx))
  (cndL (T := fun q => SW Go.Proofs.Tryz.prog G (.func q) a h k) (fun hx => x289 hx)))
  (cndN
  (cndL (T := fun q => SW Go.Proofs.Tryz.prog G (.func q) a h k) (fun hx => w290 hc hx))
  (cndN
  (cndL (T := fun q => SW Go.Proofs.Tryz.prog G (.func q) a h k) (fun hx => x291 hx))
  (cndL (T := fun q => SW Go.Proofs.Tryz.prog G (.func q) a h k) (fun hx => x292 hx)))))))
  (cndN
  (cndN
  (cndN
  (cndN
  (cndL (T := fun q => SW Go.Proofs.Tryz.prog G (.func q) a h k) (fun hx => w293 hc hx))
  (cndL (T := fun q => SW Go.Proofs.Tryz.prog G (.func q) a h k) (fun hx => w294 hc hx)))
  (cndN
  (cndL (T := fun q => SW Go.Proofs.Tryz.prog G (.func q) a h k) (fun hx => w295 hc hx))
  (cndN
  (cndL (T := fun q => SW Go.Proofs.Tryz.prog G (.func q) a h k) (fun hx => w296 hc hx))
  (cndL (T := fun q => SW Go.Proofs.Tryz.prog G (.func q) a h k) (fun hx => w297 hc hx)))))
  (cndN
  (cndN
  (cndL (T := fun q => SW Go.Proofs.Tryz.prog G (.func q) a h k) (fun hx => w298 hc hx))
  (cndL (T := fun q => SW Go.Proofs.Tryz.prog G (.func q) a h k) (fun hx => w299 hc hx)))
  (cndN
  (cndL (T := fun q => SW Go.Proofs.Tryz.prog G (.func q) a h k) (fun hx => w300 hc hx))
  (cndN
  (cndL (T := fun q => SW Go.Proofs.Tryz.prog G (.func q) a h k) (fun hx => w301 hc hx))
  (cndL (T := fun q => SW Go.Proofs.Tryz.prog G (.func q) a h k) (fun hx => w302 hc hx))))))
  (cndN
  (cndN
  (cndN
  (cndL (T := fun q => SW Go.Proofs.Tryz.prog G (.func q) a h k) (fun hx => w303 hc hx))
  (cndL (T := fun q => SW Go.Proofs.Tryz.prog G (.func q) a h k) (fun hx => w304 hc hx)))
  (cndN
  (cndL (T := fun q => SW Go.Proofs.Tryz.prog G (.func q) a h k) (fun hx => w305 hc hx))
  (cndN
  (cndL (T := fun q => SW Go.Proofs.Tryz.prog G (.func q) a h k) (fun hx => w306 hc hx))
  (cndL (T := fun q => SW Go.Proofs.Tryz.prog G (.func q) a h k) (fun hx => w307 hc hx)))))
  (cndN
  (cndN
  (cndL (T := fun q => SW Go.Proofs.Tryz.prog G (.func q) a h k) (fun hx => w308 hc hx))
  (cndN
  (cndL (T := fun q => SW Go.Proofs.Tryz.prog G (.func q) a h k) (fun hx => w309 hc hx))
  (cndL (T := fun q => SW Go.Proofs.Tryz.prog G (.func q) a h k) (fun hx => w310 hc hx))))
  (cndN
  (cndL (T := fun q => SW Go.Proofs.Tryz.prog G (.func q) a h k) (fun hx => w311 hc hx))
  (cndN
  (cndL (T := fun q => SW Go.Proofs.Tryz.prog G (.func q) a h k) (fun hx => w312 hc hx))
  (cndL (T := fun q => SW Go.Proofs.Tryz.prog G (.func q) a h k) (fun hx => w313 hc hx))))))))
  (cndN
  (cndN
  (cndN
  (cndN
  (cndN
  (cndL (T := fun q => SW Go.Proofs.Tryz.prog G (.func q) a h k) (fun hx => w314 hc hx))
  (cndL (T := fun q => SW Go.Proofs.Tryz.prog G (.func q) a h k) (fun hx => w315 hc hx)))
  (cndN
  (cndL (T := fun q => SW Go.Proofs.Tryz.prog G (.func q) a h k) (fun hx => w316 hc hx))
  (cndN
  (cndL (T := fun q => SW Go.Proofs.Tryz.prog G (.func q) a h k) (fun hx => w326 hc hx))
  (cndL (T := fun q => SW Go.Proofs.Tryz.prog G (.func q) a h k) (fun hx => w327 hc hx)))))
  (cndN
  (cndN
  (cndL (T := fun q => SW Go.Proofs.Tryz.prog G (.func q) a h k) (fun hx => w328 hc hx))
  (cndL (T := fun q => SW Go.Proofs.Tryz.prog G (.func q) a h k) (fun hx => w329 hc hx)))
  (cndN
  (cndL (T := fun q => SW Go.Proofs.Tryz.prog G (.func q) a h k) (fun hx => w330 hc hx))
  (cndN
  (cndL (T := fun q => SW Go.Proofs.Tryz.prog G (.func q) a h k) (fun hx => w331 hc hx))
  (cndL (T := fun q => SW Go.Proofs.Tryz.prog G (.func q) a h k) (fun hx => w332 hc hx))))))
  (cndN
  (cndN
  (cndN
  (cndL (T := fun q => SW Go.Proofs.Tryz.prog G (.func q) a h k) (fun hx => w333 hc hx))
  (cndL (T := fun q => SW Go.Proofs.Tryz.prog G (.func q) a h k) (fun hx => w334 hc hx)))
  (cndN
  (cndL (T := fun q => SW Go.Proofs.Tryz.prog G (.func q) a h k) (fun hx => w335 hc hx))
  (cndN
  (cndL (T := fun q => SW Go.Proofs.Tryz.prog G (.func q) a h k) (fun hx => w336 hc hx))
  (cndL (T := fun q => SW Go.Proofs.Tryz.prog G (.func q) a h k) (fun hx => w337 hc hx)))))
  (cndN
  (cndN
  (cndL (T := fun q => SW Go.Proofs.Tryz.prog G (.func q) a h k) (fun hx => w338 hc hx))
  (cndL (T := fun q => SW Go.Proofs.Tryz.prog G (.func q) a h k) (fun hx => w339 hc hx)))
  (cndN
  (cndL (T := fun q => SW Go.Proofs.Tryz.prog G (.func q) a h k) (fun hx => w340 hc hx))
  (cndN
  (cndL (T := fun q => SW Go.Proofs.Tryz.prog G (.func q) a h k) (fun hx => w341 hc hx))
  (cndL (T := fun q => SW Go.Proofs.Tryz.prog G (.func q) a h k) (fun hx => w342 hc hx)))))))
  (cndN
  (cndN
  (cndN
  (cndN
  (cndL (T := fun q => SW Go.Proofs.Tryz.prog G (.func q) a h k) (fun hx => w343 hc hx))
  (cndL (T := fun q => SW Go.Proofs.Tryz.prog G (.func q) a h k) (fun hx => w345 hc hx)))
  (cndN
  (cndL (T := fun q => SW Go.Proofs.Tryz.prog G (.func q) a h k) (fun hx => w348 hc hx))
  (cndN
  (cndL (T := fun q => SW Go.Proofs.Tryz.prog G (.func q) a h k) (fun hx => w349 hc hx))
  (cndL (T := fun q => SW Go.Proofs.Tryz.prog G (.func q) a h k) (fun hx => w350 hc hx)))))
  (cndN
  (cndN
  (cndL (T := fun q => SW Go.Proofs.Tryz.prog G (.func q) a h k) (fun hx => w351 hc hx))
  (cndL (T := fun q => SW Go.Proofs.Tryz.prog G (.func q) a h k) (fun hx => w352 hc hx)))
  (cndN
  (cndL (T := fun q => SW Go.Proofs.Tryz.prog G (.func q) a h k) (fun hx => w353 hc hx))
  (cndN
  (cndL (T := fun q => SW Go.Proofs.Tryz.prog G (.func q) a h k) (fun hx => w354 hc hx))
  (cndL (T := fun q => SW Go.Proofs.Tryz.prog G (.func q) a h k) (fun hx => w355 hc hx))))))
  (cndN
  (cndN
  (cndN
  (cndL (T := fun q => SW Go.Proofs.Tryz.prog G (.func q) a h k) (fun hx => w356 hc hx))
  (cndL (T := fun q => SW Go.Proofs.Tryz.prog G (.func q) a h k) (fun hx => w357 hc hx)))
  (cndN
  (cndL (T := fun q => SW Go.Proofs.Tryz.prog G (.func q) a h k) (fun hx => w360 hc hx))
  (cndN
  (cndL (T := fun q => SW Go.Proofs.Tryz.prog G (.func q) a h k) (fun hx => w361 hc hx))
  (cndL (T := fun q => SW Go.Proofs.Tryz.prog G (.func q) a h k) (fun hx => w362 hc hx)))))
  (cndN
  (cndN
  (cndL (T := fun q => SW Go.Proofs.Tryz.prog G (.func q) a h k) (fun hx => w363 hc hx))
  (cndN
  (cndL (T := fun q => SW Go.Proofs.Tryz.prog G (.func q) a h k) (fun hx => w365 hc hx))
  (cndL (T := fun q => SW Go.Proofs.Tryz.prog G (.func q) a h k) (fun hx => w366 hc hx))))
  (cndN
  (cndL (T := fun q => SW Go.Proofs.Tryz.prog G (.func q) a h k) (fun hx => w367 hc hx))
  (cndN
  (cndL (T := fun q => SW Go.Proofs.Tryz.prog G (.func q) a h k) (fun hx => w369 hc hx))
  (cndL (T := fun q => SW Go.Proofs.Tryz.prog G (.func q) a h k) (fun hx => x402 hx))))))))))) hg
theorem calls_ok (m : Nat) : ∀ n, CallOk Go.Proofs.Tryz.prog (CP env) G (fun p => p) (calls m n)
  | 0 => fun _ _ _ _ _ _ _ _ _ _ _ _ hg => hg.elim
  | n + 1 => fun μ h w fn fn' args vargs k s gl hf hv hg => by
    cases fn with
    | func i => exact disp_ok (calls_ok m n) (show disp (calls m n) m i args h k from hg) μ w fn' vargs s gl hf hv
    | yield l => exact yield_ok mixed envOk (calls_ok m n) (show yieldA env (calls m n) (okLp Go.Proofs.Tryz.prog env G) l args h k from hg) μ w fn' vargs s gl hf hv
    | _ => exact hg.elim

end Go.Den
