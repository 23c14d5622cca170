/-
  A part of the proof: the table of calls is the program's.
-/
import Derived.Test.YtpjkiikmjddpiaaGreatDoorRunC
import Derived.Test.YtpjkiikmjddpiaaGreatDoorRunB1
import Derived.Test.YtpjkiikmjddpiaaGreatDoorRunB2
import Derived.Test.YtpjkiikmjddpiaaGreatDoorRunB3
import Derived.Test.YtpjkiikmjddpiaaGreatDoorRunB4
import Derived.Laws.Externs
import Derived.KernelRfl
namespace Go.Den
set_option maxRecDepth 100000
theorem x88{a:List AV}{h:H}{k:KV}(hg:cnd (Nat.beq (len a) 2) (oK (extA (.aStore .i64) a h) k) False):SW Go.Proofs.Tryz.prog G (.func 88) a h k:=
  extern_ok (e:=(.aStore .i64)) (n:=2) rfl (fun args w=>run_callFunc_extern (e:=extM (.aStore .i64)) Go.Proofs.Tryz.func88 (by kernel_rfl) (by kernel_rfl) (by kernel_rfl) (by kernel_rfl) args w) hg
theorem x109{a:List AV}{h:H}{k:KV}(hg:cnd (Nat.beq (len a) 2) (oK (extA (.aAdd .i64) a h) k) False):SW Go.Proofs.Tryz.prog G (.func 109) a h k:=
  extern_ok (e:=(.aAdd .i64)) (n:=2) rfl (fun args w=>run_callFunc_extern (e:=extM (.aAdd .i64)) Go.Proofs.Tryz.func109 (by kernel_rfl) (by kernel_rfl) (by kernel_rfl) (by kernel_rfl) args w) hg
theorem x112{a:List AV}{h:H}{k:KV}(hg:cnd (Nat.beq (len a) 1) (oK (extA .noEscape a h) k) False):SW Go.Proofs.Tryz.prog G (.func 112) a h k:=
  extern_ok (e:=.noEscape) (n:=1) rfl (fun args w=>run_callFunc_extern (e:=extM .noEscape) Go.Proofs.Tryz.func112 (by kernel_rfl) (by kernel_rfl) (by kernel_rfl) (by kernel_rfl) args w) hg
theorem x228{a:List AV}{h:H}{k:KV}(hg:cnd (Nat.beq (len a) 2) (oK (extA .indexByte a h) k) False):SW Go.Proofs.Tryz.prog G (.func 228) a h k:=
  extern_ok (e:=.indexByte) (n:=2) rfl (fun args w=>run_callFunc_extern (e:=extM .indexByte) Go.Proofs.Tryz.func228 (by kernel_rfl) (by kernel_rfl) (by kernel_rfl) (by kernel_rfl) args w) hg
theorem x230{a:List AV}{h:H}{k:KV}(hg:cnd (Nat.beq (len a) 1) (oK (extA (.aLoad .u32) a h) k) False):SW Go.Proofs.Tryz.prog G (.func 230) a h k:=
  extern_ok (e:=(.aLoad .u32)) (n:=1) rfl (fun args w=>run_callFunc_extern (e:=extM (.aLoad .u32)) Go.Proofs.Tryz.func230 (by kernel_rfl) (by kernel_rfl) (by kernel_rfl) (by kernel_rfl) args w) hg
theorem x248{a:List AV}{h:H}{k:KV}(hg:cnd (Nat.beq (len a) 1) (oK (extA (.aLoad .i64) a h) k) False):SW Go.Proofs.Tryz.prog G (.func 248) a h k:=
  extern_ok (e:=(.aLoad .i64)) (n:=1) rfl (fun args w=>run_callFunc_extern (e:=extM (.aLoad .i64)) Go.Proofs.Tryz.func248 (by kernel_rfl) (by kernel_rfl) (by kernel_rfl) (by kernel_rfl) args w) hg
theorem x249{a:List AV}{h:H}{k:KV}(hg:cnd (Nat.beq (len a) 3) (oK (extA (.aCas .i64) a h) k) False):SW Go.Proofs.Tryz.prog G (.func 249) a h k:=
  extern_ok (e:=(.aCas .i64)) (n:=3) rfl (fun args w=>run_callFunc_extern (e:=extM (.aCas .i64)) Go.Proofs.Tryz.func249 (by kernel_rfl) (by kernel_rfl) (by kernel_rfl) (by kernel_rfl) args w) hg
theorem x259{a:List AV}{h:H}{k:KV}(hg:cnd (Nat.beq (len a) 2) (oK (extA (.aStore .u32) a h) k) False):SW Go.Proofs.Tryz.prog G (.func 259) a h k:=
  extern_ok (e:=(.aStore .u32)) (n:=2) rfl (fun args w=>run_callFunc_extern (e:=extM (.aStore .u32)) Go.Proofs.Tryz.func259 (by kernel_rfl) (by kernel_rfl) (by kernel_rfl) (by kernel_rfl) args w) hg
theorem x281{a:List AV}{h:H}{k:KV}(hg:cnd (Nat.beq (len a) 0) (k .undef h) False):SW Go.Proofs.Tryz.prog G (.func 281) a h k:=
  mark0_ok (run_call_mark0 Go.Proofs.Tryz.func281 (by kernel_rfl) (by kernel_rfl) (by kernel_rfl) .disable (by kernel_rfl)) hg
theorem x282{a:List AV}{h:H}{k:KV}(hg:cnd (Nat.beq (len a) 3) (oK (extA (.aCas .i32) a h) k) False):SW Go.Proofs.Tryz.prog G (.func 282) a h k:=
  extern_ok (e:=(.aCas .i32)) (n:=3) rfl (fun args w=>run_callFunc_extern (e:=extM (.aCas .i32)) Go.Proofs.Tryz.func282 (by kernel_rfl) (by kernel_rfl) (by kernel_rfl) (by kernel_rfl) args w) hg
theorem x283{a:List AV}{h:H}{k:KV}(hg:cnd (Nat.beq (len a) 0) (k .undef h) False):SW Go.Proofs.Tryz.prog G (.func 283) a h k:=
  mark0_ok (run_call_mark0 Go.Proofs.Tryz.func283 (by kernel_rfl) (by kernel_rfl) (by kernel_rfl) .enable (by kernel_rfl)) hg
theorem x284{a:List AV}{h:H}{k:KV}(hg:asP (arg0 a) fun _ _=>cnd (Nat.beq (len a) 1) (k .undef h) False):SW Go.Proofs.Tryz.prog G (.func 284) a h k:=
  mark1_ok (run_call_marked Go.Proofs.Tryz.func284 (by kernel_rfl) (by kernel_rfl) (by kernel_rfl) .acquire (by kernel_rfl)) hg
theorem x286{a:List AV}{h:H}{k:KV}(hg:asP (arg0 a) fun _ _=>cnd (Nat.beq (len a) 1) (k .undef h) False):SW Go.Proofs.Tryz.prog G (.func 286) a h k:=
  mark1_ok (run_call_marked Go.Proofs.Tryz.func286 (by kernel_rfl) (by kernel_rfl) (by kernel_rfl) .releaseMerge (by kernel_rfl)) hg
theorem x287{a:List AV}{h:H}{k:KV}(hg:cnd (Nat.beq (len a) 2) (oK (extA (.aAdd .i32) a h) k) False):SW Go.Proofs.Tryz.prog G (.func 287) a h k:=
  extern_ok (e:=(.aAdd .i32)) (n:=2) rfl (fun args w=>run_callFunc_extern (e:=extM (.aAdd .i32)) Go.Proofs.Tryz.func287 (by kernel_rfl) (by kernel_rfl) (by kernel_rfl) (by kernel_rfl) args w) hg
theorem x397{a:List AV}{h:H}{k:KV}(hg:cnd (Nat.beq (len a) 2) (oK (extA .count a h) k) False):SW Go.Proofs.Tryz.prog G (.func 397) a h k:=
  extern_ok (e:=.count) (n:=2) rfl (fun args w=>run_callFunc_extern (e:=extM .count) Go.Proofs.Tryz.func397 (by kernel_rfl) (by kernel_rfl) (by kernel_rfl) (by kernel_rfl) args w) hg
theorem w201{c:Caller Prop FT}(hc:CallOk Go.Proofs.Tryz.prog (CP env) G (fun p=>p) c){k:KV}{m:Nat}{a:List AV}{h:H}(hg:onceP env c (oc 0).toList (takeL 3 (oc 1).toList) (oc 2).toList (takeL 3 (oc 3).toList) (oc 4).toList (.tmp 10) (.tmp 15) (.tmp 18) (fun a h k=>f232 (r232 c k m) 0 (finit a) h) (fun a h k=>f233 (r233 c k m) 0 (finit a) h) (finit a) h k):SW Go.Proofs.Tryz.prog G (.func 201) a h k:=
  once_ok (o0:=oc 0) (o1:=oc 1) (o2:=oc 2) (o3:=oc 3) (o4:=oc 4) (u1:=232) (u3:=233) (d1:=operAt (oc 1).toList 3) (d3:=operAt (oc 3).toList 3) (i0:=idOf (codeAt d201 (.l .root))) (i1:=idOf (codeAt d201 (.l (.r .root)))) (i2:=idOf (codeAt d201 (.l (.r (.r .root))))) (i3:=idOf (codeAt d201 (.l (.l (.r (.r (.r .root))))))) (i4:=idOf (codeAt d201 (.r (.l (.r (.r (.r .root))))))) (a1:=atsOf (operAt (oc 1).toList 3)) (a3:=atsOf (operAt (oc 3).toList 3)) envOk hc Go.Proofs.Tryz.func201 (by kernel_rfl) (by kernel_rfl) (by kernel_rfl) (by kernel_rfl) (by kernel_rfl) ⟨by kernel_rfl,by kernel_rfl,by kernel_rfl⟩ ⟨by kernel_rfl,by kernel_rfl,by kernel_rfl⟩
    (by kernel_rfl) (by kernel_rfl) (by kernel_rfl) (by kernel_rfl) (by kernel_rfl) (by kernel_rfl) (by kernel_rfl) (by kernel_rfl) (fun _ _ _ hx=>wd232 hc hx) (fun _ _ _ hx=>wd233 hc hx) hg
theorem disp_ok{c:Caller Prop FT}(hc:CallOk Go.Proofs.Tryz.prog (CP env) G (fun p=>p) c){m i:Nat}{a:List AV}{h:H}{k:KV}(hg:disp c m i a h k):SW Go.Proofs.Tryz.prog G (.func i) a h k:=
  (cndN
  (cndN
  (cndN
  (cndN
  (cndN
  (cndN
  (cndN
  (cndN
  (cndL (T:=fun q=>SW Go.Proofs.Tryz.prog G (.func q) a h k) (fun hx=>w3 hc hx))
  (cndL (T:=fun q=>SW Go.Proofs.Tryz.prog G (.func q) a h k) (fun hx=>w4 hc hx)))
  (cndN
  (cndL (T:=fun q=>SW Go.Proofs.Tryz.prog G (.func q) a h k) (fun hx=>w5 hc hx))
  (cndN
  (cndL (T:=fun q=>SW Go.Proofs.Tryz.prog G (.func q) a h k) (fun hx=>w6 hc hx))
  (cndL (T:=fun q=>SW Go.Proofs.Tryz.prog G (.func q) a h k) (fun hx=>w7 hc hx)))))
  (cndN
  (cndN
  (cndL (T:=fun q=>SW Go.Proofs.Tryz.prog G (.func q) a h k) (fun hx=>w8 hc hx))
  (cndL (T:=fun q=>SW Go.Proofs.Tryz.prog G (.func q) a h k) (fun hx=>w9 hc hx)))
  (cndN
  (cndL (T:=fun q=>SW Go.Proofs.Tryz.prog G (.func q) a h k) (fun hx=>w10 hc hx))
  (cndN
  (cndL (T:=fun q=>SW Go.Proofs.Tryz.prog G (.func q) a h k) (fun hx=>w11 hc hx))
  (cndL (T:=fun q=>SW Go.Proofs.Tryz.prog G (.func q) a h k) (fun hx=>w12 hc hx))))))
  (cndN
  (cndN
  (cndN
  (cndL (T:=fun q=>SW Go.Proofs.Tryz.prog G (.func q) a h k) (fun hx=>w13 hc hx))
  (cndL (T:=fun q=>SW Go.Proofs.Tryz.prog G (.func q) a h k) (fun hx=>w14 hc hx)))
  (cndN
  (cndL (T:=fun q=>SW Go.Proofs.Tryz.prog G (.func q) a h k) (fun hx=>w15 hc hx))
  (cndN
  (cndL (T:=fun q=>SW Go.Proofs.Tryz.prog G (.func q) a h k) (fun hx=>w16 hc hx))
  (cndL (T:=fun q=>SW Go.Proofs.Tryz.prog G (.func q) a h k) (fun hx=>w17 hc hx)))))
  (cndN
  (cndN
  (cndL (T:=fun q=>SW Go.Proofs.Tryz.prog G (.func q) a h k) (fun hx=>w18 hc hx))
  (cndN
  (cndL (T:=fun q=>SW Go.Proofs.Tryz.prog G (.func q) a h k) (fun hx=>w19 hc hx))
  (cndL (T:=fun q=>SW Go.Proofs.Tryz.prog G (.func q) a h k) (fun hx=>w20 hc hx))))
  (cndN
  (cndL (T:=fun q=>SW Go.Proofs.Tryz.prog G (.func q) a h k) (fun hx=>w21 hc hx))
  (cndN
  (cndL (T:=fun q=>SW Go.Proofs.Tryz.prog G (.func q) a h k) (fun hx=>w22 hc hx))
  (cndL (T:=fun q=>SW Go.Proofs.Tryz.prog G (.func q) a h k) (fun hx=>w23 hc hx)))))))
  (cndN
  (cndN
  (cndN
  (cndN
  (cndL (T:=fun q=>SW Go.Proofs.Tryz.prog G (.func q) a h k) (fun hx=>w24 hc hx))
  (cndL (T:=fun q=>SW Go.Proofs.Tryz.prog G (.func q) a h k) (fun hx=>w25 hc hx)))
  (cndN
  (cndL (T:=fun q=>SW Go.Proofs.Tryz.prog G (.func q) a h k) (fun hx=>w26 hc hx))
  (cndN
  (cndL (T:=fun q=>SW Go.Proofs.Tryz.prog G (.func q) a h k) (fun hx=>w27 hc hx))
  (cndL (T:=fun q=>SW Go.Proofs.Tryz.prog G (.func q) a h k) (fun hx=>w28 hc hx)))))
  (cndN
  (cndN
  (cndL (T:=fun q=>SW Go.Proofs.Tryz.prog G (.func q) a h k) (fun hx=>w29 hc hx))
  (cndN
  (cndL (T:=fun q=>SW Go.Proofs.Tryz.prog G (.func q) a h k) (fun hx=>w30 hc hx))
  (cndL (T:=fun q=>SW Go.Proofs.Tryz.prog G (.func q) a h k) (fun hx=>w31 hc hx))))
  (cndN
  (cndL (T:=fun q=>SW Go.Proofs.Tryz.prog G (.func q) a h k) (fun hx=>w32 hc hx))
  (cndN
  (cndL (T:=fun q=>SW Go.Proofs.Tryz.prog G (.func q) a h k) (fun hx=>w33 hc hx))
  (cndL (T:=fun q=>SW Go.Proofs.Tryz.prog G (.func q) a h k) (fun hx=>w34 hc hx))))))
  (cndN
  (cndN
  (cndN
  (cndL (T:=fun q=>SW Go.Proofs.Tryz.prog G (.func q) a h k) (fun hx=>w35 hc hx))
  (cndL (T:=fun q=>SW Go.Proofs.Tryz.prog G (.func q) a h k) (fun hx=>w36 hc hx)))
  (cndN
  (cndL (T:=fun q=>SW Go.Proofs.Tryz.prog G (.func q) a h k) (fun hx=>w37 hc hx))
  (cndN
  (cndL (T:=fun q=>SW Go.Proofs.Tryz.prog G (.func q) a h k) (fun hx=>w38 hc hx))
  (cndL (T:=fun q=>SW Go.Proofs.Tryz.prog G (.func q) a h k) (fun hx=>w39 hc hx)))))
  (cndN
  (cndN
  (cndL (T:=fun q=>SW Go.Proofs.Tryz.prog G (.func q) a h k) (fun hx=>w40 hc hx))
  (cndN
  (cndL (T:=fun q=>SW Go.Proofs.Tryz.prog G (.func q) a h k) (fun hx=>w41 hc hx))
  (cndL (T:=fun q=>SW Go.Proofs.Tryz.prog G (.func q) a h k) (fun hx=>w42 hc hx))))
  (cndN
  (cndL (T:=fun q=>SW Go.Proofs.Tryz.prog G (.func q) a h k) (fun hx=>w43 hc hx))
  (cndN
  (cndL (T:=fun q=>SW Go.Proofs.Tryz.prog G (.func q) a h k) (fun hx=>w44 hc hx))
  (cndL (T:=fun q=>SW Go.Proofs.Tryz.prog G (.func q) a h k) (fun hx=>w45 hc hx))))))))
  (cndN
  (cndN
  (cndN
  (cndN
  (cndN
  (cndL (T:=fun q=>SW Go.Proofs.Tryz.prog G (.func q) a h k) (fun hx=>w46 hc hx))
  (cndL (T:=fun q=>SW Go.Proofs.Tryz.prog G (.func q) a h k) (fun hx=>w47 hc hx)))
  (cndN
  (cndL (T:=fun q=>SW Go.Proofs.Tryz.prog G (.func q) a h k) (fun hx=>w48 hc hx))
  (cndN
  (cndL (T:=fun q=>SW Go.Proofs.Tryz.prog G (.func q) a h k) (fun hx=>w49 hc hx))
  (cndL (T:=fun q=>SW Go.Proofs.Tryz.prog G (.func q) a h k) (fun hx=>w50 hc hx)))))
  (cndN
  (cndN
  (cndL (T:=fun q=>SW Go.Proofs.Tryz.prog G (.func q) a h k) (fun hx=>w51 hc hx))
  (cndL (T:=fun q=>SW Go.Proofs.Tryz.prog G (.func q) a h k) (fun hx=>w52 hc hx)))
  (cndN
  (cndL (T:=fun q=>SW Go.Proofs.Tryz.prog G (.func q) a h k) (fun hx=>w53 hc hx))
  (cndN
  (cndL (T:=fun q=>SW Go.Proofs.Tryz.prog G (.func q) a h k) (fun hx=>w54 hc hx))
  (cndL (T:=fun q=>SW Go.Proofs.Tryz.prog G (.func q) a h k) (fun hx=>w55 hc hx))))))
  (cndN
  (cndN
  (cndN
  (cndL (T:=fun q=>SW Go.Proofs.Tryz.prog G (.func q) a h k) (fun hx=>w56 hc hx))
  (cndL (T:=fun q=>SW Go.Proofs.Tryz.prog G (.func q) a h k) (fun hx=>w57 hc hx)))
  (cndN
  (cndL (T:=fun q=>SW Go.Proofs.Tryz.prog G (.func q) a h k) (fun hx=>w58 hc hx))
  (cndN
  (cndL (T:=fun q=>SW Go.Proofs.Tryz.prog G (.func q) a h k) (fun hx=>w59 hc hx))
  (cndL (T:=fun q=>SW Go.Proofs.Tryz.prog G (.func q) a h k) (fun hx=>w60 hc hx)))))
  (cndN
  (cndN
  (cndL (T:=fun q=>SW Go.Proofs.Tryz.prog G (.func q) a h k) (fun hx=>w61 hc hx))
  (cndN
  (cndL (T:=fun q=>SW Go.Proofs.Tryz.prog G (.func q) a h k) (fun hx=>w62 hc hx))
  (cndL (T:=fun q=>SW Go.Proofs.Tryz.prog G (.func q) a h k) (fun hx=>w63 hc hx))))
  (cndN
  (cndL (T:=fun q=>SW Go.Proofs.Tryz.prog G (.func q) a h k) (fun hx=>w64 hc hx))
  (cndN
  (cndL (T:=fun q=>SW Go.Proofs.Tryz.prog G (.func q) a h k) (fun hx=>w65 hc hx))
  (cndL (T:=fun q=>SW Go.Proofs.Tryz.prog G (.func q) a h k) (fun hx=>w66 hc hx)))))))
  (cndN
  (cndN
  (cndN
  (cndN
  (cndL (T:=fun q=>SW Go.Proofs.Tryz.prog G (.func q) a h k) (fun hx=>w67 hc hx))
  (cndL (T:=fun q=>SW Go.Proofs.Tryz.prog G (.func q) a h k) (fun hx=>w68 hc hx)))
  (cndN
  (cndL (T:=fun q=>SW Go.Proofs.Tryz.prog G (.func q) a h k) (fun hx=>w69 hc hx))
  (cndN
  (cndL (T:=fun q=>SW Go.Proofs.Tryz.prog G (.func q) a h k) (fun hx=>w70 hc hx))
  (cndL (T:=fun q=>SW Go.Proofs.Tryz.prog G (.func q) a h k) (fun hx=>w71 hc hx)))))
  (cndN
  (cndN
  (cndL (T:=fun q=>SW Go.Proofs.Tryz.prog G (.func q) a h k) (fun hx=>w72 hc hx))
  (cndN
  (cndL (T:=fun q=>SW Go.Proofs.Tryz.prog G (.func q) a h k) (fun hx=>w73 hc hx))
  (cndL (T:=fun q=>SW Go.Proofs.Tryz.prog G (.func q) a h k) (fun hx=>w74 hc hx))))
  (cndN
  (cndL (T:=fun q=>SW Go.Proofs.Tryz.prog G (.func q) a h k) (fun hx=>w75 hc hx))
  (cndN
  (cndL (T:=fun q=>SW Go.Proofs.Tryz.prog G (.func q) a h k) (fun hx=>w76 hc hx))
  (cndL (T:=fun q=>SW Go.Proofs.Tryz.prog G (.func q) a h k) (fun hx=>w77 hc hx))))))
  (cndN
  (cndN
  (cndN
  (cndL (T:=fun q=>SW Go.Proofs.Tryz.prog G (.func q) a h k) (fun hx=>w78 hc hx))
  (cndL (T:=fun q=>SW Go.Proofs.Tryz.prog G (.func q) a h k) (fun hx=>w79 hc hx)))
  (cndN
  (cndL (T:=fun q=>SW Go.Proofs.Tryz.prog G (.func q) a h k) (fun hx=>w80 hc hx))
  (cndN
  (cndL (T:=fun q=>SW Go.Proofs.Tryz.prog G (.func q) a h k) (fun hx=>w81 hc hx))
  (cndL (T:=fun q=>SW Go.Proofs.Tryz.prog G (.func q) a h k) (fun hx=>w82 hc hx)))))
  (cndN
  (cndN
  (cndL (T:=fun q=>SW Go.Proofs.Tryz.prog G (.func q) a h k) (fun hx=>w83 hc hx))
  (cndN
  (cndL (T:=fun q=>SW Go.Proofs.Tryz.prog G (.func q) a h k) (fun hx=>w84 hc hx))
  (cndL (T:=fun q=>SW Go.Proofs.Tryz.prog G (.func q) a h k) (fun hx=>w85 hc hx))))
  (cndN
  (cndL (T:=fun q=>SW Go.Proofs.Tryz.prog G (.func q) a h k) (fun hx=>w86 hc hx))
  (cndN
  (cndL (T:=fun q=>SW Go.Proofs.Tryz.prog G (.func q) a h k) (fun hx=>w87 hc hx))
  (cndL (T:=fun q=>SW Go.Proofs.Tryz.prog G (.func q) a h k) (fun hx=>x88 hx)))))))))
  (cndN
  (cndN
  (cndN
  (cndN
  (cndN
  (cndN
  (cndL (T:=fun q=>SW Go.Proofs.Tryz.prog G (.func q) a h k) (fun hx=>w89 hc hx))
  (cndL (T:=fun q=>SW Go.Proofs.Tryz.prog G (.func q) a h k) (fun hx=>w90 hc hx)))
  (cndN
  (cndL (T:=fun q=>SW Go.Proofs.Tryz.prog G (.func q) a h k) (fun hx=>w91 hc hx))
  (cndN
  (cndL (T:=fun q=>SW Go.Proofs.Tryz.prog G (.func q) a h k) (fun hx=>w92 hc hx))
  (cndL (T:=fun q=>SW Go.Proofs.Tryz.prog G (.func q) a h k) (fun hx=>w93 hc hx)))))
  (cndN
  (cndN
  (cndL (T:=fun q=>SW Go.Proofs.Tryz.prog G (.func q) a h k) (fun hx=>w94 hc hx))
  (cndL (T:=fun q=>SW Go.Proofs.Tryz.prog G (.func q) a h k) (fun hx=>w95 hc hx)))
  (cndN
  (cndL (T:=fun q=>SW Go.Proofs.Tryz.prog G (.func q) a h k) (fun hx=>w96 hc hx))
  (cndN
  (cndL (T:=fun q=>SW Go.Proofs.Tryz.prog G (.func q) a h k) (fun hx=>w97 hc hx))
  (cndL (T:=fun q=>SW Go.Proofs.Tryz.prog G (.func q) a h k) (fun hx=>w98 hc hx))))))
  (cndN
  (cndN
  (cndN
  (cndL (T:=fun q=>SW Go.Proofs.Tryz.prog G (.func q) a h k) (fun hx=>w99 hc hx))
  (cndL (T:=fun q=>SW Go.Proofs.Tryz.prog G (.func q) a h k) (fun hx=>w100 hc hx)))
  (cndN
  (cndL (T:=fun q=>SW Go.Proofs.Tryz.prog G (.func q) a h k) (fun hx=>w101 hc hx))
  (cndN
  (cndL (T:=fun q=>SW Go.Proofs.Tryz.prog G (.func q) a h k) (fun hx=>w102 hc hx))
  (cndL (T:=fun q=>SW Go.Proofs.Tryz.prog G (.func q) a h k) (fun hx=>w103 hc hx)))))
  (cndN
  (cndN
  (cndL (T:=fun q=>SW Go.Proofs.Tryz.prog G (.func q) a h k) (fun hx=>w104 hc hx))
  (cndN
  (cndL (T:=fun q=>SW Go.Proofs.Tryz.prog G (.func q) a h k) (fun hx=>w105 hc hx))
  (cndL (T:=fun q=>SW Go.Proofs.Tryz.prog G (.func q) a h k) (fun hx=>w106 hc hx))))
  (cndN
  (cndL (T:=fun q=>SW Go.Proofs.Tryz.prog G (.func q) a h k) (fun hx=>w107 hc hx))
  (cndN
  (cndL (T:=fun q=>SW Go.Proofs.Tryz.prog G (.func q) a h k) (fun hx=>w108 hc hx))
  (cndL (T:=fun q=>SW Go.Proofs.Tryz.prog G (.func q) a h k) (fun hx=>x109 hx)))))))
  (cndN
  (cndN
  (cndN
  (cndN
  (cndL (T:=fun q=>SW Go.Proofs.Tryz.prog G (.func q) a h k) (fun hx=>w110 hc hx))
  (cndL (T:=fun q=>SW Go.Proofs.Tryz.prog G (.func q) a h k) (fun hx=>w111 hc hx)))
  (cndN
  (cndL (T:=fun q=>SW Go.Proofs.Tryz.prog G (.func q) a h k) (fun hx=>x112 hx))
  (cndN
  (cndL (T:=fun q=>SW Go.Proofs.Tryz.prog G (.func q) a h k) (fun hx=>w113 hc hx))
  (cndL (T:=fun q=>SW Go.Proofs.Tryz.prog G (.func q) a h k) (fun hx=>w114 hc hx)))))
  (cndN
  (cndN
  (cndL (T:=fun q=>SW Go.Proofs.Tryz.prog G (.func q) a h k) (fun hx=>w115 hc hx))
  (cndN
  (cndL (T:=fun q=>SW Go.Proofs.Tryz.prog G (.func q) a h k) (fun hx=>w116 hc hx))
  (cndL (T:=fun q=>SW Go.Proofs.Tryz.prog G (.func q) a h k) (fun hx=>w117 hc hx))))
  (cndN
  (cndL (T:=fun q=>SW Go.Proofs.Tryz.prog G (.func q) a h k) (fun hx=>w118 hc hx))
  (cndN
  (cndL (T:=fun q=>SW Go.Proofs.Tryz.prog G (.func q) a h k) (fun hx=>w120 hc hx))
  (cndL (T:=fun q=>SW Go.Proofs.Tryz.prog G (.func q) a h k) (fun hx=>w121 hc hx))))))
  (cndN
  (cndN
  (cndN
  (cndL (T:=fun q=>SW Go.Proofs.Tryz.prog G (.func q) a h k) (fun hx=>w122 hc hx))
  (cndL (T:=fun q=>SW Go.Proofs.Tryz.prog G (.func q) a h k) (fun hx=>w123 hc hx)))
  (cndN
  (cndL (T:=fun q=>SW Go.Proofs.Tryz.prog G (.func q) a h k) (fun hx=>w124 hc hx))
  (cndN
  (cndL (T:=fun q=>SW Go.Proofs.Tryz.prog G (.func q) a h k) (fun hx=>w125 hc hx))
  (cndL (T:=fun q=>SW Go.Proofs.Tryz.prog G (.func q) a h k) (fun hx=>w126 hc hx)))))
  (cndN
  (cndN
  (cndL (T:=fun q=>SW Go.Proofs.Tryz.prog G (.func q) a h k) (fun hx=>w127 hc hx))
  (cndN
  (cndL (T:=fun q=>SW Go.Proofs.Tryz.prog G (.func q) a h k) (fun hx=>w128 hc hx))
  (cndL (T:=fun q=>SW Go.Proofs.Tryz.prog G (.func q) a h k) (fun hx=>w129 hc hx))))
  (cndN
  (cndL (T:=fun q=>SW Go.Proofs.Tryz.prog G (.func q) a h k) (fun hx=>w130 hc hx))
  (cndN
  (cndL (T:=fun q=>SW Go.Proofs.Tryz.prog G (.func q) a h k) (fun hx=>w131 hc hx))
  (cndL (T:=fun q=>SW Go.Proofs.Tryz.prog G (.func q) a h k) (fun hx=>w132 hc hx))))))))
  (cndN
  (cndN
  (cndN
  (cndN
  (cndN
  (cndL (T:=fun q=>SW Go.Proofs.Tryz.prog G (.func q) a h k) (fun hx=>w133 hc hx))
  (cndL (T:=fun q=>SW Go.Proofs.Tryz.prog G (.func q) a h k) (fun hx=>w134 hc hx)))
  (cndN
  (cndL (T:=fun q=>SW Go.Proofs.Tryz.prog G (.func q) a h k) (fun hx=>w135 hc hx))
  (cndN
  (cndL (T:=fun q=>SW Go.Proofs.Tryz.prog G (.func q) a h k) (fun hx=>w136 hc hx))
  (cndL (T:=fun q=>SW Go.Proofs.Tryz.prog G (.func q) a h k) (fun hx=>w137 hc hx)))))
  (cndN
  (cndN
  (cndL (T:=fun q=>SW Go.Proofs.Tryz.prog G (.func q) a h k) (fun hx=>w138 hc hx))
  (cndL (T:=fun q=>SW Go.Proofs.Tryz.prog G (.func q) a h k) (fun hx=>w139 hc hx)))
  (cndN
  (cndL (T:=fun q=>SW Go.Proofs.Tryz.prog G (.func q) a h k) (fun hx=>w140 hc hx))
  (cndN
  (cndL (T:=fun q=>SW Go.Proofs.Tryz.prog G (.func q) a h k) (fun hx=>w141 hc hx))
  (cndL (T:=fun q=>SW Go.Proofs.Tryz.prog G (.func q) a h k) (fun hx=>w142 hc hx))))))
  (cndN
  (cndN
  (cndN
  (cndL (T:=fun q=>SW Go.Proofs.Tryz.prog G (.func q) a h k) (fun hx=>w143 hc hx))
  (cndL (T:=fun q=>SW Go.Proofs.Tryz.prog G (.func q) a h k) (fun hx=>w144 hc hx)))
  (cndN
  (cndL (T:=fun q=>SW Go.Proofs.Tryz.prog G (.func q) a h k) (fun hx=>w145 hc hx))
  (cndN
  (cndL (T:=fun q=>SW Go.Proofs.Tryz.prog G (.func q) a h k) (fun hx=>w146 hc hx))
  (cndL (T:=fun q=>SW Go.Proofs.Tryz.prog G (.func q) a h k) (fun hx=>w147 hc hx)))))
  (cndN
  (cndN
  (cndL (T:=fun q=>SW Go.Proofs.Tryz.prog G (.func q) a h k) (fun hx=>w148 hc hx))
  (cndN
  (cndL (T:=fun q=>SW Go.Proofs.Tryz.prog G (.func q) a h k) (fun hx=>w149 hc hx))
  (cndL (T:=fun q=>SW Go.Proofs.Tryz.prog G (.func q) a h k) (fun hx=>w150 hc hx))))
  (cndN
  (cndL (T:=fun q=>SW Go.Proofs.Tryz.prog G (.func q) a h k) (fun hx=>w151 hc hx))
  (cndN
  (cndL (T:=fun q=>SW Go.Proofs.Tryz.prog G (.func q) a h k) (fun hx=>w152 hc hx))
  (cndL (T:=fun q=>SW Go.Proofs.Tryz.prog G (.func q) a h k) (fun hx=>w153 hc hx)))))))
  (cndN
  (cndN
  (cndN
  (cndN
  (cndL (T:=fun q=>SW Go.Proofs.Tryz.prog G (.func q) a h k) (fun hx=>w154 hc hx))
  (cndL (T:=fun q=>SW Go.Proofs.Tryz.prog G (.func q) a h k) (fun hx=>w155 hc hx)))
  (cndN
  (cndL (T:=fun q=>SW Go.Proofs.Tryz.prog G (.func q) a h k) (fun hx=>w156 hc hx))
  (cndN
  (cndL (T:=fun q=>SW Go.Proofs.Tryz.prog G (.func q) a h k) (fun hx=>w157 hc hx))
  (cndL (T:=fun q=>SW Go.Proofs.Tryz.prog G (.func q) a h k) (fun hx=>w158 hc hx)))))
  (cndN
  (cndN
  (cndL (T:=fun q=>SW Go.Proofs.Tryz.prog G (.func q) a h k) (fun hx=>w159 hc hx))
  (cndN
  (cndL (T:=fun q=>SW Go.Proofs.Tryz.prog G (.func q) a h k) (fun hx=>w160 hc hx))
  (cndL (T:=fun q=>SW Go.Proofs.Tryz.prog G (.func q) a h k) (fun hx=>w161 hc hx))))
  (cndN
  (cndL (T:=fun q=>SW Go.Proofs.Tryz.prog G (.func q) a h k) (fun hx=>w162 hc hx))
  (cndN
  (cndL (T:=fun q=>SW Go.Proofs.Tryz.prog G (.func q) a h k) (fun hx=>w163 hc hx))
  (cndL (T:=fun q=>SW Go.Proofs.Tryz.prog G (.func q) a h k) (fun hx=>w164 hc hx))))))
  (cndN
  (cndN
  (cndN
  (cndL (T:=fun q=>SW Go.Proofs.Tryz.prog G (.func q) a h k) (fun hx=>w165 hc hx))
  (cndL (T:=fun q=>SW Go.Proofs.Tryz.prog G (.func q) a h k) (fun hx=>w166 hc hx)))
  (cndN
  (cndL (T:=fun q=>SW Go.Proofs.Tryz.prog G (.func q) a h k) (fun hx=>w167 hc hx))
  (cndN
  (cndL (T:=fun q=>SW Go.Proofs.Tryz.prog G (.func q) a h k) (fun hx=>w169 hc hx))
  (cndL (T:=fun q=>SW Go.Proofs.Tryz.prog G (.func q) a h k) (fun hx=>w170 hc hx)))))
  (cndN
  (cndN
  (cndL (T:=fun q=>SW Go.Proofs.Tryz.prog G (.func q) a h k) (fun hx=>w171 hc hx))
  (cndN
  (cndL (T:=fun q=>SW Go.Proofs.Tryz.prog G (.func q) a h k) (fun hx=>w172 hc hx))
  (cndL (T:=fun q=>SW Go.Proofs.Tryz.prog G (.func q) a h k) (fun hx=>w173 hc hx))))
  (cndN
  (cndL (T:=fun q=>SW Go.Proofs.Tryz.prog G (.func q) a h k) (fun hx=>w174 hc hx))
  (cndN
  (cndL (T:=fun q=>SW Go.Proofs.Tryz.prog G (.func q) a h k) (fun hx=>w175 hc hx))
  (cndL (T:=fun q=>SW Go.Proofs.Tryz.prog G (.func q) a h k) (fun hx=>w176 hc hx))))))))))
  (cndN
  (cndN
  (cndN
  (cndN
  (cndN
  (cndN
  (cndN
  (cndL (T:=fun q=>SW Go.Proofs.Tryz.prog G (.func q) a h k) (fun hx=>w177 hc hx))
  (cndL (T:=fun q=>SW Go.Proofs.Tryz.prog G (.func q) a h k) (fun hx=>w178 hc hx)))
  (cndN
  (cndL (T:=fun q=>SW Go.Proofs.Tryz.prog G (.func q) a h k) (fun hx=>w179 hc hx))
  (cndN
  (cndL (T:=fun q=>SW Go.Proofs.Tryz.prog G (.func q) a h k) (fun hx=>w180 hc hx))
  (cndL (T:=fun q=>SW Go.Proofs.Tryz.prog G (.func q) a h k) (fun hx=>w181 hc hx)))))
  (cndN
  (cndN
  (cndL (T:=fun q=>SW Go.Proofs.Tryz.prog G (.func q) a h k) (fun hx=>w182 hc hx))
  (cndL (T:=fun q=>SW Go.Proofs.Tryz.prog G (.func q) a h k) (fun hx=>w183 hc hx)))
  (cndN
  (cndL (T:=fun q=>SW Go.Proofs.Tryz.prog G (.func q) a h k) (fun hx=>w185 hc hx))
  (cndN
  (cndL (T:=fun q=>SW Go.Proofs.Tryz.prog G (.func q) a h k) (fun hx=>w186 hc hx))
  (cndL (T:=fun q=>SW Go.Proofs.Tryz.prog G (.func q) a h k) (fun hx=>w187 hc hx))))))
  (cndN
  (cndN
  (cndN
  (cndL (T:=fun q=>SW Go.Proofs.Tryz.prog G (.func q) a h k) (fun hx=>w188 hc hx))
  (cndL (T:=fun q=>SW Go.Proofs.Tryz.prog G (.func q) a h k) (fun hx=>w189 hc hx)))
  (cndN
  (cndL (T:=fun q=>SW Go.Proofs.Tryz.prog G (.func q) a h k) (fun hx=>w190 hc hx))
  (cndN
  (cndL (T:=fun q=>SW Go.Proofs.Tryz.prog G (.func q) a h k) (fun hx=>w191 hc hx))
  (cndL (T:=fun q=>SW Go.Proofs.Tryz.prog G (.func q) a h k) (fun hx=>w192 hc hx)))))
  (cndN
  (cndN
  (cndL (T:=fun q=>SW Go.Proofs.Tryz.prog G (.func q) a h k) (fun hx=>w193 hc hx))
  (cndN
  (cndL (T:=fun q=>SW Go.Proofs.Tryz.prog G (.func q) a h k) (fun hx=>w194 hc hx))
  (cndL (T:=fun q=>SW Go.Proofs.Tryz.prog G (.func q) a h k) (fun hx=>w195 hc hx))))
  (cndN
  (cndL (T:=fun q=>SW Go.Proofs.Tryz.prog G (.func q) a h k) (fun hx=>w196 hc hx))
  (cndN
  (cndL (T:=fun q=>SW Go.Proofs.Tryz.prog G (.func q) a h k) (fun hx=>w198 hc hx))
  (cndL (T:=fun q=>SW Go.Proofs.Tryz.prog G (.func q) a h k) (fun hx=>w199 hc hx)))))))
  (cndN
  (cndN
  (cndN
  (cndN
  (cndL (T:=fun q=>SW Go.Proofs.Tryz.prog G (.func q) a h k) (fun hx=>w200 hc hx))
  (cndL (T:=fun q=>SW Go.Proofs.Tryz.prog G (.func q) a h k) (fun hx=>w201 hc hx)))
  (cndN
  (cndL (T:=fun q=>SW Go.Proofs.Tryz.prog G (.func q) a h k) (fun hx=>w202 hc hx))
  (cndN
  (cndL (T:=fun q=>SW Go.Proofs.Tryz.prog G (.func q) a h k) (fun hx=>w203 hc hx))
  (cndL (T:=fun q=>SW Go.Proofs.Tryz.prog G (.func q) a h k) (fun hx=>w204 hc hx)))))
  (cndN
  (cndN
  (cndL (T:=fun q=>SW Go.Proofs.Tryz.prog G (.func q) a h k) (fun hx=>w205 hc hx))
  (cndN
  (cndL (T:=fun q=>SW Go.Proofs.Tryz.prog G (.func q) a h k) (fun hx=>w206 hc hx))
  (cndL (T:=fun q=>SW Go.Proofs.Tryz.prog G (.func q) a h k) (fun hx=>w207 hc hx))))
  (cndN
  (cndL (T:=fun q=>SW Go.Proofs.Tryz.prog G (.func q) a h k) (fun hx=>w208 hc hx))
  (cndN
  (cndL (T:=fun q=>SW Go.Proofs.Tryz.prog G (.func q) a h k) (fun hx=>w209 hc hx))
  (cndL (T:=fun q=>SW Go.Proofs.Tryz.prog G (.func q) a h k) (fun hx=>w210 hc hx))))))
  (cndN
  (cndN
  (cndN
  (cndL (T:=fun q=>SW Go.Proofs.Tryz.prog G (.func q) a h k) (fun hx=>w211 hc hx))
  (cndL (T:=fun q=>SW Go.Proofs.Tryz.prog G (.func q) a h k) (fun hx=>w212 hc hx)))
  (cndN
  (cndL (T:=fun q=>SW Go.Proofs.Tryz.prog G (.func q) a h k) (fun hx=>w213 hc hx))
  (cndN
  (cndL (T:=fun q=>SW Go.Proofs.Tryz.prog G (.func q) a h k) (fun hx=>w214 hc hx))
  (cndL (T:=fun q=>SW Go.Proofs.Tryz.prog G (.func q) a h k) (fun hx=>w215 hc hx)))))
  (cndN
  (cndN
  (cndL (T:=fun q=>SW Go.Proofs.Tryz.prog G (.func q) a h k) (fun hx=>w216 hc hx))
  (cndN
  (cndL (T:=fun q=>SW Go.Proofs.Tryz.prog G (.func q) a h k) (fun hx=>w217 hc hx))
  (cndL (T:=fun q=>SW Go.Proofs.Tryz.prog G (.func q) a h k) (fun hx=>w218 hc hx))))
  (cndN
  (cndL (T:=fun q=>SW Go.Proofs.Tryz.prog G (.func q) a h k) (fun hx=>w219 hc hx))
  (cndN
  (cndL (T:=fun q=>SW Go.Proofs.Tryz.prog G (.func q) a h k) (fun hx=>w220 hc hx))
  (cndL (T:=fun q=>SW Go.Proofs.Tryz.prog G (.func q) a h k) (fun hx=>w221 hc hx))))))))
  (cndN
  (cndN
  (cndN
  (cndN
  (cndN
  (cndL (T:=fun q=>SW Go.Proofs.Tryz.prog G (.func q) a h k) (fun hx=>w222 hc hx))
  (cndL (T:=fun q=>SW Go.Proofs.Tryz.prog G (.func q) a h k) (fun hx=>w223 hc hx)))
  (cndN
  (cndL (T:=fun q=>SW Go.Proofs.Tryz.prog G (.func q) a h k) (fun hx=>w224 hc hx))
  (cndN
  (cndL (T:=fun q=>SW Go.Proofs.Tryz.prog G (.func q) a h k) (fun hx=>w225 hc hx))
  (cndL (T:=fun q=>SW Go.Proofs.Tryz.prog G (.func q) a h k) (fun hx=>w226 hc hx)))))
  (cndN
  (cndN
  (cndL (T:=fun q=>SW Go.Proofs.Tryz.prog G (.func q) a h k) (fun hx=>w227 hc hx))
  (cndL (T:=fun q=>SW Go.Proofs.Tryz.prog G (.func q) a h k) (fun hx=>x228 hx)))
  (cndN
  (cndL (T:=fun q=>SW Go.Proofs.Tryz.prog G (.func q) a h k) (fun hx=>w229 hc hx))
  (cndN
  (cndL (T:=fun q=>SW Go.Proofs.Tryz.prog G (.func q) a h k) (fun hx=>x230 hx))
  (cndL (T:=fun q=>SW Go.Proofs.Tryz.prog G (.func q) a h k) (fun hx=>w231 hc hx))))))
  (cndN
  (cndN
  (cndN
  (cndL (T:=fun q=>SW Go.Proofs.Tryz.prog G (.func q) a h k) (fun hx=>w232 hc hx))
  (cndL (T:=fun q=>SW Go.Proofs.Tryz.prog G (.func q) a h k) (fun hx=>w233 hc hx)))
  (cndN
  (cndL (T:=fun q=>SW Go.Proofs.Tryz.prog G (.func q) a h k) (fun hx=>w234 hc hx))
  (cndN
  (cndL (T:=fun q=>SW Go.Proofs.Tryz.prog G (.func q) a h k) (fun hx=>w235 hc hx))
  (cndL (T:=fun q=>SW Go.Proofs.Tryz.prog G (.func q) a h k) (fun hx=>w236 hc hx)))))
  (cndN
  (cndN
  (cndL (T:=fun q=>SW Go.Proofs.Tryz.prog G (.func q) a h k) (fun hx=>w237 hc hx))
  (cndN
  (cndL (T:=fun q=>SW Go.Proofs.Tryz.prog G (.func q) a h k) (fun hx=>w238 hc hx))
  (cndL (T:=fun q=>SW Go.Proofs.Tryz.prog G (.func q) a h k) (fun hx=>w239 hc hx))))
  (cndN
  (cndL (T:=fun q=>SW Go.Proofs.Tryz.prog G (.func q) a h k) (fun hx=>w240 hc hx))
  (cndN
  (cndL (T:=fun q=>SW Go.Proofs.Tryz.prog G (.func q) a h k) (fun hx=>w241 hc hx))
  (cndL (T:=fun q=>SW Go.Proofs.Tryz.prog G (.func q) a h k) (fun hx=>w242 hc hx)))))))
  (cndN
  (cndN
  (cndN
  (cndN
  (cndL (T:=fun q=>SW Go.Proofs.Tryz.prog G (.func q) a h k) (fun hx=>w243 hc hx))
  (cndL (T:=fun q=>SW Go.Proofs.Tryz.prog G (.func q) a h k) (fun hx=>w244 hc hx)))
  (cndN
  (cndL (T:=fun q=>SW Go.Proofs.Tryz.prog G (.func q) a h k) (fun hx=>w245 hc hx))
  (cndN
  (cndL (T:=fun q=>SW Go.Proofs.Tryz.prog G (.func q) a h k) (fun hx=>w246 hc hx))
  (cndL (T:=fun q=>SW Go.Proofs.Tryz.prog G (.func q) a h k) (fun hx=>w247 hc hx)))))
  (cndN
  (cndN
  (cndL (T:=fun q=>SW Go.Proofs.Tryz.prog G (.func q) a h k) (fun hx=>x248 hx))
  (cndN
  (cndL (T:=fun q=>SW Go.Proofs.Tryz.prog G (.func q) a h k) (fun hx=>x249 hx))
  (cndL (T:=fun q=>SW Go.Proofs.Tryz.prog G (.func q) a h k) (fun hx=>w250 hc hx))))
  (cndN
  (cndL (T:=fun q=>SW Go.Proofs.Tryz.prog G (.func q) a h k) (fun hx=>w251 hc hx))
  (cndN
  (cndL (T:=fun q=>SW Go.Proofs.Tryz.prog G (.func q) a h k) (fun hx=>w252 hc hx))
  (cndL (T:=fun q=>SW Go.Proofs.Tryz.prog G (.func q) a h k) (fun hx=>w253 hc hx))))))
  (cndN
  (cndN
  (cndN
  (cndL (T:=fun q=>SW Go.Proofs.Tryz.prog G (.func q) a h k) (fun hx=>w255 hc hx))
  (cndL (T:=fun q=>SW Go.Proofs.Tryz.prog G (.func q) a h k) (fun hx=>w256 hc hx)))
  (cndN
  (cndL (T:=fun q=>SW Go.Proofs.Tryz.prog G (.func q) a h k) (fun hx=>w257 hc hx))
  (cndN
  (cndL (T:=fun q=>SW Go.Proofs.Tryz.prog G (.func q) a h k) (fun hx=>w258 hc hx))
  (cndL (T:=fun q=>SW Go.Proofs.Tryz.prog G (.func q) a h k) (fun hx=>x259 hx)))))
  (cndN
  (cndN
  (cndL (T:=fun q=>SW Go.Proofs.Tryz.prog G (.func q) a h k) (fun hx=>w260 hc hx))
  (cndN
  (cndL (T:=fun q=>SW Go.Proofs.Tryz.prog G (.func q) a h k) (fun hx=>w261 hc hx))
  (cndL (T:=fun q=>SW Go.Proofs.Tryz.prog G (.func q) a h k) (fun hx=>w262 hc hx))))
  (cndN
  (cndL (T:=fun q=>SW Go.Proofs.Tryz.prog G (.func q) a h k) (fun hx=>w263 hc hx))
  (cndN
  (cndL (T:=fun q=>SW Go.Proofs.Tryz.prog G (.func q) a h k) (fun hx=>w264 hc hx))
  (cndL (T:=fun q=>SW Go.Proofs.Tryz.prog G (.func q) a h k) (fun hx=>w266 hc hx)))))))))
  (cndN
  (cndN
  (cndN
  (cndN
  (cndN
  (cndN
  (cndL (T:=fun q=>SW Go.Proofs.Tryz.prog G (.func q) a h k) (fun hx=>w267 hc hx))
  (cndL (T:=fun q=>SW Go.Proofs.Tryz.prog G (.func q) a h k) (fun hx=>w268 hc hx)))
  (cndN
  (cndL (T:=fun q=>SW Go.Proofs.Tryz.prog G (.func q) a h k) (fun hx=>w269 hc hx))
  (cndN
  (cndL (T:=fun q=>SW Go.Proofs.Tryz.prog G (.func q) a h k) (fun hx=>w270 hc hx))
  (cndL (T:=fun q=>SW Go.Proofs.Tryz.prog G (.func q) a h k) (fun hx=>w271 hc hx)))))
  (cndN
  (cndN
  (cndL (T:=fun q=>SW Go.Proofs.Tryz.prog G (.func q) a h k) (fun hx=>w272 hc hx))
  (cndL (T:=fun q=>SW Go.Proofs.Tryz.prog G (.func q) a h k) (fun hx=>w273 hc hx)))
  (cndN
  (cndL (T:=fun q=>SW Go.Proofs.Tryz.prog G (.func q) a h k) (fun hx=>w274 hc hx))
  (cndN
  (cndL (T:=fun q=>SW Go.Proofs.Tryz.prog G (.func q) a h k) (fun hx=>w275 hc hx))
  (cndL (T:=fun q=>SW Go.Proofs.Tryz.prog G (.func q) a h k) (fun hx=>w276 hc hx))))))
  (cndN
  (cndN
  (cndN
  (cndL (T:=fun q=>SW Go.Proofs.Tryz.prog G (.func q) a h k) (fun hx=>w277 hc hx))
  (cndL (T:=fun q=>SW Go.Proofs.Tryz.prog G (.func q) a h k) (fun hx=>w278 hc hx)))
  (cndN
  (cndL (T:=fun q=>SW Go.Proofs.Tryz.prog G (.func q) a h k) (fun hx=>w279 hc hx))
  (cndN
  (cndL (T:=fun q=>SW Go.Proofs.Tryz.prog G (.func q) a h k) (fun hx=>x281 hx))
  (cndL (T:=fun q=>SW Go.Proofs.Tryz.prog G (.func q) a h k) (fun hx=>x282 hx)))))
  (cndN
  (cndN
  (cndL (T:=fun q=>SW Go.Proofs.Tryz.prog G (.func q) a h k) (fun hx=>x283 hx))
  (cndN
  (cndL (T:=fun q=>SW Go.Proofs.Tryz.prog G (.func q) a h k) (fun hx=>x284 hx))
  (cndL (T:=fun q=>SW Go.Proofs.Tryz.prog G (.func q) a h k) (fun hx=>w285 hc hx))))
  (cndN
  (cndL (T:=fun q=>SW Go.Proofs.Tryz.prog G (.func q) a h k) (fun hx=>x286 hx))
  (cndN
  (cndL (T:=fun q=>SW Go.Proofs.Tryz.prog G (.func q) a h k) (fun hx=>x287 hx))
  (cndL (T:=fun q=>SW Go.Proofs.Tryz.prog G (.func q) a h k) (fun hx=>w288 hc hx)))))))
  (cndN
  (cndN
  (cndN
  (cndN
  (cndL (T:=fun q=>SW Go.Proofs.Tryz.prog G (.func q) a h k) (fun hx=>w289 hc hx))
  (cndL (T:=fun q=>SW Go.Proofs.Tryz.prog G (.func q) a h k) (fun hx=>w290 hc hx)))
  (cndN
  (cndL (T:=fun q=>SW Go.Proofs.Tryz.prog G (.func q) a h k) (fun hx=>w291 hc hx))
  (cndN
  (cndL (T:=fun q=>SW Go.Proofs.Tryz.prog G (.func q) a h k) (fun hx=>w292 hc hx))
  (cndL (T:=fun q=>SW Go.Proofs.Tryz.prog G (.func q) a h k) (fun hx=>w293 hc hx)))))
  (cndN
  (cndN
  (cndL (T:=fun q=>SW Go.Proofs.Tryz.prog G (.func q) a h k) (fun hx=>w294 hc hx))
  (cndN
  (cndL (T:=fun q=>SW Go.Proofs.Tryz.prog G (.func q) a h k) (fun hx=>w295 hc hx))
  (cndL (T:=fun q=>SW Go.Proofs.Tryz.prog G (.func q) a h k) (fun hx=>w296 hc hx))))
  (cndN
  (cndL (T:=fun q=>SW Go.Proofs.Tryz.prog G (.func q) a h k) (fun hx=>w297 hc hx))
  (cndN
  (cndL (T:=fun q=>SW Go.Proofs.Tryz.prog G (.func q) a h k) (fun hx=>w298 hc hx))
  (cndL (T:=fun q=>SW Go.Proofs.Tryz.prog G (.func q) a h k) (fun hx=>w299 hc hx))))))
  (cndN
  (cndN
  (cndN
  (cndL (T:=fun q=>SW Go.Proofs.Tryz.prog G (.func q) a h k) (fun hx=>w300 hc hx))
  (cndL (T:=fun q=>SW Go.Proofs.Tryz.prog G (.func q) a h k) (fun hx=>w301 hc hx)))
  (cndN
  (cndL (T:=fun q=>SW Go.Proofs.Tryz.prog G (.func q) a h k) (fun hx=>w302 hc hx))
  (cndN
  (cndL (T:=fun q=>SW Go.Proofs.Tryz.prog G (.func q) a h k) (fun hx=>w303 hc hx))
  (cndL (T:=fun q=>SW Go.Proofs.Tryz.prog G (.func q) a h k) (fun hx=>w304 hc hx)))))
  (cndN
  (cndN
  (cndL (T:=fun q=>SW Go.Proofs.Tryz.prog G (.func q) a h k) (fun hx=>w305 hc hx))
  (cndN
  (cndL (T:=fun q=>SW Go.Proofs.Tryz.prog G (.func q) a h k) (fun hx=>w306 hc hx))
  (cndL (T:=fun q=>SW Go.Proofs.Tryz.prog G (.func q) a h k) (fun hx=>w307 hc hx))))
  (cndN
  (cndL (T:=fun q=>SW Go.Proofs.Tryz.prog G (.func q) a h k) (fun hx=>w308 hc hx))
  (cndN
  (cndL (T:=fun q=>SW Go.Proofs.Tryz.prog G (.func q) a h k) (fun hx=>w309 hc hx))
  (cndL (T:=fun q=>SW Go.Proofs.Tryz.prog G (.func q) a h k) (fun hx=>w310 hc hx))))))))
  (cndN
  (cndN
  (cndN
  (cndN
  (cndN
  (cndL (T:=fun q=>SW Go.Proofs.Tryz.prog G (.func q) a h k) (fun hx=>w311 hc hx))
  (cndL (T:=fun q=>SW Go.Proofs.Tryz.prog G (.func q) a h k) (fun hx=>w321 hc hx)))
  (cndN
  (cndL (T:=fun q=>SW Go.Proofs.Tryz.prog G (.func q) a h k) (fun hx=>w322 hc hx))
  (cndN
  (cndL (T:=fun q=>SW Go.Proofs.Tryz.prog G (.func q) a h k) (fun hx=>w323 hc hx))
  (cndL (T:=fun q=>SW Go.Proofs.Tryz.prog G (.func q) a h k) (fun hx=>w324 hc hx)))))
  (cndN
  (cndN
  (cndL (T:=fun q=>SW Go.Proofs.Tryz.prog G (.func q) a h k) (fun hx=>w325 hc hx))
  (cndN
  (cndL (T:=fun q=>SW Go.Proofs.Tryz.prog G (.func q) a h k) (fun hx=>w326 hc hx))
  (cndL (T:=fun q=>SW Go.Proofs.Tryz.prog G (.func q) a h k) (fun hx=>w327 hc hx))))
  (cndN
  (cndL (T:=fun q=>SW Go.Proofs.Tryz.prog G (.func q) a h k) (fun hx=>w328 hc hx))
  (cndN
  (cndL (T:=fun q=>SW Go.Proofs.Tryz.prog G (.func q) a h k) (fun hx=>w329 hc hx))
  (cndL (T:=fun q=>SW Go.Proofs.Tryz.prog G (.func q) a h k) (fun hx=>w330 hc hx))))))
  (cndN
  (cndN
  (cndN
  (cndL (T:=fun q=>SW Go.Proofs.Tryz.prog G (.func q) a h k) (fun hx=>w331 hc hx))
  (cndL (T:=fun q=>SW Go.Proofs.Tryz.prog G (.func q) a h k) (fun hx=>w332 hc hx)))
  (cndN
  (cndL (T:=fun q=>SW Go.Proofs.Tryz.prog G (.func q) a h k) (fun hx=>w333 hc hx))
  (cndN
  (cndL (T:=fun q=>SW Go.Proofs.Tryz.prog G (.func q) a h k) (fun hx=>w334 hc hx))
  (cndL (T:=fun q=>SW Go.Proofs.Tryz.prog G (.func q) a h k) (fun hx=>w335 hc hx)))))
  (cndN
  (cndN
  (cndL (T:=fun q=>SW Go.Proofs.Tryz.prog G (.func q) a h k) (fun hx=>w336 hc hx))
  (cndN
  (cndL (T:=fun q=>SW Go.Proofs.Tryz.prog G (.func q) a h k) (fun hx=>w337 hc hx))
  (cndL (T:=fun q=>SW Go.Proofs.Tryz.prog G (.func q) a h k) (fun hx=>w338 hc hx))))
  (cndN
  (cndL (T:=fun q=>SW Go.Proofs.Tryz.prog G (.func q) a h k) (fun hx=>w339 hc hx))
  (cndN
  (cndL (T:=fun q=>SW Go.Proofs.Tryz.prog G (.func q) a h k) (fun hx=>w340 hc hx))
  (cndL (T:=fun q=>SW Go.Proofs.Tryz.prog G (.func q) a h k) (fun hx=>w343 hc hx)))))))
  (cndN
  (cndN
  (cndN
  (cndN
  (cndL (T:=fun q=>SW Go.Proofs.Tryz.prog G (.func q) a h k) (fun hx=>w344 hc hx))
  (cndL (T:=fun q=>SW Go.Proofs.Tryz.prog G (.func q) a h k) (fun hx=>w345 hc hx)))
  (cndN
  (cndL (T:=fun q=>SW Go.Proofs.Tryz.prog G (.func q) a h k) (fun hx=>w346 hc hx))
  (cndN
  (cndL (T:=fun q=>SW Go.Proofs.Tryz.prog G (.func q) a h k) (fun hx=>w347 hc hx))
  (cndL (T:=fun q=>SW Go.Proofs.Tryz.prog G (.func q) a h k) (fun hx=>w348 hc hx)))))
  (cndN
  (cndN
  (cndL (T:=fun q=>SW Go.Proofs.Tryz.prog G (.func q) a h k) (fun hx=>w349 hc hx))
  (cndN
  (cndL (T:=fun q=>SW Go.Proofs.Tryz.prog G (.func q) a h k) (fun hx=>w350 hc hx))
  (cndL (T:=fun q=>SW Go.Proofs.Tryz.prog G (.func q) a h k) (fun hx=>w351 hc hx))))
  (cndN
  (cndL (T:=fun q=>SW Go.Proofs.Tryz.prog G (.func q) a h k) (fun hx=>w352 hc hx))
  (cndN
  (cndL (T:=fun q=>SW Go.Proofs.Tryz.prog G (.func q) a h k) (fun hx=>w353 hc hx))
  (cndL (T:=fun q=>SW Go.Proofs.Tryz.prog G (.func q) a h k) (fun hx=>w355 hc hx))))))
  (cndN
  (cndN
  (cndN
  (cndL (T:=fun q=>SW Go.Proofs.Tryz.prog G (.func q) a h k) (fun hx=>w356 hc hx))
  (cndL (T:=fun q=>SW Go.Proofs.Tryz.prog G (.func q) a h k) (fun hx=>w357 hc hx)))
  (cndN
  (cndL (T:=fun q=>SW Go.Proofs.Tryz.prog G (.func q) a h k) (fun hx=>w358 hc hx))
  (cndN
  (cndL (T:=fun q=>SW Go.Proofs.Tryz.prog G (.func q) a h k) (fun hx=>w360 hc hx))
  (cndL (T:=fun q=>SW Go.Proofs.Tryz.prog G (.func q) a h k) (fun hx=>w361 hc hx)))))
  (cndN
  (cndN
  (cndL (T:=fun q=>SW Go.Proofs.Tryz.prog G (.func q) a h k) (fun hx=>w362 hc hx))
  (cndN
  (cndL (T:=fun q=>SW Go.Proofs.Tryz.prog G (.func q) a h k) (fun hx=>w363 hc hx))
  (cndL (T:=fun q=>SW Go.Proofs.Tryz.prog G (.func q) a h k) (fun hx=>w364 hc hx))))
  (cndN
  (cndL (T:=fun q=>SW Go.Proofs.Tryz.prog G (.func q) a h k) (fun hx=>w365 hc hx))
  (cndN
  (cndL (T:=fun q=>SW Go.Proofs.Tryz.prog G (.func q) a h k) (fun hx=>w366 hc hx))
  (cndL (T:=fun q=>SW Go.Proofs.Tryz.prog G (.func q) a h k) (fun hx=>x397 hx))))))))))) hg
theorem calls_ok(m:Nat):∀n,CallOk Go.Proofs.Tryz.prog (CP env) G (fun p=>p) (calls m n)
  |0=>fun _ _ _ _ _ _ _ _ _ _ _ _ hg=>hg.elim
  |n+1=>fun μ h w fn fn' args vargs k s gl hf hv hg=>by
    cases fn with
    |func i=>exact disp_ok (calls_ok m n) (show disp (calls m n) m i args h k from hg) μ w fn' vargs s gl hf hv
    |yield l=>exact yield_ok mixed envOk (calls_ok m n) (show yieldA env (calls m n) (okLp Go.Proofs.Tryz.prog env G) l args h k from hg) μ w fn' vargs s gl hf hv
    |_=>exact hg.elim

end Go.Den
