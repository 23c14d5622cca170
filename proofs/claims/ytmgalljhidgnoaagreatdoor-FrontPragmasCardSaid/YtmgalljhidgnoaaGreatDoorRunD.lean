/-
 Proof. the table of calls is the program's.
-/
import Derived.Test.YtmgalljhidgnoaaGreatDoorRunC
import Derived.Test.YtmgalljhidgnoaaGreatDoorRunB1
import Derived.Test.YtmgalljhidgnoaaGreatDoorRunB2
import Derived.Test.YtmgalljhidgnoaaGreatDoorRunB3
import Derived.Test.YtmgalljhidgnoaaGreatDoorRunB4
import Derived.Laws.Externs
import Derived.KernelRfl
open Nat renaming beq → vS
namespace Go.Den
open Go.Proofs
set_option maxRecDepth 100000
theorem x78{a:List U}{b:H}{c:KV}(d:V (vS (len a) 2) (oK (C1 (.Fv .i64) a b) c) False):Al 78 a b c:=
 DU (e:=(.Fv .i64)) (n:=2) rfl (λf g=>run_callFunc_extern (e:=Hi (.Fv .i64)) Tryz.func78 (by kernel_rfl) (by kernel_rfl) (by kernel_rfl) (by kernel_rfl) f g) d
theorem Aqe{a:List U}{b:H}{c:KV}(d:V (vS (len a) 2) (oK (C1 (.Jc .i64) a b) c) False):Al 105 a b c:=
 DU (e:=(.Jc .i64)) (n:=2) rfl (λf g=>run_callFunc_extern (e:=Hi (.Jc .i64)) Tryz.func105 (by kernel_rfl) (by kernel_rfl) (by kernel_rfl) (by kernel_rfl) f g) d
theorem Aln{a:List U}{b:H}{c:KV}(d:V (vS (len a) 1) (oK (C1 .Fw a b) c) False):Al 151 a b c:=
 DU (e:=.Fw) (n:=1) rfl (λf g=>run_callFunc_extern (e:=Hi .Fw) Tryz.func151 (by kernel_rfl) (by kernel_rfl) (by kernel_rfl) (by kernel_rfl) f g) d
theorem Amg{a:List U}{b:H}{c:KV}(d:V (vS (len a) 2) (oK (C1 .indexByte a b) c) False):Al 228 a b c:=
 DU (e:=.indexByte) (n:=2) rfl (λf g=>run_callFunc_extern (e:=Hi .indexByte) Tryz.func228 (by kernel_rfl) (by kernel_rfl) (by kernel_rfl) (by kernel_rfl) f g) d
theorem Alv{a:List U}{b:H}{c:KV}(d:V (vS (len a) 1) (oK (C1 (.Gf .u32) a b) c) False):Al 230 a b c:=
 DU (e:=(.Gf .u32)) (n:=1) rfl (λf g=>run_callFunc_extern (e:=Hi (.Gf .u32)) Tryz.func230 (by kernel_rfl) (by kernel_rfl) (by kernel_rfl) (by kernel_rfl) f g) d
theorem Aqf{a:List U}{b:H}{c:KV}(d:V (vS (len a) 1) (oK (C1 (.Gf .i64) a b) c) False):Al 248 a b c:=
 DU (e:=(.Gf .i64)) (n:=1) rfl (λf g=>run_callFunc_extern (e:=Hi (.Gf .i64)) Tryz.func248 (by kernel_rfl) (by kernel_rfl) (by kernel_rfl) (by kernel_rfl) f g) d
theorem Ali{a:List U}{b:H}{c:KV}(d:V (vS (len a) 3) (oK (C1 (.Jr .i64) a b) c) False):Al 249 a b c:=
 DU (e:=(.Jr .i64)) (n:=3) rfl (λf g=>run_callFunc_extern (e:=Hi (.Jr .i64)) Tryz.func249 (by kernel_rfl) (by kernel_rfl) (by kernel_rfl) (by kernel_rfl) f g) d
theorem Azo{a:List U}{b:H}{c:KV}(d:V (vS (len a) 2) (oK (C1 (.Fv .u32) a b) c) False):Al 259 a b c:=
 DU (e:=(.Fv .u32)) (n:=2) rfl (λf g=>run_callFunc_extern (e:=Hi (.Fv .u32)) Tryz.func259 (by kernel_rfl) (by kernel_rfl) (by kernel_rfl) (by kernel_rfl) f g) d
theorem Bei{a:List U}{b:H}{c:KV}(d:V (vS (len a) 0) (c .undef b) False):Al 281 a b c:=
 Uf (run_call_mark0 Tryz.func281 (by kernel_rfl) (by kernel_rfl) (by kernel_rfl) .disable (by kernel_rfl)) d
theorem Aya{a:List U}{b:H}{c:KV}(d:V (vS (len a) 3) (oK (C1 (.Jr .i32) a b) c) False):Al 282 a b c:=
 DU (e:=(.Jr .i32)) (n:=3) rfl (λf g=>run_callFunc_extern (e:=Hi (.Jr .i32)) Tryz.func282 (by kernel_rfl) (by kernel_rfl) (by kernel_rfl) (by kernel_rfl) f g) d
theorem Bhi{a:List U}{b:H}{c:KV}(d:V (vS (len a) 0) (c .undef b) False):Al 283 a b c:=
 Uf (run_call_mark0 Tryz.func283 (by kernel_rfl) (by kernel_rfl) (by kernel_rfl) .enable (by kernel_rfl)) d
theorem Bgc{a:List U}{b:H}{c:KV}(d:OW (DZ a) λ_ _=>V (vS (len a) 1) (c .undef b) False):Al 284 a b c:=
 Vh (run_call_marked Tryz.func284 (by kernel_rfl) (by kernel_rfl) (by kernel_rfl) .acquire (by kernel_rfl)) d
theorem Bbb{a:List U}{b:H}{c:KV}(d:OW (DZ a) λ_ _=>V (vS (len a) 1) (c .undef b) False):Al 286 a b c:=
 Vh (run_call_marked Tryz.func286 (by kernel_rfl) (by kernel_rfl) (by kernel_rfl) .releaseMerge (by kernel_rfl)) d
theorem Ayc{a:List U}{b:H}{c:KV}(d:V (vS (len a) 2) (oK (C1 (.Jc .i32) a b) c) False):Al 287 a b c:=
 DU (e:=(.Jc .i32)) (n:=2) rfl (λf g=>run_callFunc_extern (e:=Hi (.Jc .i32)) Tryz.func287 (by kernel_rfl) (by kernel_rfl) (by kernel_rfl) (by kernel_rfl) f g) d
theorem Bak{a:List U}{b:H}{c:KV}(d:V (vS (len a) 2) (oK (C1 .count a b) c) False):Al 397 a b c:=
 DU (e:=.count) (n:=2) rfl (λf g=>run_callFunc_extern (e:=Hi .count) Tryz.func397 (by kernel_rfl) (by kernel_rfl) (by kernel_rfl) (by kernel_rfl) f g) d
theorem Bfu{b:CF}(c:C4 Tryz.prog (CP env) G (λp=>p) b){d:KV}{f:Nat}{a:List U}{g:H}(h:di env b (oc 0).toList (FW 3 (oc 1).toList) (oc 2).toList (FW 3 (oc 3).toList) (oc 4).toList (.tmp 10) (.tmp 15) (.tmp 18) (λa g d=>f232 (S7 b d f) 0 (Ab a) g) (λa g d=>f233 (Sq b d f) 0 (Ab a) g) (Ab a) g d):Al 199 a g d:=
 Aan (o0:=oc 0) (o1:=oc 1) (o2:=oc 2) (o3:=oc 3) (o4:=oc 4) (u1:=232) (u3:=233) (d1:=QV (oc 1).toList 3) (d3:=QV (oc 3).toList 3) (i0:=al (GZ d199 (.l .root))) (i1:=al (GZ d199 (.l (.r .root)))) (i2:=al (GZ d199 (.l (.r (.r .root))))) (i3:=al (GZ d199 (.l (.l (.r (.r (.r .root))))))) (i4:=al (GZ d199 (.r (.l (.r (.r (.r .root))))))) (a1:=qI (QV (oc 1).toList 3)) (a3:=qI (QV (oc 3).toList 3)) AO c Tryz.func199 (by kernel_rfl) (by kernel_rfl) (by kernel_rfl) (by kernel_rfl) (by kernel_rfl) ⟨by kernel_rfl,by kernel_rfl,by kernel_rfl⟩ ⟨by kernel_rfl,by kernel_rfl,by kernel_rfl⟩
  (by kernel_rfl) (by kernel_rfl) (by kernel_rfl) (by kernel_rfl) (by kernel_rfl) (by kernel_rfl) (by kernel_rfl) (by kernel_rfl) (λ_ _ _ i=>Awv c i) (λ_ _ _ i=>Arw c i) h
theorem Y6{b:CF}(c:C4 Tryz.prog (CP env) G (λp=>p) b){d f:Nat}{a:List U}{g:H}{h:KV}(i:Uv b d f a g h):Al f a g h:=
 (Aw
 (Aw
 (Aw
 (Aw
 (Aw
 (Aw
 (Aw
 (Au (T:=λq=>Al q a g h) (λj=>w3 c j))
 (Aw
 (Au (T:=λq=>Al q a g h) (λj=>w4 c j))
 (Au (T:=λq=>Al q a g h) (λj=>w5 c j))))
 (Aw
 (Au (T:=λq=>Al q a g h) (λj=>w6 c j))
 (Aw
 (Au (T:=λq=>Al q a g h) (λj=>w7 c j))
 (Au (T:=λq=>Al q a g h) (λj=>w8 c j)))))
 (Aw
 (Aw
 (Au (T:=λq=>Al q a g h) (λj=>w9 c j))
 (Aw
 (Au (T:=λq=>Al q a g h) (λj=>w10 c j))
 (Au (T:=λq=>Al q a g h) (λj=>w11 c j))))
 (Aw
 (Aw
 (Au (T:=λq=>Al q a g h) (λj=>w12 c j))
 (Au (T:=λq=>Al q a g h) (λj=>w13 c j)))
 (Aw
 (Au (T:=λq=>Al q a g h) (λj=>w14 c j))
 (Au (T:=λq=>Al q a g h) (λj=>w15 c j))))))
 (Aw
 (Aw
 (Aw
 (Au (T:=λq=>Al q a g h) (λj=>w16 c j))
 (Aw
 (Au (T:=λq=>Al q a g h) (λj=>w17 c j))
 (Au (T:=λq=>Al q a g h) (λj=>w18 c j))))
 (Aw
 (Aw
 (Au (T:=λq=>Al q a g h) (λj=>w19 c j))
 (Au (T:=λq=>Al q a g h) (λj=>w20 c j)))
 (Aw
 (Au (T:=λq=>Al q a g h) (λj=>w21 c j))
 (Au (T:=λq=>Al q a g h) (λj=>w22 c j)))))
 (Aw
 (Aw
 (Au (T:=λq=>Al q a g h) (λj=>w23 c j))
 (Aw
 (Au (T:=λq=>Al q a g h) (λj=>w25 c j))
 (Au (T:=λq=>Al q a g h) (λj=>w26 c j))))
 (Aw
 (Aw
 (Au (T:=λq=>Al q a g h) (λj=>w27 c j))
 (Au (T:=λq=>Al q a g h) (λj=>w28 c j)))
 (Aw
 (Au (T:=λq=>Al q a g h) (λj=>w29 c j))
 (Au (T:=λq=>Al q a g h) (λj=>w30 c j)))))))
 (Aw
 (Aw
 (Aw
 (Aw
 (Au (T:=λq=>Al q a g h) (λj=>w31 c j))
 (Aw
 (Au (T:=λq=>Al q a g h) (λj=>w32 c j))
 (Au (T:=λq=>Al q a g h) (λj=>w33 c j))))
 (Aw
 (Au (T:=λq=>Al q a g h) (λj=>w34 c j))
 (Aw
 (Au (T:=λq=>Al q a g h) (λj=>w35 c j))
 (Au (T:=λq=>Al q a g h) (λj=>w36 c j)))))
 (Aw
 (Aw
 (Au (T:=λq=>Al q a g h) (λj=>w38 c j))
 (Aw
 (Au (T:=λq=>Al q a g h) (λj=>w39 c j))
 (Au (T:=λq=>Al q a g h) (λj=>w40 c j))))
 (Aw
 (Aw
 (Au (T:=λq=>Al q a g h) (λj=>w41 c j))
 (Au (T:=λq=>Al q a g h) (λj=>w42 c j)))
 (Aw
 (Au (T:=λq=>Al q a g h) (λj=>w43 c j))
 (Au (T:=λq=>Al q a g h) (λj=>w44 c j))))))
 (Aw
 (Aw
 (Aw
 (Au (T:=λq=>Al q a g h) (λj=>w46 c j))
 (Aw
 (Au (T:=λq=>Al q a g h) (λj=>w47 c j))
 (Au (T:=λq=>Al q a g h) (λj=>w50 c j))))
 (Aw
 (Aw
 (Au (T:=λq=>Al q a g h) (λj=>w51 c j))
 (Au (T:=λq=>Al q a g h) (λj=>w52 c j)))
 (Aw
 (Au (T:=λq=>Al q a g h) (λj=>w53 c j))
 (Au (T:=λq=>Al q a g h) (λj=>w54 c j)))))
 (Aw
 (Aw
 (Au (T:=λq=>Al q a g h) (λj=>w55 c j))
 (Aw
 (Au (T:=λq=>Al q a g h) (λj=>w56 c j))
 (Au (T:=λq=>Al q a g h) (λj=>w57 c j))))
 (Aw
 (Aw
 (Au (T:=λq=>Al q a g h) (λj=>w58 c j))
 (Au (T:=λq=>Al q a g h) (λj=>w59 c j)))
 (Aw
 (Au (T:=λq=>Al q a g h) (λj=>w60 c j))
 (Au (T:=λq=>Al q a g h) (λj=>w61 c j))))))))
 (Aw
 (Aw
 (Aw
 (Aw
 (Aw
 (Au (T:=λq=>Al q a g h) (λj=>w62 c j))
 (Aw
 (Au (T:=λq=>Al q a g h) (λj=>w63 c j))
 (Au (T:=λq=>Al q a g h) (λj=>w65 c j))))
 (Aw
 (Au (T:=λq=>Al q a g h) (λj=>w67 c j))
 (Aw
 (Au (T:=λq=>Al q a g h) (λj=>w68 c j))
 (Au (T:=λq=>Al q a g h) (λj=>w69 c j)))))
 (Aw
 (Aw
 (Au (T:=λq=>Al q a g h) (λj=>w70 c j))
 (Aw
 (Au (T:=λq=>Al q a g h) (λj=>w71 c j))
 (Au (T:=λq=>Al q a g h) (λj=>w73 c j))))
 (Aw
 (Aw
 (Au (T:=λq=>Al q a g h) (λj=>w74 c j))
 (Au (T:=λq=>Al q a g h) (λj=>w75 c j)))
 (Aw
 (Au (T:=λq=>Al q a g h) (λj=>w76 c j))
 (Au (T:=λq=>Al q a g h) (λj=>w77 c j))))))
 (Aw
 (Aw
 (Aw
 (Au (T:=λq=>Al q a g h) (λj=>x78 j))
 (Aw
 (Au (T:=λq=>Al q a g h) (λj=>w79 c j))
 (Au (T:=λq=>Al q a g h) (λj=>w80 c j))))
 (Aw
 (Aw
 (Au (T:=λq=>Al q a g h) (λj=>w81 c j))
 (Au (T:=λq=>Al q a g h) (λj=>w82 c j)))
 (Aw
 (Au (T:=λq=>Al q a g h) (λj=>w83 c j))
 (Au (T:=λq=>Al q a g h) (λj=>w84 c j)))))
 (Aw
 (Aw
 (Au (T:=λq=>Al q a g h) (λj=>w85 c j))
 (Aw
 (Au (T:=λq=>Al q a g h) (λj=>w86 c j))
 (Au (T:=λq=>Al q a g h) (λj=>w88 c j))))
 (Aw
 (Aw
 (Au (T:=λq=>Al q a g h) (λj=>w89 c j))
 (Au (T:=λq=>Al q a g h) (λj=>w90 c j)))
 (Aw
 (Au (T:=λq=>Al q a g h) (λj=>w91 c j))
 (Au (T:=λq=>Al q a g h) (λj=>w92 c j)))))))
 (Aw
 (Aw
 (Aw
 (Aw
 (Au (T:=λq=>Al q a g h) (λj=>w93 c j))
 (Aw
 (Au (T:=λq=>Al q a g h) (λj=>w94 c j))
 (Au (T:=λq=>Al q a g h) (λj=>w95 c j))))
 (Aw
 (Aw
 (Au (T:=λq=>Al q a g h) (λj=>w96 c j))
 (Au (T:=λq=>Al q a g h) (λj=>w98 c j)))
 (Aw
 (Au (T:=λq=>Al q a g h) (λj=>w99 c j))
 (Au (T:=λq=>Al q a g h) (λj=>Bdp c j)))))
 (Aw
 (Aw
 (Au (T:=λq=>Al q a g h) (λj=>Bcc c j))
 (Aw
 (Au (T:=λq=>Al q a g h) (λj=>Anw c j))
 (Au (T:=λq=>Al q a g h) (λj=>Aou c j))))
 (Aw
 (Aw
 (Au (T:=λq=>Al q a g h) (λj=>Aqe j))
 (Au (T:=λq=>Al q a g h) (λj=>Apn c j)))
 (Aw
 (Au (T:=λq=>Al q a g h) (λj=>mq c j))
 (Au (T:=λq=>Al q a g h) (λj=>oe c j))))))
 (Aw
 (Aw
 (Aw
 (Au (T:=λq=>Al q a g h) (λj=>Bev c j))
 (Aw
 (Au (T:=λq=>Al q a g h) (λj=>Azn c j))
 (Au (T:=λq=>Al q a g h) (λj=>Amu c j))))
 (Aw
 (Aw
 (Au (T:=λq=>Al q a g h) (λj=>Ayg c j))
 (Au (T:=λq=>Al q a g h) (λj=>Bbw c j)))
 (Aw
 (Au (T:=λq=>Al q a g h) (λj=>Amt c j))
 (Au (T:=λq=>Al q a g h) (λj=>Aoq c j)))))
 (Aw
 (Aw
 (Au (T:=λq=>Al q a g h) (λj=>Anp c j))
 (Aw
 (Au (T:=λq=>Al q a g h) (λj=>Ald c j))
 (Au (T:=λq=>Al q a g h) (λj=>Alw c j))))
 (Aw
 (Aw
 (Au (T:=λq=>Al q a g h) (λj=>Aor c j))
 (Au (T:=λq=>Al q a g h) (λj=>Bae c j)))
 (Aw
 (Au (T:=λq=>Al q a g h) (λj=>oI c j))
 (Au (T:=λq=>Al q a g h) (λj=>Apo c j)))))))))
 (Aw
 (Aw
 (Aw
 (Aw
 (Aw
 (Aw
 (Au (T:=λq=>Al q a g h) (λj=>Amk c j))
 (Aw
 (Au (T:=λq=>Al q a g h) (λj=>Bde c j))
 (Au (T:=λq=>Al q a g h) (λj=>Azm c j))))
 (Aw
 (Au (T:=λq=>Al q a g h) (λj=>Bcb c j))
 (Aw
 (Au (T:=λq=>Al q a g h) (λj=>Bgq c j))
 (Au (T:=λq=>Al q a g h) (λj=>Ayy c j)))))
 (Aw
 (Aw
 (Au (T:=λq=>Al q a g h) (λj=>Bhn c j))
 (Aw
 (Au (T:=λq=>Al q a g h) (λj=>Aym c j))
 (Au (T:=λq=>Al q a g h) (λj=>Aln j))))
 (Aw
 (Aw
 (Au (T:=λq=>Al q a g h) (λj=>Aqh c j))
 (Au (T:=λq=>Al q a g h) (λj=>Bcf c j)))
 (Aw
 (Au (T:=λq=>Al q a g h) (λj=>Bgb c j))
 (Au (T:=λq=>Al q a g h) (λj=>Bcy c j))))))
 (Aw
 (Aw
 (Aw
 (Au (T:=λq=>Al q a g h) (λj=>Ayx c j))
 (Aw
 (Au (T:=λq=>Al q a g h) (λj=>Bdi c j))
 (Au (T:=λq=>Al q a g h) (λj=>Bhq c j))))
 (Aw
 (Aw
 (Au (T:=λq=>Al q a g h) (λj=>Aaj c j))
 (Au (T:=λq=>Al q a g h) (λj=>Alz c j)))
 (Aw
 (Au (T:=λq=>Al q a g h) (λj=>Ams c j))
 (Au (T:=λq=>Al q a g h) (λj=>Ami c j)))))
 (Aw
 (Aw
 (Au (T:=λq=>Al q a g h) (λj=>Amh c j))
 (Aw
 (Au (T:=λq=>Al q a g h) (λj=>Alh c j))
 (Au (T:=λq=>Al q a g h) (λj=>Aqc c j))))
 (Aw
 (Aw
 (Au (T:=λq=>Al q a g h) (λj=>Amy c j))
 (Au (T:=λq=>Al q a g h) (λj=>Aox c j)))
 (Aw
 (Au (T:=λq=>Al q a g h) (λj=>Ang c j))
 (Au (T:=λq=>Al q a g h) (λj=>Aod c j)))))))
 (Aw
 (Aw
 (Aw
 (Aw
 (Au (T:=λq=>Al q a g h) (λj=>Alu c j))
 (Aw
 (Au (T:=λq=>Al q a g h) (λj=>Bfx c j))
 (Au (T:=λq=>Al q a g h) (λj=>Baz c j))))
 (Aw
 (Au (T:=λq=>Al q a g h) (λj=>Beo c j))
 (Aw
 (Au (T:=λq=>Al q a g h) (λj=>Ayn c j))
 (Au (T:=λq=>Al q a g h) (λj=>Alx c j)))))
 (Aw
 (Aw
 (Au (T:=λq=>Al q a g h) (λj=>Apa c j))
 (Aw
 (Au (T:=λq=>Al q a g h) (λj=>Bfu c j))
 (Au (T:=λq=>Al q a g h) (λj=>Bek c j))))
 (Aw
 (Aw
 (Au (T:=λq=>Al q a g h) (λj=>Bfc c j))
 (Au (T:=λq=>Al q a g h) (λj=>Bfe c j)))
 (Aw
 (Au (T:=λq=>Al q a g h) (λj=>Bca c j))
 (Au (T:=λq=>Al q a g h) (λj=>Bar c j))))))
 (Aw
 (Aw
 (Aw
 (Au (T:=λq=>Al q a g h) (λj=>Ayr c j))
 (Aw
 (Au (T:=λq=>Al q a g h) (λj=>Bcs c j))
 (Au (T:=λq=>Al q a g h) (λj=>Ayz c j))))
 (Aw
 (Aw
 (Au (T:=λq=>Al q a g h) (λj=>Aql c j))
 (Au (T:=λq=>Al q a g h) (λj=>Amn c j)))
 (Aw
 (Au (T:=λq=>Al q a g h) (λj=>Amq c j))
 (Au (T:=λq=>Al q a g h) (λj=>Amc c j)))))
 (Aw
 (Aw
 (Au (T:=λq=>Al q a g h) (λj=>Aqj c j))
 (Aw
 (Au (T:=λq=>Al q a g h) (λj=>Aon c j))
 (Au (T:=λq=>Al q a g h) (λj=>Bdr c j))))
 (Aw
 (Aw
 (Au (T:=λq=>Al q a g h) (λj=>Azp c j))
 (Au (T:=λq=>Al q a g h) (λj=>Bfg c j)))
 (Aw
 (Au (T:=λq=>Al q a g h) (λj=>Amg j))
 (Au (T:=λq=>Al q a g h) (λj=>Alv j))))))))
 (Aw
 (Aw
 (Aw
 (Aw
 (Aw
 (Au (T:=λq=>Al q a g h) (λj=>Bac c j))
 (Aw
 (Au (T:=λq=>Al q a g h) (λj=>Bal c j))
 (Au (T:=λq=>Al q a g h) (λj=>Bhg c j))))
 (Aw
 (Au (T:=λq=>Al q a g h) (λj=>Azd c j))
 (Aw
 (Au (T:=λq=>Al q a g h) (λj=>Ayq c j))
 (Au (T:=λq=>Al q a g h) (λj=>Bfl c j)))))
 (Aw
 (Aw
 (Au (T:=λq=>Al q a g h) (λj=>Bep c j))
 (Aw
 (Au (T:=λq=>Al q a g h) (λj=>Bbu c j))
 (Au (T:=λq=>Al q a g h) (λj=>Azz c j))))
 (Aw
 (Aw
 (Au (T:=λq=>Al q a g h) (λj=>Bbe c j))
 (Au (T:=λq=>Al q a g h) (λj=>Aqf j)))
 (Aw
 (Au (T:=λq=>Al q a g h) (λj=>Ali j))
 (Au (T:=λq=>Al q a g h) (λj=>Bed c j))))))
 (Aw
 (Aw
 (Aw
 (Au (T:=λq=>Al q a g h) (λj=>Bdh c j))
 (Aw
 (Au (T:=λq=>Al q a g h) (λj=>Ayw c j))
 (Au (T:=λq=>Al q a g h) (λj=>Azo j))))
 (Aw
 (Aw
 (Au (T:=λq=>Al q a g h) (λj=>Bbm c j))
 (Au (T:=λq=>Al q a g h) (λj=>Ayt c j)))
 (Aw
 (Au (T:=λq=>Al q a g h) (λj=>Azf c j))
 (Au (T:=λq=>Al q a g h) (λj=>Bhm c j)))))
 (Aw
 (Aw
 (Au (T:=λq=>Al q a g h) (λj=>Bhc c j))
 (Aw
 (Au (T:=λq=>Al q a g h) (λj=>Azs c j))
 (Au (T:=λq=>Al q a g h) (λj=>Bch c j))))
 (Aw
 (Aw
 (Au (T:=λq=>Al q a g h) (λj=>Bei j))
 (Au (T:=λq=>Al q a g h) (λj=>Aya j)))
 (Aw
 (Au (T:=λq=>Al q a g h) (λj=>Bhi j))
 (Au (T:=λq=>Al q a g h) (λj=>Bgc j)))))))
 (Aw
 (Aw
 (Aw
 (Aw
 (Au (T:=λq=>Al q a g h) (λj=>Bck c j))
 (Aw
 (Au (T:=λq=>Al q a g h) (λj=>Bbb j))
 (Au (T:=λq=>Al q a g h) (λj=>Ayc j))))
 (Aw
 (Aw
 (Au (T:=λq=>Al q a g h) (λj=>Bdw c j))
 (Au (T:=λq=>Al q a g h) (λj=>Bfw c j)))
 (Aw
 (Au (T:=λq=>Al q a g h) (λj=>Bfr c j))
 (Au (T:=λq=>Al q a g h) (λj=>Ayi c j)))))
 (Aw
 (Aw
 (Au (T:=λq=>Al q a g h) (λj=>Bbq c j))
 (Aw
 (Au (T:=λq=>Al q a g h) (λj=>Bcu c j))
 (Au (T:=λq=>Al q a g h) (λj=>Bdz c j))))
 (Aw
 (Aw
 (Au (T:=λq=>Al q a g h) (λj=>Bgj c j))
 (Au (T:=λq=>Al q a g h) (λj=>Bhh c j)))
 (Aw
 (Au (T:=λq=>Al q a g h) (λj=>Bbf c j))
 (Au (T:=λq=>Al q a g h) (λj=>Bfh c j))))))
 (Aw
 (Aw
 (Aw
 (Au (T:=λq=>Al q a g h) (λj=>Bhp c j))
 (Aw
 (Au (T:=λq=>Al q a g h) (λj=>Bgd c j))
 (Au (T:=λq=>Al q a g h) (λj=>Bdm c j))))
 (Aw
 (Aw
 (Au (T:=λq=>Al q a g h) (λj=>Bef c j))
 (Au (T:=λq=>Al q a g h) (λj=>Bgz c j)))
 (Aw
 (Au (T:=λq=>Al q a g h) (λj=>Bbz c j))
 (Au (T:=λq=>Al q a g h) (λj=>Bet c j)))))
 (Aw
 (Aw
 (Au (T:=λq=>Al q a g h) (λj=>Bai c j))
 (Aw
 (Au (T:=λq=>Al q a g h) (λj=>Bhj c j))
 (Au (T:=λq=>Al q a g h) (λj=>Axx c j))))
 (Aw
 (Aw
 (Au (T:=λq=>Al q a g h) (λj=>Bcx c j))
 (Au (T:=λq=>Al q a g h) (λj=>Bah c j)))
 (Aw
 (Au (T:=λq=>Al q a g h) (λj=>Bcg c j))
 (Au (T:=λq=>Al q a g h) (λj=>Bak j)))))))))) i
theorem Mk(a:Nat):∀n,C4 Tryz.prog (CP env) G (λp=>p) (calls a n)
 |0=>λ_ _ _ _ _ _ _ _ _ _ _ _ b=>b.elim
 |n+1=>λμ c d fn f g h i j k m o b=>by
  cases fn with
  |func q=>exact Y6 (Mk a n) (show Uv (calls a n) a q g c i from b) μ d f h j k m o
  |yield l=>exact Pe mixed AO (Mk a n) (show LR env (calls a n) (PG Tryz.prog env G) l g c i from b) μ d f h j k m o
  |_=>exact b.elim
end Go.Den
