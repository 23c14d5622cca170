/-
 Proof. the table of calls is the program's.
-/
import Derived.Test.YtheajahjkmfeaaaGreatDoorRunC
import Derived.Test.YtheajahjkmfeaaaGreatDoorRunB1
import Derived.Test.YtheajahjkmfeaaaGreatDoorRunB2
import Derived.Test.YtheajahjkmfeaaaGreatDoorRunB3
import Derived.Test.YtheajahjkmfeaaaGreatDoorRunB4
import Derived.Laws.Externs
import Derived.KernelRfl
namespace Go.Den
open Go.Proofs
set_option maxRecDepth 100000
theorem x78{a:List AV}{h:H}{k:KV}(hg:cnd (Nat.beq (len a) 2) (oK (Gl (.Ju .i64) a h) k) False):zqs 78 a h k:=
 Ga (e:=(.Ju .i64)) (n:=2) rfl (fun args w=>run_callFunc_extern (e:=Rc (.Ju .i64)) Tryz.func78 (by kernel_rfl) (by kernel_rfl) (by kernel_rfl) (by kernel_rfl) args w) hg
theorem Bbx{a:List AV}{h:H}{k:KV}(hg:cnd (Nat.beq (len a) 2) (oK (Gl (.Xl .i64) a h) k) False):zqs 101 a h k:=
 Ga (e:=(.Xl .i64)) (n:=2) rfl (fun args w=>run_callFunc_extern (e:=Rc (.Xl .i64)) Tryz.func101 (by kernel_rfl) (by kernel_rfl) (by kernel_rfl) (by kernel_rfl) args w) hg
theorem Bbw{a:List AV}{h:H}{k:KV}(hg:cnd (Nat.beq (len a) 1) (oK (Gl .Iy a h) k) False):zqs 143 a h k:=
 Ga (e:=.Iy) (n:=1) rfl (fun args w=>run_callFunc_extern (e:=Rc .Iy) Tryz.func143 (by kernel_rfl) (by kernel_rfl) (by kernel_rfl) (by kernel_rfl) args w) hg
theorem Bbv{a:List AV}{h:H}{k:KV}(hg:cnd (Nat.beq (len a) 2) (oK (Gl .indexByte a h) k) False):zqs 220 a h k:=
 Ga (e:=.indexByte) (n:=2) rfl (fun args w=>run_callFunc_extern (e:=Rc .indexByte) Tryz.func220 (by kernel_rfl) (by kernel_rfl) (by kernel_rfl) (by kernel_rfl) args w) hg
theorem Blf{a:List AV}{h:H}{k:KV}(hg:cnd (Nat.beq (len a) 1) (oK (Gl (.Nu .u32) a h) k) False):zqs 222 a h k:=
 Ga (e:=(.Nu .u32)) (n:=1) rfl (fun args w=>run_callFunc_extern (e:=Rc (.Nu .u32)) Tryz.func222 (by kernel_rfl) (by kernel_rfl) (by kernel_rfl) (by kernel_rfl) args w) hg
theorem Bbu{a:List AV}{h:H}{k:KV}(hg:cnd (Nat.beq (len a) 1) (oK (Gl (.Nu .i64) a h) k) False):zqs 240 a h k:=
 Ga (e:=(.Nu .i64)) (n:=1) rfl (fun args w=>run_callFunc_extern (e:=Rc (.Nu .i64)) Tryz.func240 (by kernel_rfl) (by kernel_rfl) (by kernel_rfl) (by kernel_rfl) args w) hg
theorem Bbt{a:List AV}{h:H}{k:KV}(hg:cnd (Nat.beq (len a) 3) (oK (Gl (.Xk .i64) a h) k) False):zqs 241 a h k:=
 Ga (e:=(.Xk .i64)) (n:=3) rfl (fun args w=>run_callFunc_extern (e:=Rc (.Xk .i64)) Tryz.func241 (by kernel_rfl) (by kernel_rfl) (by kernel_rfl) (by kernel_rfl) args w) hg
theorem Ble{a:List AV}{h:H}{k:KV}(hg:cnd (Nat.beq (len a) 2) (oK (Gl (.Ju .u32) a h) k) False):zqs 251 a h k:=
 Ga (e:=(.Ju .u32)) (n:=2) rfl (fun args w=>run_callFunc_extern (e:=Rc (.Ju .u32)) Tryz.func251 (by kernel_rfl) (by kernel_rfl) (by kernel_rfl) (by kernel_rfl) args w) hg
theorem Bld{a:List AV}{h:H}{k:KV}(hg:cnd (Nat.beq (len a) 0) (k .undef h) False):zqs 273 a h k:=
 Aie (run_call_mark0 Tryz.func273 (by kernel_rfl) (by kernel_rfl) (by kernel_rfl) .disable (by kernel_rfl)) hg
theorem Blc{a:List AV}{h:H}{k:KV}(hg:cnd (Nat.beq (len a) 3) (oK (Gl (.Xk .i32) a h) k) False):zqs 274 a h k:=
 Ga (e:=(.Xk .i32)) (n:=3) rfl (fun args w=>run_callFunc_extern (e:=Rc (.Xk .i32)) Tryz.func274 (by kernel_rfl) (by kernel_rfl) (by kernel_rfl) (by kernel_rfl) args w) hg
theorem Blb{a:List AV}{h:H}{k:KV}(hg:cnd (Nat.beq (len a) 0) (k .undef h) False):zqs 275 a h k:=
 Aie (run_call_mark0 Tryz.func275 (by kernel_rfl) (by kernel_rfl) (by kernel_rfl) .enable (by kernel_rfl)) hg
theorem Bla{a:List AV}{h:H}{k:KV}(hg:asP (It a) fun _ _=>cnd (Nat.beq (len a) 1) (k .undef h) False):zqs 276 a h k:=
 Aid (run_call_marked Tryz.func276 (by kernel_rfl) (by kernel_rfl) (by kernel_rfl) .acquire (by kernel_rfl)) hg
theorem Bk9{a:List AV}{h:H}{k:KV}(hg:asP (It a) fun _ _=>cnd (Nat.beq (len a) 1) (k .undef h) False):zqs 278 a h k:=
 Aid (run_call_marked Tryz.func278 (by kernel_rfl) (by kernel_rfl) (by kernel_rfl) .releaseMerge (by kernel_rfl)) hg
theorem Bk8{a:List AV}{h:H}{k:KV}(hg:cnd (Nat.beq (len a) 2) (oK (Gl (.Xl .i32) a h) k) False):zqs 279 a h k:=
 Ga (e:=(.Xl .i32)) (n:=2) rfl (fun args w=>run_callFunc_extern (e:=Rc (.Xl .i32)) Tryz.func279 (by kernel_rfl) (by kernel_rfl) (by kernel_rfl) (by kernel_rfl) args w) hg
theorem Bk7{a:List AV}{h:H}{k:KV}(hg:cnd (Nat.beq (len a) 2) (oK (Gl .count a h) k) False):zqs 389 a h k:=
 Ga (e:=.count) (n:=2) rfl (fun args w=>run_callFunc_extern (e:=Rc .count) Tryz.func389 (by kernel_rfl) (by kernel_rfl) (by kernel_rfl) (by kernel_rfl) args w) hg
theorem Blu{c:CF}(hc:Fb Tryz.prog (CP env) G (fun p=>p) c){k:KV}{m:Nat}{a:List AV}{h:H}(hg:Aui env c (oc 0).toList (Ln 3 (oc 1).toList) (oc 2).toList (Ln 3 (oc 3).toList) (oc 4).toList (.tmp 10) (.tmp 15) (.tmp 18) (fun a h k=>f224 (Akg c k m) 0 (Ab a) h) (fun a h k=>f225 (Akf c k m) 0 (Ab a) h) (Ab a) h k):zqs 193 a h k:=
 A0j (o0:=oc 0) (o1:=oc 1) (o2:=oc 2) (o3:=oc 3) (o4:=oc 4) (u1:=224) (u3:=225) (d1:=Afi (oc 1).toList 3) (d3:=Afi (oc 3).toList 3) (i0:=Avo (Pk d193 (.l .root))) (i1:=Avo (Pk d193 (.l (.r .root)))) (i2:=Avo (Pk d193 (.l (.r (.r .root))))) (i3:=Avo (Pk d193 (.l (.l (.r (.r (.r .root))))))) (i4:=Avo (Pk d193 (.r (.l (.r (.r (.r .root))))))) (a1:=A4e (Afi (oc 1).toList 3)) (a3:=A4e (Afi (oc 3).toList 3)) Dn hc Tryz.func193 (by kernel_rfl) (by kernel_rfl) (by kernel_rfl) (by kernel_rfl) (by kernel_rfl) ⟨by kernel_rfl,by kernel_rfl,by kernel_rfl⟩ ⟨by kernel_rfl,by kernel_rfl,by kernel_rfl⟩
  (by kernel_rfl) (by kernel_rfl) (by kernel_rfl) (by kernel_rfl) (by kernel_rfl) (by kernel_rfl) (by kernel_rfl) (by kernel_rfl) (fun _ _ _ hx=>Bb0 hc hx) (fun _ _ _ hx=>Bbz hc hx) hg
theorem Aqi{c:CF}(hc:Fb Tryz.prog (CP env) G (fun p=>p) c){m i:Nat}{a:List AV}{h:H}{k:KV}(hg:Ar1 c m i a h k):zqs i a h k:=
 (Be
 (Be
 (Be
 (Be
 (Be
 (Be
 (Be
 (Bd (T:=fun q=>zqs q a h k) (fun hx=>w3 hc hx))
 (Bd (T:=fun q=>zqs q a h k) (fun hx=>w4 hc hx)))
 (Be
 (Bd (T:=fun q=>zqs q a h k) (fun hx=>w5 hc hx))
 (Bd (T:=fun q=>zqs q a h k) (fun hx=>w6 hc hx))))
 (Be
 (Be
 (Bd (T:=fun q=>zqs q a h k) (fun hx=>w7 hc hx))
 (Bd (T:=fun q=>zqs q a h k) (fun hx=>w8 hc hx)))
 (Be
 (Bd (T:=fun q=>zqs q a h k) (fun hx=>w9 hc hx))
 (Be
 (Bd (T:=fun q=>zqs q a h k) (fun hx=>w10 hc hx))
 (Bd (T:=fun q=>zqs q a h k) (fun hx=>w11 hc hx))))))
 (Be
 (Be
 (Be
 (Bd (T:=fun q=>zqs q a h k) (fun hx=>w12 hc hx))
 (Bd (T:=fun q=>zqs q a h k) (fun hx=>w13 hc hx)))
 (Be
 (Bd (T:=fun q=>zqs q a h k) (fun hx=>w14 hc hx))
 (Be
 (Bd (T:=fun q=>zqs q a h k) (fun hx=>w15 hc hx))
 (Bd (T:=fun q=>zqs q a h k) (fun hx=>w16 hc hx)))))
 (Be
 (Be
 (Bd (T:=fun q=>zqs q a h k) (fun hx=>w17 hc hx))
 (Bd (T:=fun q=>zqs q a h k) (fun hx=>w18 hc hx)))
 (Be
 (Bd (T:=fun q=>zqs q a h k) (fun hx=>w19 hc hx))
 (Be
 (Bd (T:=fun q=>zqs q a h k) (fun hx=>w20 hc hx))
 (Bd (T:=fun q=>zqs q a h k) (fun hx=>w21 hc hx)))))))
 (Be
 (Be
 (Be
 (Be
 (Bd (T:=fun q=>zqs q a h k) (fun hx=>w22 hc hx))
 (Bd (T:=fun q=>zqs q a h k) (fun hx=>w24 hc hx)))
 (Be
 (Bd (T:=fun q=>zqs q a h k) (fun hx=>w25 hc hx))
 (Be
 (Bd (T:=fun q=>zqs q a h k) (fun hx=>w26 hc hx))
 (Bd (T:=fun q=>zqs q a h k) (fun hx=>w27 hc hx)))))
 (Be
 (Be
 (Bd (T:=fun q=>zqs q a h k) (fun hx=>w28 hc hx))
 (Bd (T:=fun q=>zqs q a h k) (fun hx=>w29 hc hx)))
 (Be
 (Bd (T:=fun q=>zqs q a h k) (fun hx=>w30 hc hx))
 (Be
 (Bd (T:=fun q=>zqs q a h k) (fun hx=>w31 hc hx))
 (Bd (T:=fun q=>zqs q a h k) (fun hx=>w32 hc hx))))))
 (Be
 (Be
 (Be
 (Bd (T:=fun q=>zqs q a h k) (fun hx=>w33 hc hx))
 (Bd (T:=fun q=>zqs q a h k) (fun hx=>w34 hc hx)))
 (Be
 (Bd (T:=fun q=>zqs q a h k) (fun hx=>w35 hc hx))
 (Be
 (Bd (T:=fun q=>zqs q a h k) (fun hx=>w36 hc hx))
 (Bd (T:=fun q=>zqs q a h k) (fun hx=>w38 hc hx)))))
 (Be
 (Be
 (Bd (T:=fun q=>zqs q a h k) (fun hx=>w39 hc hx))
 (Bd (T:=fun q=>zqs q a h k) (fun hx=>w40 hc hx)))
 (Be
 (Bd (T:=fun q=>zqs q a h k) (fun hx=>w41 hc hx))
 (Be
 (Bd (T:=fun q=>zqs q a h k) (fun hx=>w42 hc hx))
 (Bd (T:=fun q=>zqs q a h k) (fun hx=>w43 hc hx))))))))
 (Be
 (Be
 (Be
 (Be
 (Be
 (Bd (T:=fun q=>zqs q a h k) (fun hx=>w44 hc hx))
 (Bd (T:=fun q=>zqs q a h k) (fun hx=>w45 hc hx)))
 (Be
 (Bd (T:=fun q=>zqs q a h k) (fun hx=>w46 hc hx))
 (Be
 (Bd (T:=fun q=>zqs q a h k) (fun hx=>w47 hc hx))
 (Bd (T:=fun q=>zqs q a h k) (fun hx=>w48 hc hx)))))
 (Be
 (Be
 (Bd (T:=fun q=>zqs q a h k) (fun hx=>w49 hc hx))
 (Bd (T:=fun q=>zqs q a h k) (fun hx=>w50 hc hx)))
 (Be
 (Bd (T:=fun q=>zqs q a h k) (fun hx=>w51 hc hx))
 (Be
 (Bd (T:=fun q=>zqs q a h k) (fun hx=>w52 hc hx))
 (Bd (T:=fun q=>zqs q a h k) (fun hx=>w53 hc hx))))))
 (Be
 (Be
 (Be
 (Bd (T:=fun q=>zqs q a h k) (fun hx=>w54 hc hx))
 (Bd (T:=fun q=>zqs q a h k) (fun hx=>w55 hc hx)))
 (Be
 (Bd (T:=fun q=>zqs q a h k) (fun hx=>w56 hc hx))
 (Be
 (Bd (T:=fun q=>zqs q a h k) (fun hx=>w57 hc hx))
 (Bd (T:=fun q=>zqs q a h k) (fun hx=>w62 hc hx)))))
 (Be
 (Be
 (Bd (T:=fun q=>zqs q a h k) (fun hx=>w63 hc hx))
 (Bd (T:=fun q=>zqs q a h k) (fun hx=>w64 hc hx)))
 (Be
 (Bd (T:=fun q=>zqs q a h k) (fun hx=>w65 hc hx))
 (Be
 (Bd (T:=fun q=>zqs q a h k) (fun hx=>w66 hc hx))
 (Bd (T:=fun q=>zqs q a h k) (fun hx=>w67 hc hx)))))))
 (Be
 (Be
 (Be
 (Be
 (Bd (T:=fun q=>zqs q a h k) (fun hx=>w68 hc hx))
 (Bd (T:=fun q=>zqs q a h k) (fun hx=>w69 hc hx)))
 (Be
 (Bd (T:=fun q=>zqs q a h k) (fun hx=>w70 hc hx))
 (Be
 (Bd (T:=fun q=>zqs q a h k) (fun hx=>w71 hc hx))
 (Bd (T:=fun q=>zqs q a h k) (fun hx=>w72 hc hx)))))
 (Be
 (Be
 (Bd (T:=fun q=>zqs q a h k) (fun hx=>w73 hc hx))
 (Bd (T:=fun q=>zqs q a h k) (fun hx=>w74 hc hx)))
 (Be
 (Bd (T:=fun q=>zqs q a h k) (fun hx=>w75 hc hx))
 (Be
 (Bd (T:=fun q=>zqs q a h k) (fun hx=>w76 hc hx))
 (Bd (T:=fun q=>zqs q a h k) (fun hx=>w77 hc hx))))))
 (Be
 (Be
 (Be
 (Bd (T:=fun q=>zqs q a h k) (fun hx=>x78 hx))
 (Bd (T:=fun q=>zqs q a h k) (fun hx=>w79 hc hx)))
 (Be
 (Bd (T:=fun q=>zqs q a h k) (fun hx=>w80 hc hx))
 (Be
 (Bd (T:=fun q=>zqs q a h k) (fun hx=>w81 hc hx))
 (Bd (T:=fun q=>zqs q a h k) (fun hx=>w82 hc hx)))))
 (Be
 (Be
 (Bd (T:=fun q=>zqs q a h k) (fun hx=>w86 hc hx))
 (Bd (T:=fun q=>zqs q a h k) (fun hx=>w87 hc hx)))
 (Be
 (Bd (T:=fun q=>zqs q a h k) (fun hx=>w88 hc hx))
 (Be
 (Bd (T:=fun q=>zqs q a h k) (fun hx=>w89 hc hx))
 (Bd (T:=fun q=>zqs q a h k) (fun hx=>w90 hc hx)))))))))
 (Be
 (Be
 (Be
 (Be
 (Be
 (Be
 (Bd (T:=fun q=>zqs q a h k) (fun hx=>w91 hc hx))
 (Bd (T:=fun q=>zqs q a h k) (fun hx=>w93 hc hx)))
 (Be
 (Bd (T:=fun q=>zqs q a h k) (fun hx=>w94 hc hx))
 (Bd (T:=fun q=>zqs q a h k) (fun hx=>w95 hc hx))))
 (Be
 (Be
 (Bd (T:=fun q=>zqs q a h k) (fun hx=>w96 hc hx))
 (Bd (T:=fun q=>zqs q a h k) (fun hx=>w97 hc hx)))
 (Be
 (Bd (T:=fun q=>zqs q a h k) (fun hx=>w99 hc hx))
 (Be
 (Bd (T:=fun q=>zqs q a h k) (fun hx=>Bcp hc hx))
 (Bd (T:=fun q=>zqs q a h k) (fun hx=>Bbx hx))))))
 (Be
 (Be
 (Be
 (Bd (T:=fun q=>zqs q a h k) (fun hx=>Bco hc hx))
 (Bd (T:=fun q=>zqs q a h k) (fun hx=>Bmc hc hx)))
 (Be
 (Bd (T:=fun q=>zqs q a h k) (fun hx=>Bmb hc hx))
 (Be
 (Bd (T:=fun q=>zqs q a h k) (fun hx=>Bma hc hx))
 (Bd (T:=fun q=>zqs q a h k) (fun hx=>Bcn hc hx)))))
 (Be
 (Be
 (Bd (T:=fun q=>zqs q a h k) (fun hx=>Bcm hc hx))
 (Bd (T:=fun q=>zqs q a h k) (fun hx=>Bcl hc hx)))
 (Be
 (Bd (T:=fun q=>zqs q a h k) (fun hx=>Bck hc hx))
 (Be
 (Bd (T:=fun q=>zqs q a h k) (fun hx=>Bl9 hc hx))
 (Bd (T:=fun q=>zqs q a h k) (fun hx=>Bcj hc hx)))))))
 (Be
 (Be
 (Be
 (Be
 (Bd (T:=fun q=>zqs q a h k) (fun hx=>Bl8 hc hx))
 (Bd (T:=fun q=>zqs q a h k) (fun hx=>Bl7 hc hx)))
 (Be
 (Bd (T:=fun q=>zqs q a h k) (fun hx=>Bl6 hc hx))
 (Be
 (Bd (T:=fun q=>zqs q a h k) (fun hx=>Bl5 hc hx))
 (Bd (T:=fun q=>zqs q a h k) (fun hx=>Bci hc hx)))))
 (Be
 (Be
 (Bd (T:=fun q=>zqs q a h k) (fun hx=>Bch hc hx))
 (Bd (T:=fun q=>zqs q a h k) (fun hx=>Bbw hx)))
 (Be
 (Bd (T:=fun q=>zqs q a h k) (fun hx=>Bcg hc hx))
 (Be
 (Bd (T:=fun q=>zqs q a h k) (fun hx=>Bl4 hc hx))
 (Bd (T:=fun q=>zqs q a h k) (fun hx=>Bl3 hc hx))))))
 (Be
 (Be
 (Be
 (Bd (T:=fun q=>zqs q a h k) (fun hx=>Bl2 hc hx))
 (Bd (T:=fun q=>zqs q a h k) (fun hx=>Bl1 hc hx)))
 (Be
 (Bd (T:=fun q=>zqs q a h k) (fun hx=>Bcf hc hx))
 (Be
 (Bd (T:=fun q=>zqs q a h k) (fun hx=>Bl0 hc hx))
 (Bd (T:=fun q=>zqs q a h k) (fun hx=>Bce hc hx)))))
 (Be
 (Be
 (Bd (T:=fun q=>zqs q a h k) (fun hx=>Bcd hc hx))
 (Bd (T:=fun q=>zqs q a h k) (fun hx=>Bcc hc hx)))
 (Be
 (Bd (T:=fun q=>zqs q a h k) (fun hx=>Bcb hc hx))
 (Be
 (Bd (T:=fun q=>zqs q a h k) (fun hx=>Bca hc hx))
 (Bd (T:=fun q=>zqs q a h k) (fun hx=>Bb9 hc hx))))))))
 (Be
 (Be
 (Be
 (Be
 (Be
 (Bd (T:=fun q=>zqs q a h k) (fun hx=>Bb8 hc hx))
 (Bd (T:=fun q=>zqs q a h k) (fun hx=>Blz hc hx)))
 (Be
 (Bd (T:=fun q=>zqs q a h k) (fun hx=>Bly hc hx))
 (Be
 (Bd (T:=fun q=>zqs q a h k) (fun hx=>Blx hc hx))
 (Bd (T:=fun q=>zqs q a h k) (fun hx=>Blw hc hx)))))
 (Be
 (Be
 (Bd (T:=fun q=>zqs q a h k) (fun hx=>Bb7 hc hx))
 (Bd (T:=fun q=>zqs q a h k) (fun hx=>Bb6 hc hx)))
 (Be
 (Bd (T:=fun q=>zqs q a h k) (fun hx=>Bb5 hc hx))
 (Be
 (Bd (T:=fun q=>zqs q a h k) (fun hx=>Blv hc hx))
 (Bd (T:=fun q=>zqs q a h k) (fun hx=>Blu hc hx))))))
 (Be
 (Be
 (Be
 (Bd (T:=fun q=>zqs q a h k) (fun hx=>Blt hc hx))
 (Bd (T:=fun q=>zqs q a h k) (fun hx=>Bls hc hx)))
 (Be
 (Bd (T:=fun q=>zqs q a h k) (fun hx=>Blr hc hx))
 (Be
 (Bd (T:=fun q=>zqs q a h k) (fun hx=>Bb4 hc hx))
 (Bd (T:=fun q=>zqs q a h k) (fun hx=>Bb3 hc hx)))))
 (Be
 (Be
 (Bd (T:=fun q=>zqs q a h k) (fun hx=>Bb2 hc hx))
 (Bd (T:=fun q=>zqs q a h k) (fun hx=>Bb1 hc hx)))
 (Be
 (Bd (T:=fun q=>zqs q a h k) (fun hx=>Blq hc hx))
 (Be
 (Bd (T:=fun q=>zqs q a h k) (fun hx=>Blp hc hx))
 (Bd (T:=fun q=>zqs q a h k) (fun hx=>Blo hc hx)))))))
 (Be
 (Be
 (Be
 (Be
 (Bd (T:=fun q=>zqs q a h k) (fun hx=>Bbv hx))
 (Bd (T:=fun q=>zqs q a h k) (fun hx=>Blf hx)))
 (Be
 (Bd (T:=fun q=>zqs q a h k) (fun hx=>Bln hc hx))
 (Be
 (Bd (T:=fun q=>zqs q a h k) (fun hx=>Blm hc hx))
 (Bd (T:=fun q=>zqs q a h k) (fun hx=>Bll hc hx)))))
 (Be
 (Be
 (Bd (T:=fun q=>zqs q a h k) (fun hx=>Blk hc hx))
 (Bd (T:=fun q=>zqs q a h k) (fun hx=>Blj hc hx)))
 (Be
 (Bd (T:=fun q=>zqs q a h k) (fun hx=>Bbu hx))
 (Be
 (Bd (T:=fun q=>zqs q a h k) (fun hx=>Bbt hx))
 (Bd (T:=fun q=>zqs q a h k) (fun hx=>Bli hc hx))))))
 (Be
 (Be
 (Be
 (Bd (T:=fun q=>zqs q a h k) (fun hx=>Blh hc hx))
 (Bd (T:=fun q=>zqs q a h k) (fun hx=>Ble hx)))
 (Be
 (Bd (T:=fun q=>zqs q a h k) (fun hx=>Blg hc hx))
 (Be
 (Bd (T:=fun q=>zqs q a h k) (fun hx=>Bld hx))
 (Bd (T:=fun q=>zqs q a h k) (fun hx=>Blc hx)))))
 (Be
 (Be
 (Bd (T:=fun q=>zqs q a h k) (fun hx=>Blb hx))
 (Bd (T:=fun q=>zqs q a h k) (fun hx=>Bla hx)))
 (Be
 (Bd (T:=fun q=>zqs q a h k) (fun hx=>Bk9 hx))
 (Be
 (Bd (T:=fun q=>zqs q a h k) (fun hx=>Bk8 hx))
 (Bd (T:=fun q=>zqs q a h k) (fun hx=>Bk7 hx)))))))))) hg
theorem Abj(m:Nat):∀n,Fb Tryz.prog (CP env) G (fun p=>p) (calls m n)
 |0=>fun _ _ _ _ _ _ _ _ _ _ _ _ hg=>hg.elim
 |n+1=>fun μ h w fn fn' args vargs k s gl hf hv hg=>by
  cases fn with
  |func i=>exact Aqi (Abj m n) (show Ar1 (calls m n) m i args h k from hg) μ w fn' vargs s gl hf hv
  |yield l=>exact Ty mixed Dn (Abj m n) (show Tc env (calls m n) (Aah Tryz.prog env G) l args h k from hg) μ w fn' vargs s gl hf hv
  |_=>exact hg.elim
end Go.Den
