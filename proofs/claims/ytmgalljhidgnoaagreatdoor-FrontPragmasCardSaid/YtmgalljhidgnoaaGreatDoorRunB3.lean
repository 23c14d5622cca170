/-
 Proof. the pieces are what the program PD.
-/
import Derived.Test.YtmgalljhidgnoaaGreatDoorRunA1
import Derived.KernelRfl
namespace Go.Den
open Go.Proofs
set_option maxRecDepth 100000
variable{c:CF}{k:KV}{f:FT}{h:H}
theorem Arl(J:J11):Bb c k q11 u11 (f11 J) d11 Tryz.f11 .root f h=W9 c k J (f 0) h:=by kernel_rfl
theorem w11(b:Ay c){n:Nat}{a:List U}(d:f11 (ot c k n) 0 (Ab a) h):Al 11 a h k:=
 BR b q11 Tryz.func11 rfl (by kernel_rfl) (by kernel_rfl) k u11 (λn=>f11 (ot c k n)) (λg _ _ i=>match g,i with
  |0,i=>i
  |_+1,i=>i) (λn=>⟨
  λf h i=>Eq.mpr (Arl ..) i,
  trivial⟩) rfl d
theorem Avn(J:dR)(a b:Nat)(d g:Nat):Bb c k q15 u15 (f15 J) d15 Tryz.f15 .root (Aq (Aq f 0 (.str a b)) 1 (.str d g)) h=VT c k J a b d g h:=by kernel_rfl
theorem Arh(J:dR)(a b:Nat)(d g:Int):Bb c k q15 u15 (f15 J) d15 Tryz.f15 (.l (.r (.l (.r (.r .root))))) (Aq (Aq (Aq f 1 (.str a b)) 15 (.int .i64 d)) 16 (.int .i64 g)) h=Vm c k J a b (f 4) d g h:=by kernel_rfl
theorem w15(b:Ay c){n:Nat}{a:List U}(d:f15 (Z5 c k n) 0 (Ab a) h):Al 15 a h k:=
 BR b q15 Tryz.func15 rfl (by kernel_rfl) (by kernel_rfl) k u15 (λn=>f15 (Z5 c k n)) (λg _ _ i=>match g,i with
  |0,i=>BV i λ_ _ i=>BV i λ_ _ i=>i
  |1,i=>BV i λ_ _ i=>AT i λ_ i=>AT i λ_ i=>i
  |_+2,i=>i) (λn=>⟨
  λf h i=>by refine BT 0 i λ_ _ i=>?_;refine BT 1 i λ_ _ i=>?_;exact Eq.mpr (Avn ..) i,
  λf h i=>by refine BT 1 i λ_ _ i=>?_;refine AU 15 i λ_ i=>?_;refine AU 16 i λ_ i=>?_;exact Eq.mpr (Arh ..) i,
  trivial⟩) rfl d
theorem Avp(J:X8):Bb c k q22 u22 (f22 J) d22 Tryz.f22 .root f h=Tn c k J (f 0) h:=by kernel_rfl
theorem Asx(J:X8)(a:Int):Bb c k q22 u22 (f22 J) d22 Tryz.f22 (.l (.r (.l (.r (.r .root))))) (Aq f 4 (.int .i64 a)) h=OF c k J (f 0) (f 3) a h:=by kernel_rfl
theorem Aty(J:X8)(a:Int):Bb c k q22 u22 (f22 J) d22 Tryz.f22 (.r (.r (.l (.l (.r (.l (.r (.r .root)))))))) (Aq f 4 (.int .i64 a)) h=OJ c k J (f 0) (f 3) a h:=by kernel_rfl
theorem w22(b:Ay c){n:Nat}{a:List U}(d:f22 (PN c k n) 0 (Ab a) h):Al 22 a h k:=
 BR b q22 Tryz.func22 rfl (by kernel_rfl) (by kernel_rfl) k u22 (λn=>f22 (PN c k n)) (λg _ _ i=>match g,i with
  |0,i=>i
  |1,i=>AT i λ_ i=>i
  |2,i=>AT i λ_ i=>i
  |_+3,i=>i) (λn=>⟨
  λf h i=>Eq.mpr (Avp ..) i,
  λf h i=>by refine AU 4 i λ_ i=>?_;exact Eq.mpr (Asx ..) i,
  λf h i=>by refine AU 4 i λ_ i=>?_;exact Eq.mpr (Aty ..) i,
  trivial⟩) rfl d
theorem w31(b:Ay c){d:Nat}{a:List U}(f:Az env c q31 u31 d31 (Ax env Tryz.f31.results.toList k) d 0 (Ab a) h):Al 31 a h k:=AI mixed AO b q31 Tryz.func31 rfl (by kernel_rfl) (by kernel_rfl) (by kernel_rfl) (by simp[u31]) f
theorem Atk(J:J34):Bb c k q34 u34 (f34 J) d34 Tryz.f34 .root f h=W5 c k J  h:=by kernel_rfl
theorem w34(b:Ay c){n:Nat}{a:List U}(d:f34 (sx c k n) 0 (Ab a) h):Al 34 a h k:=
 BR b q34 Tryz.func34 rfl (by kernel_rfl) (by kernel_rfl) k u34 (λn=>f34 (sx c k n)) (λg _ _ i=>match g,i with
  |0,i=>i
  |_+1,i=>i) (λn=>⟨
  λf h i=>Eq.mpr (Atk ..) i,
  trivial⟩) rfl d
theorem Awl(J:qd)(a:Int):Bb c k q46 u46 (f46 J) d46 Tryz.f46 .root (Aq f 0 (.int .u8 a)) h=XC c k J a h:=by kernel_rfl
theorem w46(b:Ay c){n:Nat}{a:List U}(d:f46 (mH c k n) 0 (Ab a) h):Al 46 a h k:=
 BR b q46 Tryz.func46 rfl (by kernel_rfl) (by kernel_rfl) k u46 (λn=>f46 (mH c k n)) (λg _ _ i=>match g,i with
  |0,i=>AT i λ_ i=>i
  |_+1,i=>i) (λn=>⟨
  λf h i=>by refine AU 0 i λ_ i=>?_;exact Eq.mpr (Awl ..) i,
  trivial⟩) rfl d
theorem w52(b:Ay c){d:Nat}{a:List U}(f:Az env c q52 u52 d52 (Ax env Tryz.f52.results.toList k) d 0 (Ab a) h):Al 52 a h k:=AI mixed AO b q52 Tryz.func52 rfl (by kernel_rfl) (by kernel_rfl) (by kernel_rfl) (by simp[u52]) f
theorem Atn(J:qB):Bb c k q54 u54 (f54 J) d54 Tryz.f54 .root f h=XE c k J (f 0) h:=by kernel_rfl
theorem w54(b:Ay c){n:Nat}{a:List U}(d:f54 (r54 c k n) 0 (Ab a) h):Al 54 a h k:=
 BR b q54 Tryz.func54 rfl (by kernel_rfl) (by kernel_rfl) k u54 (λn=>f54 (r54 c k n)) (λg _ _ i=>match g,i with
  |0,i=>i
  |_+1,i=>i) (λn=>⟨
  λf h i=>Eq.mpr (Atn ..) i,
  trivial⟩) rfl d
theorem Aux(J:J55)(a b:Nat):Bb c k q55 u55 (f55 J) d55 Tryz.f55 .root (Aq f 0 (.str a b)) h=X0 c k J a b h:=by kernel_rfl
theorem w55(b:Ay c){n:Nat}{a:List U}(d:f55 (r55 c k n) 0 (Ab a) h):Al 55 a h k:=
 BR b q55 Tryz.func55 rfl (by kernel_rfl) (by kernel_rfl) k u55 (λn=>f55 (r55 c k n)) (λg _ _ i=>match g,i with
  |0,i=>BV i λ_ _ i=>i
  |_+1,i=>i) (λn=>⟨
  λf h i=>by refine BT 0 i λ_ _ i=>?_;exact Eq.mpr (Aux ..) i,
  trivial⟩) rfl d
theorem Awz(J:St):Bb c k q62 oR (f62 J) d62 Tryz.f62 .root f h=V0 c k J (f 0) (f 1) h:=by kernel_rfl
theorem Awc(J:St)(a:Int):Bb c k q62 oR (f62 J) d62 Tryz.f62 (.l (.r (.r .root))) (Aq f 5 (.int .i64 a)) h=OQ c k J (f 0) (f 1) (f 4) a h:=by kernel_rfl
theorem Axc(J:St)(a b:Int):Bb c k q62 oR (f62 J) d62 Tryz.f62 (.l (.l (.r (.r (.r (.r (.l (.r (.l (.l (.r (.r .root)))))))))))) (Aq (Aq f 5 (.int .i64 a)) 8 (.int .i64 b)) h=Tk c k J (f 0) (f 1) (f 4) a (f 7) b h:=by kernel_rfl
theorem Awk(J:St)(a b:Int):Bb c k q62 oR (f62 J) d62 Tryz.f62 (.r (.r (.l (.l (.l (.r (.r (.r (.r (.l (.r (.l (.l (.r (.r .root))))))))))))))) (Aq (Aq f 5 (.int .i64 a)) 8 (.int .i64 b)) h=VE c k J (f 0) (f 1) (f 4) a (f 7) b h:=by kernel_rfl
theorem w62(b:Ay c){n:Nat}{a:List U}(d:f62 (HN c k n) 0 (Ab a) h):Al 62 a h k:=
 BR b q62 Tryz.func62 rfl (by kernel_rfl) (by kernel_rfl) k oR (λn=>f62 (HN c k n)) (λg _ _ i=>match g,i with
  |0,i=>i
  |1,i=>AT i λ_ i=>i
  |2,i=>AT i λ_ i=>AT i λ_ i=>i
  |3,i=>AT i λ_ i=>AT i λ_ i=>i
  |_+4,i=>i) (λn=>⟨
  λf h i=>Eq.mpr (Awz ..) i,
  λf h i=>by refine AU 5 i λ_ i=>?_;exact Eq.mpr (Awc ..) i,
  λf h i=>by refine AU 5 i λ_ i=>?_;refine AU 8 i λ_ i=>?_;exact Eq.mpr (Axc ..) i,
  λf h i=>by refine AU 5 i λ_ i=>?_;refine AU 8 i λ_ i=>?_;exact Eq.mpr (Awk ..) i,
  trivial⟩) rfl d
theorem Avu(J:sX)(a:Int):Bb c k q63 u63 (f63 J) d63 Tryz.f63 .root (Aq f 1 (.int .i64 a)) h=Vt c k J (f 0) a (f 2) h:=by kernel_rfl
theorem w63(b:Ay c){n:Nat}{a:List U}(d:f63 (r63 c k n) 0 (Ab a) h):Al 63 a h k:=
 BR b q63 Tryz.func63 rfl (by kernel_rfl) (by kernel_rfl) k u63 (λn=>f63 (r63 c k n)) (λg _ _ i=>match g,i with
  |0,i=>AT i λ_ i=>i
  |_+1,i=>i) (λn=>⟨
  λf h i=>by refine AU 1 i λ_ i=>?_;exact Eq.mpr (Avu ..) i,
  trivial⟩) rfl d
theorem w65(b:Ay c){d:Nat}{a:List U}(f:Az env c q65 u65 d65 (Ax env Tryz.f65.results.toList k) d 0 (Ab a) h):Al 65 a h k:=AI mixed AO b q65 Tryz.func65 rfl (by kernel_rfl) (by kernel_rfl) (by kernel_rfl) (by simp[u65]) f
theorem Aro(J:J70)(a:Int):Bb c k q70 u70 (f70 J) d70 Tryz.f70 .root (Aq f 1 (.int .i64 a)) h=Vn c k J (f 0) a h:=by kernel_rfl
theorem w70(b:Ay c){n:Nat}{a:List U}(d:f70 (pO c k n) 0 (Ab a) h):Al 70 a h k:=
 BR b q70 Tryz.func70 rfl (by kernel_rfl) (by kernel_rfl) k u70 (λn=>f70 (pO c k n)) (λg _ _ i=>match g,i with
  |0,i=>AT i λ_ i=>i
  |_+1,i=>i) (λn=>⟨
  λf h i=>by refine AU 1 i λ_ i=>?_;exact Eq.mpr (Aro ..) i,
  trivial⟩) rfl d
theorem Aub(J:dQ):Bb c k q71 u71 (f71 J) d71 Tryz.f71 .root f h=WO c k J (f 0) (f 1) h:=by kernel_rfl
theorem Avq(J:dQ):Bb c k q71 u71 (f71 J) d71 Tryz.f71 (.r (.r (.r (.r .root)))) f h=VA c k J (f 0) (f 3) h:=by kernel_rfl
theorem w71(b:Ay c){n:Nat}{a:List U}(d:f71 (ct c k n) 0 (Ab a) h):Al 71 a h k:=
 BR b q71 Tryz.func71 rfl (by kernel_rfl) (by kernel_rfl) k u71 (λn=>f71 (ct c k n)) (λg _ _ i=>match g,i with
  |0,i=>i
  |1,i=>i
  |_+2,i=>i) (λn=>⟨
  λf h i=>Eq.mpr (Aub ..) i,
  λf h i=>Eq.mpr (Avq ..) i,
  trivial⟩) rfl d
theorem Asi(J:J79):Bb c k q79 u79 (f79 J) d79 Tryz.f79 .root f h=Vz c k J (f 0) (f 1) h:=by kernel_rfl
theorem w79(b:Ay c){n:Nat}{a:List U}(d:f79 (r79 c k n) 0 (Ab a) h):Al 79 a h k:=
 BR b q79 Tryz.func79 rfl (by kernel_rfl) (by kernel_rfl) k u79 (λn=>f79 (r79 c k n)) (λg _ _ i=>match g,i with
  |0,i=>i
  |_+1,i=>i) (λn=>⟨
  λf h i=>Eq.mpr (Asi ..) i,
  trivial⟩) rfl d
theorem Asp(J:J80)(a b:Nat):Bb c k q80 u80 (f80 J) d80 Tryz.f80 .root (Aq f 0 (.str a b)) h=Ya c k J a b (f 1) h:=by kernel_rfl
theorem w80(b:Ay c){n:Nat}{a:List U}(d:f80 (r80 c k n) 0 (Ab a) h):Al 80 a h k:=
 BR b q80 Tryz.func80 rfl (by kernel_rfl) (by kernel_rfl) k u80 (λn=>f80 (r80 c k n)) (λg _ _ i=>match g,i with
  |0,i=>BV i λ_ _ i=>i
  |_+1,i=>i) (λn=>⟨
  λf h i=>by refine BT 0 i λ_ _ i=>?_;exact Eq.mpr (Asp ..) i,
  trivial⟩) rfl d
theorem w89(b:Ay c){d:Nat}{a:List U}(f:Az env c q89 u89 d89 (Ax env Tryz.f89.results.toList k) d 0 (Ab a) h):Al 89 a h k:=AI mixed AO b q89 Tryz.func89 rfl (by kernel_rfl) (by kernel_rfl) (by kernel_rfl) (by simp[u89]) f
theorem Avg(J:bO)(a b:Nat):Bb c k q90 u90 (f90 J) d90 Tryz.f90 .root (Aq f 0 (.str a b)) h=cP c k J a b h:=by kernel_rfl
theorem Auc(J:bO)(a b:Nat)(d:Int):Bb c k q90 u90 (f90 J) d90 Tryz.f90 (.lab (.r .root) 0) (Aq (Aq f 0 (.str a b)) 3 (.int .i64 d)) h=Pl c k J a b (f 2) d h:=by kernel_rfl
theorem w90(b:Ay c){n:Nat}{a:List U}(d:f90 (T7 c k n) 0 (Ab a) h):Al 90 a h k:=
 BR b q90 Tryz.func90 rfl (by kernel_rfl) (by kernel_rfl) k u90 (λn=>f90 (T7 c k n)) (λg _ _ i=>match g,i with
  |0,i=>BV i λ_ _ i=>i
  |1,i=>BV i λ_ _ i=>AT i λ_ i=>i
  |_+2,i=>i) (λn=>⟨
  λf h i=>by refine BT 0 i λ_ _ i=>?_;exact Eq.mpr (Avg ..) i,
  λf h i=>by refine BT 0 i λ_ _ i=>?_;refine AU 3 i λ_ i=>?_;exact Eq.mpr (Auc ..) i,
  trivial⟩) rfl d
theorem Aug(J:Na):Bb c k dY dv (f91 J) d91 Tryz.f91 .root f h=Xq c k J (f 0) h:=by kernel_rfl
theorem Asz(J:Na)(a:Bool)(b d:Int)(g i:Int):Bb c k dY dv (f91 J) d91 Tryz.f91 (.l (.r (.l (.r (.r (.r (.r (.r (.r (.r (.r (.l (.r .root))))))))))))) (Aq (Aq (Aq (Aq (Aq f 3 (.bool a)) 7 (.int .i64 b)) 8 (.int .i64 d)) 87 (.int .i64 g)) 88 (.int .i64 i)) h=Wp c k J (f 0) (f 2) a (f 5) b d (f 86) g i h:=by kernel_rfl
theorem Asf(J:Na)(a b:Bool):Bb c k dY dv (f91 J) d91 Tryz.f91 (.lab (.r .root) 1) (Aq (Aq f 3 (.bool a)) 4 (.bool b)) h=Xf c k J (f 0) (f 2) a b (f 5) h:=by kernel_rfl
theorem Ark(J:Na)(a:Bool)(b d:Int)(g i:Int):Bb c k dY dv (f91 J) d91 Tryz.f91 (.l (.r (.l (.r (.r (.r (.r (.r (.lab (.r .root) 1))))))))) (Aq (Aq (Aq (Aq (Aq f 3 (.bool a)) 7 (.int .i64 b)) 8 (.int .i64 d)) 87 (.int .i64 g)) 88 (.int .i64 i)) h=WG c k J (f 0) (f 2) a (f 5) b d (f 86) g i h:=by kernel_rfl
theorem Axt(J:Na)(a b:Bool):Bb c k dY dv (f91 J) d91 Tryz.f91 (.lab (.r .root) 0) (Aq (Aq f 3 (.bool a)) 4 (.bool b)) h=RF c k J (f 2) a b h:=by kernel_rfl
theorem Awy(J:Na)(a b d:Bool):Bb c k dY dv (f91 J) d91 Tryz.f91 (.r (.l (.r (.r (.r (.r (.r (.r (.l (.r .root)))))))))) (Aq (Aq (Aq f 3 (.bool a)) 4 (.bool b)) 6 (.bool d)) h=Vv c k J (f 0) (f 2) a b (f 5) d h:=by kernel_rfl
theorem w91(b:Ay c){n:Nat}{a:List U}(d:f91 (Jw c k n) 0 (Ab a) h):Al 91 a h k:=
 BR b dY Tryz.func91 rfl (by kernel_rfl) (by kernel_rfl) k dv (λn=>f91 (Jw c k n)) (λg _ _ i=>match g,i with
  |0,i=>i
  |1,i=>Hh i λ_ i=>AT i λ_ i=>AT i λ_ i=>AT i λ_ i=>AT i λ_ i=>i
  |2,i=>Hh i λ_ i=>Hh i λ_ i=>i
  |3,i=>Hh i λ_ i=>AT i λ_ i=>AT i λ_ i=>AT i λ_ i=>AT i λ_ i=>i
  |4,i=>Hh i λ_ i=>Hh i λ_ i=>i
  |5,i=>Hh i λ_ i=>Hh i λ_ i=>Hh i λ_ i=>i
  |_+6,i=>i) (λn=>⟨
  λf h i=>Eq.mpr (Aug ..) i,
  λf h i=>by refine Ha 3 i λ_ i=>?_;refine AU 7 i λ_ i=>?_;refine AU 8 i λ_ i=>?_;refine AU 87 i λ_ i=>?_;refine AU 88 i λ_ i=>?_;exact Eq.mpr (Asz ..) i,
  λf h i=>by refine Ha 3 i λ_ i=>?_;refine Ha 4 i λ_ i=>?_;exact Eq.mpr (Asf ..) i,
  λf h i=>by refine Ha 3 i λ_ i=>?_;refine AU 7 i λ_ i=>?_;refine AU 8 i λ_ i=>?_;refine AU 87 i λ_ i=>?_;refine AU 88 i λ_ i=>?_;exact Eq.mpr (Ark ..) i,
  λf h i=>by refine Ha 3 i λ_ i=>?_;refine Ha 4 i λ_ i=>?_;exact Eq.mpr (Axt ..) i,
  λf h i=>by refine Ha 3 i λ_ i=>?_;refine Ha 4 i λ_ i=>?_;refine Ha 6 i λ_ i=>?_;exact Eq.mpr (Awy ..) i,
  trivial⟩) rfl d
theorem w99(b:Ay c){d:Nat}{a:List U}(f:Az env c q99 u99 d99 (Ax env Tryz.f99.results.toList k) d 0 (Ab a) h):Al 99 a h k:=AI mixed AO b q99 Tryz.func99 rfl (by kernel_rfl) (by kernel_rfl) (by kernel_rfl) (by simp[u99]) f
theorem Ahl(J:YI):Bb c k Aoe Ann (f104 J) d104 Tryz.f104 .root f h=QB c k J (f 0) h:=by kernel_rfl
theorem Aou(b:Ay c){n:Nat}{a:List U}(d:f104 (ZM c k n) 0 (Ab a) h):Al 104 a h k:=
 BR b Aoe Tryz.func104 rfl (by kernel_rfl) (by kernel_rfl) k Ann (λn=>f104 (ZM c k n)) (λg _ _ i=>match g,i with
  |0,i=>i
  |_+1,i=>i) (λn=>⟨
  λf h i=>Eq.mpr (Ahl ..) i,
  trivial⟩) rfl d
theorem Age(J:Ze)(a b:Nat):Bb c k Aom Apu (f108 J) d108 Tryz.f108 .root (Aq f 1 (.str a b)) h=Oe c k J (f 0) a b h:=by kernel_rfl
theorem oe(b:Ay c){n:Nat}{a:List U}(d:f108 (Y7 c k n) 0 (Ab a) h):Al 108 a h k:=
 BR b Aom Tryz.func108 rfl (by kernel_rfl) (by kernel_rfl) k Apu (λn=>f108 (Y7 c k n)) (λg _ _ i=>match g,i with
  |0,i=>BV i λ_ _ i=>i
  |_+1,i=>i) (λn=>⟨
  λf h i=>by refine BT 1 i λ_ _ i=>?_;exact Eq.mpr (Age ..) i,
  trivial⟩) rfl d
theorem Bbw(b:Ay c){d:Nat}{a:List U}(f:Az env c Abe uO d122 (Ax env Tryz.f122.results.toList k) d 0 (Ab a) h):Al 122 a h k:=AI mixed AO b Abe Tryz.func122 rfl (by kernel_rfl) (by kernel_rfl) (by kernel_rfl) (by simp[uO]) f
theorem Ajp(J:SM)(a:Int):Bb c k pE od (f130 J) d130 Tryz.f130 .root (Aq f 1 (.int .i64 a)) h=NF c k J (f 0) a (f 2) h:=by kernel_rfl
theorem Aiq(J:SM):Bb c k pE od (f130 J) d130 Tryz.f130 (.r (.r .root)) f h=ND c k J (f 0) h:=by kernel_rfl
theorem oI(b:Ay c){n:Nat}{a:List U}(d:f130 (SO c k n) 0 (Ab a) h):Al 130 a h k:=
 BR b pE Tryz.func130 rfl (by kernel_rfl) (by kernel_rfl) k od (λn=>f130 (SO c k n)) (λg _ _ i=>match g,i with
  |0,i=>AT i λ_ i=>i
  |1,i=>i
  |_+2,i=>i) (λn=>⟨
  λf h i=>by refine AU 1 i λ_ i=>?_;exact Eq.mpr (Ajp ..) i,
  λf h i=>Eq.mpr (Aiq ..) i,
  trivial⟩) rfl d
theorem Bcb(b:Ay c){d:Nat}{a:List U}(f:Az env c tV Aau d145 (Ax env Tryz.f145.results.toList k) d 0 (Ab a) h):Al 145 a h k:=AI mixed AO b tV Tryz.func145 rfl (by kernel_rfl) (by kernel_rfl) (by kernel_rfl) (by simp[Aau]) f
theorem Aym(b:Ay c){d:Nat}{a:List U}(f:Az env c qY uf d150 (Ax env Tryz.f150.results.toList k) d 0 (Ab a) h):Al 150 a h k:=AI mixed AO b qY Tryz.func150 rfl (by kernel_rfl) (by kernel_rfl) (by kernel_rfl) (by simp[uf]) f
theorem Ayx(b:Ay c){d:Nat}{a:List U}(f:Az env c ux Adk d156 (Ax env Tryz.f156.results.toList k) d 0 (Ab a) h):Al 156 a h k:=AI mixed AO b ux Tryz.func156 rfl (by kernel_rfl) (by kernel_rfl) (by kernel_rfl) (by simp[Adk]) f
theorem Agu(J:Yn)(a b:Nat)(d g:Nat):Bb c k Alk Amz (f170 J) d170 Tryz.f170 .root (Aq (Aq f 0 (.str a b)) 1 (.str d g)) h=Wi c k J a b d g h:=by kernel_rfl
theorem Ami(b:Ay c){n:Nat}{a:List U}(d:f170 (YE c k n) 0 (Ab a) h):Al 170 a h k:=
 BR b Alk Tryz.func170 rfl (by kernel_rfl) (by kernel_rfl) k Amz (λn=>f170 (YE c k n)) (λg _ _ i=>match g,i with
  |0,i=>BV i λ_ _ i=>BV i λ_ _ i=>i
  |_+1,i=>i) (λn=>⟨
  λf h i=>by refine BT 0 i λ_ _ i=>?_;refine BT 1 i λ_ _ i=>?_;exact Eq.mpr (Agu ..) i,
  trivial⟩) rfl d
theorem Akl(J:Zs)(a:Int):Bb c k Alr Aow (f171 J) d171 Tryz.f171 .root (Aq f 0 (.int .u8 a)) h=P3 c k J a h:=by kernel_rfl
theorem Amh(b:Ay c){n:Nat}{a:List U}(d:f171 (Zd c k n) 0 (Ab a) h):Al 171 a h k:=
 BR b Alr Tryz.func171 rfl (by kernel_rfl) (by kernel_rfl) k Aow (λn=>f171 (Zd c k n)) (λg _ _ i=>match g,i with
  |0,i=>AT i λ_ i=>i
  |_+1,i=>i) (λn=>⟨
  λf h i=>by refine AU 0 i λ_ i=>?_;exact Eq.mpr (Akl ..) i,
  trivial⟩) rfl d
theorem Ahe(J:YK)(a:Int):Bb c k Apw Anr (f175 J) d175 Tryz.f175 .root (Aq f 1 (.int .i64 a)) h=QA c k J (f 0) a h:=by kernel_rfl
theorem Aox(b:Ay c){n:Nat}{a:List U}(d:f175 (YX c k n) 0 (Ab a) h):Al 175 a h k:=
 BR b Apw Tryz.func175 rfl (by kernel_rfl) (by kernel_rfl) k Anr (λn=>f175 (YX c k n)) (λg _ _ i=>match g,i with
  |0,i=>AT i λ_ i=>i
  |_+1,i=>i) (λn=>⟨
  λf h i=>by refine AU 1 i λ_ i=>?_;exact Eq.mpr (Ahe ..) i,
  trivial⟩) rfl d
theorem Akk(J:Sh):Bb c k lZ uu (f178 J) d178 Tryz.f178 .root f h=QU c k J (f 0) h:=by kernel_rfl
theorem Agq(J:Sh)(a b:Int):Bb c k lZ uu (f178 J) d178 Tryz.f178 (.l (.r (.l (.r (.r .root))))) (Aq (Aq f 9 (.int .i64 a)) 10 (.int .i64 b)) h=QH c k J (f 0) (f 8) a b h:=by kernel_rfl
theorem Alu(b:Ay c){n:Nat}{a:List U}(d:f178 (Pz c k n) 0 (Ab a) h):Al 178 a h k:=
 BR b lZ Tryz.func178 rfl (by kernel_rfl) (by kernel_rfl) k uu (λn=>f178 (Pz c k n)) (λg _ _ i=>match g,i with
  |0,i=>i
  |1,i=>AT i λ_ i=>AT i λ_ i=>i
  |_+2,i=>i) (λn=>⟨
  λf h i=>Eq.mpr (Akk ..) i,
  λf h i=>by refine AU 9 i λ_ i=>?_;refine AU 10 i λ_ i=>?_;exact Eq.mpr (Agq ..) i,
  trivial⟩) rfl d
theorem Baz(b:Ay c){d:Nat}{a:List U}(f:Az env c mb Acy d190 (Ax env Tryz.f190.results.toList k) d 0 (Ab a) h):Al 190 a h k:=AI mixed AO b mb Tryz.func190 rfl (by kernel_rfl) (by kernel_rfl) (by kernel_rfl) (by simp[Acy]) f
theorem Ahx(J:aT):Bb c k Apf Anb (f198 J) d198 Tryz.f198 .root f h=QJ c k J (f 0) h:=by kernel_rfl
theorem Apa(b:Ay c){n:Nat}{a:List U}(d:f198 (ao c k n) 0 (Ab a) h):Al 198 a h k:=
 BR b Apf Tryz.func198 rfl (by kernel_rfl) (by kernel_rfl) k Anb (λn=>f198 (ao c k n)) (λg _ _ i=>match g,i with
  |0,i=>i
  |_+1,i=>i) (λn=>⟨
  λf h i=>Eq.mpr (Ahx ..) i,
  trivial⟩) rfl d
theorem Bfc(b:Ay c){d:Nat}{a:List U}(f:Az env c Aag lS d201 (Ax env Tryz.f201.results.toList k) d 0 (Ab a) h):Al 201 a h k:=AI mixed AO b Aag Tryz.func201 rfl (by kernel_rfl) (by kernel_rfl) (by kernel_rfl) (by simp[lS]) f
theorem Ayr(b:Ay c){d:Nat}{a:List U}(f:Az env c rU Acx d206 (Ax env Tryz.f206.results.toList k) d 0 (Ab a) h):Al 206 a h k:=AI mixed AO b rU Tryz.func206 rfl (by kernel_rfl) (by kernel_rfl) (by kernel_rfl) (by simp[Acx]) f
theorem Akn(J:YU)(a b:Nat)(d:Int):Bb c k Amp Alo (f215 J) d215 Tryz.f215 .root (Aq (Aq f 0 (.str a b)) 1 (.int .u8 d)) h=Qp c k J a b d h:=by kernel_rfl
theorem Amc(b:Ay c){n:Nat}{a:List U}(d:f215 (YL c k n) 0 (Ab a) h):Al 215 a h k:=
 BR b Amp Tryz.func215 rfl (by kernel_rfl) (by kernel_rfl) k Alo (λn=>f215 (YL c k n)) (λg _ _ i=>match g,i with
  |0,i=>BV i λ_ _ i=>AT i λ_ i=>i
  |_+1,i=>i) (λn=>⟨
  λf h i=>by refine BT 0 i λ_ _ i=>?_;refine AU 1 i λ_ i=>?_;exact Eq.mpr (Akn ..) i,
  trivial⟩) rfl d
theorem Aev(J:Sp):Bb c k Acl mu (f216 J) d216 Tryz.f216 .root f h=QP c k J (f 0) h:=by kernel_rfl
theorem Aiu(J:Sp)(a b:Int):Bb c k Acl mu (f216 J) d216 Tryz.f216 (.l (.r (.l (.r .root)))) (Aq (Aq f 7 (.int .i64 a)) 8 (.int .i64 b)) h=P5 c k J (f 0) (f 6) a b h:=by kernel_rfl
theorem Aqj(b:Ay c){n:Nat}{a:List U}(d:f216 (PH c k n) 0 (Ab a) h):Al 216 a h k:=
 BR b Acl Tryz.func216 rfl (by kernel_rfl) (by kernel_rfl) k mu (λn=>f216 (PH c k n)) (λg _ _ i=>match g,i with
  |0,i=>i
  |1,i=>AT i λ_ i=>AT i λ_ i=>i
  |_+2,i=>i) (λn=>⟨
  λf h i=>Eq.mpr (Aev ..) i,
  λf h i=>by refine AU 7 i λ_ i=>?_;refine AU 8 i λ_ i=>?_;exact Eq.mpr (Aiu ..) i,
  trivial⟩) rfl d
theorem Afp(J:Ns)(a:Int):Bb c k gw gu (f217 J) d217 Tryz.f217 .root (Aq f 1 (.int .i64 a)) h=QE c k J (f 0) a h:=by kernel_rfl
theorem Aga(J:Ns)(a b:Int):Bb c k gw gu (f217 J) d217 Tryz.f217 (.l (.r (.l (.r (.r .root))))) (Aq (Aq f 5 (.int .u8 a)) 6 (.int .i64 b)) h=Q6 c k J (f 0) a b h:=by kernel_rfl
theorem Aik(J:Ns)(a b:Int):Bb c k gw gu (f217 J) d217 Tryz.f217 (.r (.r (.l (.l (.r (.l (.r (.r .root)))))))) (Aq (Aq f 5 (.int .u8 a)) 6 (.int .i64 b)) h=QF c k J (f 0) a b h:=by kernel_rfl
theorem Aon(b:Ay c){n:Nat}{a:List U}(d:f217 (Lr c k n) 0 (Ab a) h):Al 217 a h k:=
 BR b gw Tryz.func217 rfl (by kernel_rfl) (by kernel_rfl) k gu (λn=>f217 (Lr c k n)) (λg _ _ i=>match g,i with
  |0,i=>AT i λ_ i=>i
  |1,i=>AT i λ_ i=>AT i λ_ i=>i
  |2,i=>AT i λ_ i=>AT i λ_ i=>i
  |_+3,i=>i) (λn=>⟨
  λf h i=>by refine AU 1 i λ_ i=>?_;exact Eq.mpr (Afp ..) i,
  λf h i=>by refine AU 5 i λ_ i=>?_;refine AU 6 i λ_ i=>?_;exact Eq.mpr (Aga ..) i,
  λf h i=>by refine AU 5 i λ_ i=>?_;refine AU 6 i λ_ i=>?_;exact Eq.mpr (Aik ..) i,
  trivial⟩) rfl d
theorem Azp(b:Ay c){d:Nat}{a:List U}(f:Az env c nY ny d224 (Ax env Tryz.f224.results.toList k) d 0 (Ab a) h):Al 224 a h k:=AI mixed AO b nY Tryz.func224 rfl (by kernel_rfl) (by kernel_rfl) (by kernel_rfl) (by simp[ny]) f
theorem Ayq(b:Ay c){d:Nat}{a:List U}(f:Az env c Adg tJ d236 (Ax env Tryz.f236.results.toList k) d 0 (Ab a) h):Al 236 a h k:=AI mixed AO b Adg Tryz.func236 rfl (by kernel_rfl) (by kernel_rfl) (by kernel_rfl) (by simp[tJ]) f
theorem Azz(b:Ay c){d:Nat}{a:List U}(f:Az env c nG Adj d243 (Ax env Tryz.f243.results.toList k) d 0 (Ab a) h):Al 243 a h k:=AI mixed AO b nG Tryz.func243 rfl (by kernel_rfl) (by kernel_rfl) (by kernel_rfl) (by simp[Adj]) f
theorem Ayw(b:Ay c){d:Nat}{a:List U}(f:Az env c tO Abh d258 (Ax env Tryz.f258.results.toList k) d 0 (Ab a) h):Al 258 a h k:=AI mixed AO b tO Tryz.func258 rfl (by kernel_rfl) (by kernel_rfl) (by kernel_rfl) (by simp[Abh]) f
theorem Bhm(b:Ay c){d:Nat}{a:List U}(f:Az env c Adw uA d263 (Ax env Tryz.f263.results.toList k) d 0 (Ab a) h):Al 263 a h k:=AI mixed AO b Adw Tryz.func263 rfl (by kernel_rfl) (by kernel_rfl) (by kernel_rfl) (by simp[uA]) f
theorem Bck(b:Ay c){d:Nat}{a:List U}(f:Az env c mv nP d285 (Ax env Tryz.f285.results.toList k) d 0 (Ab a) h):Al 285 a h k:=AI mixed AO b mv Tryz.func285 rfl (by kernel_rfl) (by kernel_rfl) (by kernel_rfl) (by simp[nP]) f
theorem Ayi(b:Ay c){d:Nat}{a:List U}(f:Az env c rY Abb d292 (Ax env Tryz.f292.results.toList k) d 0 (Ab a) h):Al 292 a h k:=AI mixed AO b rY Tryz.func292 rfl (by kernel_rfl) (by kernel_rfl) (by kernel_rfl) (by simp[Abb]) f
theorem Bgj(b:Ay c){d:Nat}{a:List U}(f:Az env c qp nw d297 (Ax env Tryz.f297.results.toList k) d 0 (Ab a) h):Al 297 a h k:=AI mixed AO b qp Tryz.func297 rfl (by kernel_rfl) (by kernel_rfl) (by kernel_rfl) (by simp[nw]) f
theorem Bhp(b:Ay c){d:Nat}{a:List U}(f:Az env c ri uw d307 (Ax env Tryz.f307.results.toList k) d 0 (Ab a) h):Al 307 a h k:=AI mixed AO b ri Tryz.func307 rfl (by kernel_rfl) (by kernel_rfl) (by kernel_rfl) (by simp[uw]) f
theorem Bgz(b:Ay c){d:Nat}{a:List U}(f:Az env c ov rI d326 (Ax env Tryz.f326.results.toList k) d 0 (Ab a) h):Al 326 a h k:=AI mixed AO b ov Tryz.func326 rfl (by kernel_rfl) (by kernel_rfl) (by kernel_rfl) (by simp[rI]) f
theorem Bhj(b:Ay c){d:Nat}{a:List U}(f:Az env c nU Adq d347 (Ax env Tryz.f347.results.toList k) d 0 (Ab a) h):Al 347 a h k:=AI mixed AO b nU Tryz.func347 rfl (by kernel_rfl) (by kernel_rfl) (by kernel_rfl) (by simp[Adq]) f
theorem Bcg(b:Ay c){d:Nat}{a:List U}(f:Az env c uq mG d358 (Ax env Tryz.f358.results.toList k) d 0 (Ab a) h):Al 358 a h k:=AI mixed AO b uq Tryz.func358 rfl (by kernel_rfl) (by kernel_rfl) (by kernel_rfl) (by simp[mG]) f
end Go.Den
