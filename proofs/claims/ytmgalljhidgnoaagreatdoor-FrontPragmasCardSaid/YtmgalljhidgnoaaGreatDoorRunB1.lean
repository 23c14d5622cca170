/-
 Proof. the pieces are what the program PD.
-/
import Derived.Test.YtmgalljhidgnoaaGreatDoorRunA1
import Derived.KernelRfl
namespace Go.Den
open Go.Proofs
set_option maxRecDepth 100000
variable{c:CF}{k:KV}{f:FT}{h:H}
theorem Axz(J:J3)(a:Int)(b d:Nat)(g:Int):Bb c k q3 u3 (f3 J) d3 Tryz.f3 .root (Aq (Aq (Aq f 0 (.int .i64 a)) 1 (.str b d)) 2 (.int .i64 g)) h=gz c k J a b d g h:=by kernel_rfl
theorem Bcv(J:J3)(a:Int)(b d:Nat)(g i:Int):Bb c k q3 u3 (f3 J) d3 Tryz.f3 (.l (.r (.l (.r (.r .root))))) (Aq (Aq (Aq (Aq f 0 (.int .i64 a)) 1 (.str b d)) 2 (.int .i64 g)) 7 (.int .i64 i)) h=Zg c k J a b d g i h:=by kernel_rfl
theorem Ayu(J:J3)(a:Int)(b d:Nat)(g:Int)(i j:Nat)(l:Int):Bb c k q3 u3 (f3 J) d3 Tryz.f3 (.l (.r (.l (.r (.r (.r (.r .root))))))) (Aq (Aq (Aq (Aq (Aq f 0 (.int .i64 a)) 1 (.str b d)) 2 (.int .i64 g)) 8 (.str i j)) 9 (.int .i64 l)) h=Zn c k J a b d g i j l h:=by kernel_rfl
theorem Beh(J:J3)(a b:Nat)(d g:Nat)(i:Int):Bb c k q3 u3 (f3 J) d3 Tryz.f3 (.l (.r (.l (.r (.r (.r (.r (.r (.r (.r (.r (.r (.r (.r (.r .root))))))))))))))) (Aq (Aq (Aq f 8 (.str a b)) 16 (.str d g)) 17 (.int .i64 i)) h=jg c k J a b (f 13) d g i h:=by kernel_rfl
theorem Bdf(J:J3)(a b:Nat)(d g:Nat):Bb c k q3 u3 (f3 J) d3 Tryz.f3 (.r (.r (.r (.r (.r (.r (.r (.r (.r (.r (.r (.r .root)))))))))))) (Aq (Aq f 8 (.str a b)) 16 (.str d g)) h=fD c k J a b (f 13) d g h:=by kernel_rfl
theorem Bby(J:J3)(a b:Nat)(d g:Nat)(i:Bool):Bb c k q3 u3 (f3 J) d3 Tryz.f3 (.r (.l (.r (.r (.r (.r (.r (.r (.r (.r (.r (.r (.r .root))))))))))))) (Aq (Aq (Aq f 8 (.str a b)) 16 (.str d g)) 109 (.bool i)) h=bM c k J a b (f 13) (f 14) d g i h:=by kernel_rfl
theorem Bce(J:J3)(a b:Nat)(d g:Nat)(i:Int):Bb c k q3 u3 (f3 J) d3 Tryz.f3 (.r (.r (.l (.l (.r (.l (.r (.r (.r (.r (.r (.r (.r (.r (.r (.r (.r (.r .root)))))))))))))))))) (Aq (Aq (Aq f 8 (.str a b)) 16 (.str d g)) 17 (.int .i64 i)) h=gg c k J a b (f 13) d g i h:=by kernel_rfl
theorem w3(b:Ay c){n:Nat}{a:List U}(d:f3 (r3 c k n) 0 (Ab a) h):Al 3 a h k:=
 BR b q3 Tryz.func3 rfl (by kernel_rfl) (by kernel_rfl) k u3 (λn=>f3 (r3 c k n)) (λL _ _ g=>match L,g with
  |0,g=>AT g λ_ g=>BV g λ_ _ g=>AT g λ_ g=>g
  |1,g=>AT g λ_ g=>BV g λ_ _ g=>AT g λ_ g=>AT g λ_ g=>g
  |2,g=>AT g λ_ g=>BV g λ_ _ g=>AT g λ_ g=>BV g λ_ _ g=>AT g λ_ g=>g
  |3,g=>BV g λ_ _ g=>BV g λ_ _ g=>AT g λ_ g=>g
  |4,g=>BV g λ_ _ g=>BV g λ_ _ g=>g
  |5,g=>BV g λ_ _ g=>BV g λ_ _ g=>Hh g λ_ g=>g
  |6,g=>BV g λ_ _ g=>BV g λ_ _ g=>AT g λ_ g=>g
  |_+7,g=>g) (λn=>⟨
  λf h g=>by refine AU 0 g λ_ g=>?_;refine BT 1 g λ_ _ g=>?_;refine AU 2 g λ_ g=>?_;exact Eq.mpr (Axz ..) g,
  λf h g=>by refine AU 0 g λ_ g=>?_;refine BT 1 g λ_ _ g=>?_;refine AU 2 g λ_ g=>?_;refine AU 7 g λ_ g=>?_;exact Eq.mpr (Bcv ..) g,
  λf h g=>by refine AU 0 g λ_ g=>?_;refine BT 1 g λ_ _ g=>?_;refine AU 2 g λ_ g=>?_;refine BT 8 g λ_ _ g=>?_;refine AU 9 g λ_ g=>?_;exact Eq.mpr (Ayu ..) g,
  λf h g=>by refine BT 8 g λ_ _ g=>?_;refine BT 16 g λ_ _ g=>?_;refine AU 17 g λ_ g=>?_;exact Eq.mpr (Beh ..) g,
  λf h g=>by refine BT 8 g λ_ _ g=>?_;refine BT 16 g λ_ _ g=>?_;exact Eq.mpr (Bdf ..) g,
  λf h g=>by refine BT 8 g λ_ _ g=>?_;refine BT 16 g λ_ _ g=>?_;refine Ha 109 g λ_ g=>?_;exact Eq.mpr (Bby ..) g,
  λf h g=>by refine BT 8 g λ_ _ g=>?_;refine BT 16 g λ_ _ g=>?_;refine AU 17 g λ_ g=>?_;exact Eq.mpr (Bce ..) g,
  trivial⟩) rfl d
theorem Bgt(J:J6)(a b:Nat):Bb c k q6 u6 (f6 J) d6 Tryz.f6 .root (Aq f 1 (.str a b)) h=iI c k J (f 0) a b (f 2) h:=by kernel_rfl
theorem w6(b:Ay c){n:Nat}{a:List U}(d:f6 (r6 c k n) 0 (Ab a) h):Al 6 a h k:=
 BR b q6 Tryz.func6 rfl (by kernel_rfl) (by kernel_rfl) k u6 (λn=>f6 (r6 c k n)) (λg _ _ i=>match g,i with
  |0,i=>BV i λ_ _ i=>i
  |_+1,i=>i) (λn=>⟨
  λf h i=>by refine BT 1 i λ_ _ i=>?_;exact Eq.mpr (Bgt ..) i,
  trivial⟩) rfl d
theorem Asu(J:J18)(a:Int):Bb c k q18 u18 (f18 J) d18 Tryz.f18 .root (Aq f 0 (.int .u8 a)) h=WL c k J a h:=by kernel_rfl
theorem w18(b:Ay c){n:Nat}{a:List U}(d:f18 (uU c k n) 0 (Ab a) h):Al 18 a h k:=
 BR b q18 Tryz.func18 rfl (by kernel_rfl) (by kernel_rfl) k u18 (λn=>f18 (uU c k n)) (λg _ _ i=>match g,i with
  |0,i=>AT i λ_ i=>i
  |_+1,i=>i) (λn=>⟨
  λf h i=>by refine AU 0 i λ_ i=>?_;exact Eq.mpr (Asu ..) i,
  trivial⟩) rfl d
theorem Atp(J:XP)(a b:Nat):Bb c k q23 u23 (f23 J) d23 Tryz.f23 .root (Aq f 0 (.str a b)) h=Sr c k J a b h:=by kernel_rfl
theorem Awi(J:XP)(a b:Nat)(d:Int):Bb c k q23 u23 (f23 J) d23 Tryz.f23 (.l (.r (.l (.r (.r .root))))) (Aq (Aq f 0 (.str a b)) 4 (.int .i64 d)) h=RN c k J a b (f 3) d h:=by kernel_rfl
theorem Axi(J:XP)(a b:Nat)(d:Int):Bb c k q23 u23 (f23 J) d23 Tryz.f23 (.r (.l (.r (.l (.l (.r (.l (.r (.r .root))))))))) (Aq (Aq f 0 (.str a b)) 4 (.int .i64 d)) h=SI c k J a b (f 3) d h:=by kernel_rfl
theorem w23(b:Ay c){n:Nat}{a:List U}(d:f23 (PT c k n) 0 (Ab a) h):Al 23 a h k:=
 BR b q23 Tryz.func23 rfl (by kernel_rfl) (by kernel_rfl) k u23 (λn=>f23 (PT c k n)) (λg _ _ i=>match g,i with
  |0,i=>BV i λ_ _ i=>i
  |1,i=>BV i λ_ _ i=>AT i λ_ i=>i
  |2,i=>BV i λ_ _ i=>AT i λ_ i=>i
  |_+3,i=>i) (λn=>⟨
  λf h i=>by refine BT 0 i λ_ _ i=>?_;exact Eq.mpr (Atp ..) i,
  λf h i=>by refine BT 0 i λ_ _ i=>?_;refine AU 4 i λ_ i=>?_;exact Eq.mpr (Awi ..) i,
  λf h i=>by refine BT 0 i λ_ _ i=>?_;refine AU 4 i λ_ i=>?_;exact Eq.mpr (Axi ..) i,
  trivial⟩) rfl d
theorem w25(b:Ay c){d:Nat}{a:List U}(f:Az env c q25 u25 d25 (Ax env Tryz.f25.results.toList k) d 0 (Ab a) h):Al 25 a h k:=AI mixed AO b q25 Tryz.func25 rfl (by kernel_rfl) (by kernel_rfl) (by kernel_rfl) (by simp[u25]) f
theorem Awd(J:nJ):Bb c k q26 u26 (f26 J) d26 Tryz.f26 .root f h=V8 c k J (f 0) (f 1) h:=by kernel_rfl
theorem w26(b:Ay c){n:Nat}{a:List U}(d:f26 (pv c k n) 0 (Ab a) h):Al 26 a h k:=
 BR b q26 Tryz.func26 rfl (by kernel_rfl) (by kernel_rfl) k u26 (λn=>f26 (pv c k n)) (λg _ _ i=>match g,i with
  |0,i=>i
  |_+1,i=>i) (λn=>⟨
  λf h i=>Eq.mpr (Awd ..) i,
  trivial⟩) rfl d
theorem Arr(J:rM)(a b:Nat):Bb c k q28 u28 (f28 J) d28 Tryz.f28 .root (Aq f 0 (.str a b)) h=VW c k J a b h:=by kernel_rfl
theorem w28(b:Ay c){n:Nat}{a:List U}(d:f28 (lE c k n) 0 (Ab a) h):Al 28 a h k:=
 BR b q28 Tryz.func28 rfl (by kernel_rfl) (by kernel_rfl) k u28 (λn=>f28 (lE c k n)) (λg _ _ i=>match g,i with
  |0,i=>BV i λ_ _ i=>i
  |_+1,i=>i) (λn=>⟨
  λf h i=>by refine BT 0 i λ_ _ i=>?_;exact Eq.mpr (Arr ..) i,
  trivial⟩) rfl d
theorem Avd(J:J33)(a b:Nat):Bb c k q33 u33 (f33 J) d33 Tryz.f33 .root (Aq f 1 (.str a b)) h=WA c k J (f 0) a b h:=by kernel_rfl
theorem w33(b:Ay c){n:Nat}{a:List U}(d:f33 (lW c k n) 0 (Ab a) h):Al 33 a h k:=
 BR b q33 Tryz.func33 rfl (by kernel_rfl) (by kernel_rfl) k u33 (λn=>f33 (lW c k n)) (λg _ _ i=>match g,i with
  |0,i=>BV i λ_ _ i=>i
  |_+1,i=>i) (λn=>⟨
  λf h i=>by refine BT 1 i λ_ _ i=>?_;exact Eq.mpr (Avd ..) i,
  trivial⟩) rfl d
theorem Avf(J:WK)(a b:Nat):Bb c k q36 u36 (f36 J) d36 Tryz.f36 .root (Aq f 1 (.str a b)) h=Ww c k J (f 0) a b h:=by kernel_rfl
theorem Awr(J:WK)(a b:Int):Bb c k q36 u36 (f36 J) d36 Tryz.f36 (.l (.r (.l (.r (.r (.r (.r (.r (.r (.r .root)))))))))) (Aq (Aq f 70 (.int .i64 a)) 71 (.int .i64 b)) h=VZ c k J (f 0) (f 69) a b h:=by kernel_rfl
theorem Awm(J:WK):Bb c k q36 u36 (f36 J) d36 Tryz.f36 (.r (.r (.r (.r (.r (.r (.r .root))))))) f h=WD c k J (f 0) (f 7) h:=by kernel_rfl
theorem w36(b:Ay c){n:Nat}{a:List U}(d:f36 (Xv c k n) 0 (Ab a) h):Al 36 a h k:=
 BR b q36 Tryz.func36 rfl (by kernel_rfl) (by kernel_rfl) k u36 (λn=>f36 (Xv c k n)) (λg _ _ i=>match g,i with
  |0,i=>BV i λ_ _ i=>i
  |1,i=>AT i λ_ i=>AT i λ_ i=>i
  |2,i=>i
  |_+3,i=>i) (λn=>⟨
  λf h i=>by refine BT 1 i λ_ _ i=>?_;exact Eq.mpr (Avf ..) i,
  λf h i=>by refine AU 70 i λ_ i=>?_;refine AU 71 i λ_ i=>?_;exact Eq.mpr (Awr ..) i,
  λf h i=>Eq.mpr (Awm ..) i,
  trivial⟩) rfl d
theorem Atb(J:J38):Bb c k q38 u38 (f38 J) d38 Tryz.f38 .root f h=XN c k J (f 0) h:=by kernel_rfl
theorem w38(b:Ay c){n:Nat}{a:List U}(d:f38 (rB c k n) 0 (Ab a) h):Al 38 a h k:=
 BR b q38 Tryz.func38 rfl (by kernel_rfl) (by kernel_rfl) k u38 (λn=>f38 (rB c k n)) (λg _ _ i=>match g,i with
  |0,i=>i
  |_+1,i=>i) (λn=>⟨
  λf h i=>Eq.mpr (Atb ..) i,
  trivial⟩) rfl d
theorem w41(b:Ay c){d:Nat}{a:List U}(f:Az env c q41 u41 d41 (Ax env Tryz.f41.results.toList k) d 0 (Ab a) h):Al 41 a h k:=AI mixed AO b q41 Tryz.func41 rfl (by kernel_rfl) (by kernel_rfl) (by kernel_rfl) (by simp[u41]) f
theorem Awa(J:de):Bb c k q42 u42 (f42 J) d42 Tryz.f42 .root f h=SC c k J (f 0) h:=by kernel_rfl
theorem Asg(J:de):Bb c k q42 u42 (f42 J) d42 Tryz.f42 (.l (.l (.r .root))) f h=O6 c k J (f 0) h:=by kernel_rfl
theorem w42(b:Ay c){n:Nat}{a:List U}(d:f42 (aO c k n) 0 (Ab a) h):Al 42 a h k:=
 BR b q42 Tryz.func42 rfl (by kernel_rfl) (by kernel_rfl) k u42 (λn=>f42 (aO c k n)) (λg _ _ i=>match g,i with
  |0,i=>i
  |1,i=>i
  |_+2,i=>i) (λn=>⟨
  λf h i=>Eq.mpr (Awa ..) i,
  λf h i=>Eq.mpr (Asg ..) i,
  trivial⟩) rfl d
theorem w58(b:Ay c){d:Nat}{a:List U}(f:Az env c q58 u58 d58 (Ax env Tryz.f58.results.toList k) d 0 (Ab a) h):Al 58 a h k:=AI mixed AO b q58 Tryz.func58 rfl (by kernel_rfl) (by kernel_rfl) (by kernel_rfl) (by simp[u58]) f
theorem Ata(J:J60)(a:Int):Bb c k q60 u60 (f60 J) d60 Tryz.f60 .root (Aq f 1 (.int .i64 a)) h=Wa c k J (f 0) a h:=by kernel_rfl
theorem w60(b:Ay c){n:Nat}{a:List U}(d:f60 (r60 c k n) 0 (Ab a) h):Al 60 a h k:=
 BR b q60 Tryz.func60 rfl (by kernel_rfl) (by kernel_rfl) k u60 (λn=>f60 (r60 c k n)) (λg _ _ i=>match g,i with
  |0,i=>AT i λ_ i=>i
  |_+1,i=>i) (λn=>⟨
  λf h i=>by refine AU 1 i λ_ i=>?_;exact Eq.mpr (Ata ..) i,
  trivial⟩) rfl d
theorem Ate(J:dh):Bb c k q69 u69 (f69 J) d69 Tryz.f69 .root f h=Yf c k J (f 0) (f 1) h:=by kernel_rfl
theorem Ava(J:dh)(a:Int):Bb c k q69 u69 (f69 J) d69 Tryz.f69 (.l (.r .root)) (Aq f 3 (.int .i64 a)) h=SJ c k J (f 0) (f 1) a h:=by kernel_rfl
theorem w69(b:Ay c){n:Nat}{a:List U}(d:f69 (YM c k n) 0 (Ab a) h):Al 69 a h k:=
 BR b q69 Tryz.func69 rfl (by kernel_rfl) (by kernel_rfl) k u69 (λn=>f69 (YM c k n)) (λg _ _ i=>match g,i with
  |0,i=>i
  |1,i=>AT i λ_ i=>i
  |_+2,i=>i) (λn=>⟨
  λf h i=>Eq.mpr (Ate ..) i,
  λf h i=>by refine AU 3 i λ_ i=>?_;exact Eq.mpr (Ava ..) i,
  trivial⟩) rfl d
theorem w74(b:Ay c){d:Nat}{a:List U}(f:Az env c q74 u74 d74 (Ax env Tryz.f74.results.toList k) d 0 (Ab a) h):Al 74 a h k:=AI mixed AO b q74 Tryz.func74 rfl (by kernel_rfl) (by kernel_rfl) (by kernel_rfl) (by simp[u74]) f
theorem Awx(J:J82):Bb c k q82 u82 (f82 J) d82 Tryz.f82 .root f h=Ws c k J (f 0) h:=by kernel_rfl
theorem w82(b:Ay c){n:Nat}{a:List U}(d:f82 (r82 c k n) 0 (Ab a) h):Al 82 a h k:=
 BR b q82 Tryz.func82 rfl (by kernel_rfl) (by kernel_rfl) k u82 (λn=>f82 (r82 c k n)) (λg _ _ i=>match g,i with
  |0,i=>i
  |_+1,i=>i) (λn=>⟨
  λf h i=>Eq.mpr (Awx ..) i,
  trivial⟩) rfl d
theorem Atg(J:sS):Bb c k q93 u93 (f93 J) d93 Tryz.f93 .root f h=RO c k J (f 0) (f 1) h:=by kernel_rfl
theorem w93(b:Ay c){n:Nat}{a:List U}(d:f93 (tD c k n) 0 (Ab a) h):Al 93 a h k:=
 BR b q93 Tryz.func93 rfl (by kernel_rfl) (by kernel_rfl) k u93 (λn=>f93 (tD c k n)) (λg _ _ i=>match g,i with
  |0,i=>i
  |_+1,i=>i) (λn=>⟨
  λf h i=>Eq.mpr (Atg ..) i,
  trivial⟩) rfl d
theorem w96(b:Ay c){d:Nat}{a:List U}(f:Az env c q96 u96 d96 (Ax env Tryz.f96.results.toList k) d 0 (Ab a) h):Al 96 a h k:=AI mixed AO b q96 Tryz.func96 rfl (by kernel_rfl) (by kernel_rfl) (by kernel_rfl) (by simp[u96]) f
theorem Bcc(b:Ay c){d:Nat}{a:List U}(f:Az env c Abr Aei d102 (Ax env Tryz.f102.results.toList k) d 0 (Ab a) h):Al 102 a h k:=AI mixed AO b Abr Tryz.func102 rfl (by kernel_rfl) (by kernel_rfl) (by kernel_rfl) (by simp[Aei]) f
theorem Agt(J:Zl):Bb c k Ale Aqm (f107 J) d107 Tryz.f107 .root f h=Nd c k J (f 0) h:=by kernel_rfl
theorem mq(b:Ay c){n:Nat}{a:List U}(d:f107 (YV c k n) 0 (Ab a) h):Al 107 a h k:=
 BR b Ale Tryz.func107 rfl (by kernel_rfl) (by kernel_rfl) k Aqm (λn=>f107 (YV c k n)) (λg _ _ i=>match g,i with
  |0,i=>i
  |_+1,i=>i) (λn=>⟨
  λf h i=>Eq.mpr (Agt ..) i,
  trivial⟩) rfl d
theorem Azn(b:Ay c){d:Nat}{a:List U}(f:Az env c mB qN d110 (Ax env Tryz.f110.results.toList k) d 0 (Ab a) h):Al 110 a h k:=AI mixed AO b mB Tryz.func110 rfl (by kernel_rfl) (by kernel_rfl) (by kernel_rfl) (by simp[qN]) f
theorem Aey(J:Yo)(a:Int):Bb c k Aoz Amr (f111 J) d111 Tryz.f111 .root (Aq f 1 (.int .i64 a)) h=QM c k J (f 0) a h:=by kernel_rfl
theorem Amu(b:Ay c){n:Nat}{a:List U}(d:f111 (ZC c k n) 0 (Ab a) h):Al 111 a h k:=
 BR b Aoz Tryz.func111 rfl (by kernel_rfl) (by kernel_rfl) k Amr (λn=>f111 (ZC c k n)) (λg _ _ i=>match g,i with
  |0,i=>AT i λ_ i=>i
  |_+1,i=>i) (λn=>⟨
  λf h i=>by refine AU 1 i λ_ i=>?_;exact Eq.mpr (Aey ..) i,
  trivial⟩) rfl d
theorem Ahq(J:aW)(a:Int):Bb c k Ank Apx (f124 J) d124 Tryz.f124 .root (Aq f 0 (.int .u8 a)) h=Qo c k J a h:=by kernel_rfl
theorem Aoq(b:Ay c){n:Nat}{a:List U}(d:f124 (bw c k n) 0 (Ab a) h):Al 124 a h k:=
 BR b Ank Tryz.func124 rfl (by kernel_rfl) (by kernel_rfl) k Apx (λn=>f124 (bw c k n)) (λg _ _ i=>match g,i with
  |0,i=>AT i λ_ i=>i
  |_+1,i=>i) (λn=>⟨
  λf h i=>by refine AU 0 i λ_ i=>?_;exact Eq.mpr (Ahq ..) i,
  trivial⟩) rfl d
theorem Afz(J:SE):Bb c k oq mD (f126 J) d126 Tryz.f126 .root f h=QK c k J (f 0) h:=by kernel_rfl
theorem Ajn(J:SE)(a:Int):Bb c k oq mD (f126 J) d126 Tryz.f126 (.l (.r (.l (.l (.r (.l (.r (.r .root)))))))) (Aq f 3 (.int .i64 a)) h=Qs c k J (f 0) a h:=by kernel_rfl
theorem Ald(b:Ay c){n:Nat}{a:List U}(d:f126 (Py c k n) 0 (Ab a) h):Al 126 a h k:=
 BR b oq Tryz.func126 rfl (by kernel_rfl) (by kernel_rfl) k mD (λn=>f126 (Py c k n)) (λg _ _ i=>match g,i with
  |0,i=>i
  |1,i=>AT i λ_ i=>i
  |_+2,i=>i) (λn=>⟨
  λf h i=>Eq.mpr (Afz ..) i,
  λf h i=>by refine AU 3 i λ_ i=>?_;exact Eq.mpr (Ajn ..) i,
  trivial⟩) rfl d
theorem Bde(b:Ay c){d:Nat}{a:List U}(f:Az env c Acu oH d143 (Ax env Tryz.f143.results.toList k) d 0 (Ab a) h):Al 143 a h k:=AI mixed AO b Acu Tryz.func143 rfl (by kernel_rfl) (by kernel_rfl) (by kernel_rfl) (by simp[oH]) f
theorem Ayy(b:Ay c){d:Nat}{a:List U}(f:Az env c mh lO d147 (Ax env Tryz.f147.results.toList k) d 0 (Ab a) h):Al 147 a h k:=AI mixed AO b mh Tryz.func147 rfl (by kernel_rfl) (by kernel_rfl) (by kernel_rfl) (by simp[lO]) f
theorem Bgb(b:Ay c){d:Nat}{a:List U}(f:Az env c uP sH d154 (Ax env Tryz.f154.results.toList k) d 0 (Ab a) h):Al 154 a h k:=AI mixed AO b uP Tryz.func154 rfl (by kernel_rfl) (by kernel_rfl) (by kernel_rfl) (by simp[sH]) f
theorem Bhq(b:Ay c){d:Nat}{a:List U}(f:Az env c uh mR d158 (Ax env Tryz.f158.results.toList k) d 0 (Ab a) h):Al 158 a h k:=AI mixed AO b uh Tryz.func158 rfl (by kernel_rfl) (by kernel_rfl) (by kernel_rfl) (by simp[mR]) f
theorem Akq(J:TK)(a:Int):Bb c k qJ mi (f161 J) d161 Tryz.f161 .root (Aq f 1 (.int .i64 a)) h=N7 c k J (f 0) a h:=by kernel_rfl
theorem Agy(J:TK)(a:Int):Bb c k qJ mi (f161 J) d161 Tryz.f161 (.l (.r (.r .root))) (Aq f 1 (.int .i64 a)) h=NT c k J (f 0) a h:=by kernel_rfl
theorem Aaj(b:Ay c){n:Nat}{a:List U}(d:f161 (RM c k n) 0 (Ab a) h):Al 161 a h k:=
 BR b qJ Tryz.func161 rfl (by kernel_rfl) (by kernel_rfl) k mi (λn=>f161 (RM c k n)) (λg _ _ i=>match g,i with
  |0,i=>AT i λ_ i=>i
  |1,i=>AT i λ_ i=>i
  |_+2,i=>i) (λn=>⟨
  λf h i=>by refine AU 1 i λ_ i=>?_;exact Eq.mpr (Akq ..) i,
  λf h i=>by refine AU 1 i λ_ i=>?_;exact Eq.mpr (Agy ..) i,
  trivial⟩) rfl d
theorem Akv(J:ZG):Bb c k Aov Ano (f162 J) d162 Tryz.f162 .root f h=Qk c k J (f 0) (f 1) h:=by kernel_rfl
theorem Alz(b:Ay c){n:Nat}{a:List U}(d:f162 (Z9 c k n) 0 (Ab a) h):Al 162 a h k:=
 BR b Aov Tryz.func162 rfl (by kernel_rfl) (by kernel_rfl) k Ano (λn=>f162 (Z9 c k n)) (λg _ _ i=>match g,i with
  |0,i=>i
  |_+1,i=>i) (λn=>⟨
  λf h i=>Eq.mpr (Akv ..) i,
  trivial⟩) rfl d
theorem Ahz(J:Ts)(a b:Nat):Bb c k pJ uF (f172 J) d172 Tryz.f172 .root (Aq f 1 (.str a b)) h=P1 c k J (f 0) a b h:=by kernel_rfl
theorem Aim(J:Ts)(a b:Nat)(d g:Int):Bb c k pJ uF (f172 J) d172 Tryz.f172 (.l (.r (.l (.r (.r .root))))) (Aq (Aq (Aq f 1 (.str a b)) 20 (.int .i64 d)) 21 (.int .i64 g)) h=Qm c k J (f 0) a b d g h:=by kernel_rfl
theorem Alh(b:Ay c){n:Nat}{a:List U}(d:f172 (Px c k n) 0 (Ab a) h):Al 172 a h k:=
 BR b pJ Tryz.func172 rfl (by kernel_rfl) (by kernel_rfl) k uF (λn=>f172 (Px c k n)) (λg _ _ i=>match g,i with
  |0,i=>BV i λ_ _ i=>i
  |1,i=>BV i λ_ _ i=>AT i λ_ i=>AT i λ_ i=>i
  |_+2,i=>i) (λn=>⟨
  λf h i=>by refine BT 1 i λ_ _ i=>?_;exact Eq.mpr (Ahz ..) i,
  λf h i=>by refine BT 1 i λ_ _ i=>?_;refine AU 20 i λ_ i=>?_;refine AU 21 i λ_ i=>?_;exact Eq.mpr (Aim ..) i,
  trivial⟩) rfl d
theorem Ahp(J:To):Bb c k oP Aby (f173 J) d173 Tryz.f173 .root f h=PZ c k J (f 0) h:=by kernel_rfl
theorem Ajt(J:To)(a b:Int):Bb c k oP Aby (f173 J) d173 Tryz.f173 (.r (.r (.l (.r (.r (.l (.r (.r (.r .root))))))))) (Aq (Aq f 2 (.int .i64 a)) 3 (.int .i64 b)) h=Nj c k J a b h:=by kernel_rfl
theorem Aqc(b:Ay c){n:Nat}{a:List U}(d:f173 (Sk c k n) 0 (Ab a) h):Al 173 a h k:=
 BR b oP Tryz.func173 rfl (by kernel_rfl) (by kernel_rfl) k Aby (λn=>f173 (Sk c k n)) (λg _ _ i=>match g,i with
  |0,i=>i
  |1,i=>AT i λ_ i=>AT i λ_ i=>i
  |_+2,i=>i) (λn=>⟨
  λf h i=>Eq.mpr (Ahp ..) i,
  λf h i=>by refine AU 2 i λ_ i=>?_;refine AU 3 i λ_ i=>?_;exact Eq.mpr (Ajt ..) i,
  trivial⟩) rfl d
theorem Ayn(b:Ay c){d:Nat}{a:List U}(f:Az env c uJ oM d193 (Ax env Tryz.f193.results.toList k) d 0 (Ab a) h):Al 193 a h k:=AI mixed AO b uJ Tryz.func193 rfl (by kernel_rfl) (by kernel_rfl) (by kernel_rfl) (by simp[oM]) f
theorem Aha(J:Yz)(a b:Nat)(d:Int):Bb c k Ama Aqa (f194 J) d194 Tryz.f194 .root (Aq (Aq f 0 (.str a b)) 1 (.int .u8 d)) h=Qx c k J a b d h:=by kernel_rfl
theorem Alx(b:Ay c){n:Nat}{a:List U}(d:f194 (Zz c k n) 0 (Ab a) h):Al 194 a h k:=
 BR b Ama Tryz.func194 rfl (by kernel_rfl) (by kernel_rfl) k Aqa (λn=>f194 (Zz c k n)) (λg _ _ i=>match g,i with
  |0,i=>BV i λ_ _ i=>AT i λ_ i=>i
  |_+1,i=>i) (λn=>⟨
  λf h i=>by refine BT 0 i λ_ _ i=>?_;refine AU 1 i λ_ i=>?_;exact Eq.mpr (Aha ..) i,
  trivial⟩) rfl d
theorem Bca(b:Ay c){d:Nat}{a:List U}(f:Az env c Abi pP d203 (Ax env Tryz.f203.results.toList k) d 0 (Ab a) h):Al 203 a h k:=AI mixed AO b Abi Tryz.func203 rfl (by kernel_rfl) (by kernel_rfl) (by kernel_rfl) (by simp[pP]) f
theorem Ayz(b:Ay c){d:Nat}{a:List U}(f:Az env c Adv Aee d208 (Ax env Tryz.f208.results.toList k) d 0 (Ab a) h):Al 208 a h k:=AI mixed AO b Adv Tryz.func208 rfl (by kernel_rfl) (by kernel_rfl) (by kernel_rfl) (by simp[Aee]) f
theorem Agv(J:ZS)(a b:Int):Bb c k Amw Aoy (f212 J) d212 Tryz.f212 .root (Aq (Aq f 1 (.int .i64 a)) 2 (.int .i64 b)) h=QW c k J (f 0) a b h:=by kernel_rfl
theorem Amn(b:Ay c){n:Nat}{a:List U}(d:f212 (ZU c k n) 0 (Ab a) h):Al 212 a h k:=
 BR b Amw Tryz.func212 rfl (by kernel_rfl) (by kernel_rfl) k Aoy (λn=>f212 (ZU c k n)) (λg _ _ i=>match g,i with
  |0,i=>AT i λ_ i=>AT i λ_ i=>i
  |_+1,i=>i) (λn=>⟨
  λf h i=>by refine AU 1 i λ_ i=>?_;refine AU 2 i λ_ i=>?_;exact Eq.mpr (Agv ..) i,
  trivial⟩) rfl d
theorem Bac(b:Ay c){d:Nat}{a:List U}(f:Az env c mw Abd d231 (Ax env Tryz.f231.results.toList k) d 0 (Ab a) h):Al 231 a h k:=AI mixed AO b mw Tryz.func231 rfl (by kernel_rfl) (by kernel_rfl) (by kernel_rfl) (by simp[Abd]) f
theorem iy(J:bm)(a:Bool):Bb c k mK Adi (f233 J) d233 Tryz.f233 .root (Aq f 1 (.bool a)) h=fC c k J (f 0) a h:=by kernel_rfl
theorem Bhg(b:Ay c){n:Nat}{a:List U}(d:f233 (Sq c k n) 0 (Ab a) h):Al 233 a h k:=
 BR b mK Tryz.func233 rfl (by kernel_rfl) (by kernel_rfl) k Adi (λn=>f233 (Sq c k n)) (λg _ _ i=>match g,i with
  |0,i=>Hh i λ_ i=>i
  |_+1,i=>i) (λn=>⟨
  λf h i=>by refine Ha 1 i λ_ i=>?_;exact Eq.mpr (iy ..) i,
  trivial⟩) rfl d
theorem Arw(b:Ay c){n:Nat}{a:List U}(d:f233 (Sq c k n) 0 (Ab a) h):pc 233 a h k:=
 Aoa b mK Tryz.func233 rfl (by kernel_rfl) (by kernel_rfl) k Adi (λn=>f233 (Sq c k n)) (λg _ _ i=>match g,i with
  |0,i=>Hh i λ_ i=>i
  |_+1,i=>i) (λn=>⟨
  λf h i=>by refine Ha 1 i λ_ i=>?_;exact Eq.mpr (iy ..) i,
  trivial⟩) rfl d
theorem Bep(b:Ay c){d:Nat}{a:List U}(f:Az env c uT sJ d239 (Ax env Tryz.f239.results.toList k) d 0 (Ab a) h):Al 239 a h k:=AI mixed AO b uT Tryz.func239 rfl (by kernel_rfl) (by kernel_rfl) (by kernel_rfl) (by simp[sJ]) f
theorem Bed(b:Ay c){d:Nat}{a:List U}(f:Az env c sW rH d255 (Ax env Tryz.f255.results.toList k) d 0 (Ab a) h):Al 255 a h k:=AI mixed AO b sW Tryz.func255 rfl (by kernel_rfl) (by kernel_rfl) (by kernel_rfl) (by simp[rH]) f
theorem Ayt(b:Ay c){d:Nat}{a:List U}(f:Az env c nc uj d261 (Ax env Tryz.f261.results.toList k) d 0 (Ab a) h):Al 261 a h k:=AI mixed AO b nc Tryz.func261 rfl (by kernel_rfl) (by kernel_rfl) (by kernel_rfl) (by simp[uj]) f
theorem Azs(b:Ay c){d:Nat}{a:List U}(f:Az env c lP Aco d267 (Ax env Tryz.f267.results.toList k) d 0 (Ab a) h):Al 267 a h k:=AI mixed AO b lP Tryz.func267 rfl (by kernel_rfl) (by kernel_rfl) (by kernel_rfl) (by simp[Aco]) f
theorem Bfw(b:Ay c){d:Nat}{a:List U}(f:Az env c sO nu d290 (Ax env Tryz.f290.results.toList k) d 0 (Ab a) h):Al 290 a h k:=AI mixed AO b sO Tryz.func290 rfl (by kernel_rfl) (by kernel_rfl) (by kernel_rfl) (by simp[nu]) f
theorem Bcu(b:Ay c){d:Nat}{a:List U}(f:Az env c ql Abf d294 (Ax env Tryz.f294.results.toList k) d 0 (Ab a) h):Al 294 a h k:=AI mixed AO b ql Tryz.func294 rfl (by kernel_rfl) (by kernel_rfl) (by kernel_rfl) (by simp[Abf]) f
theorem Bbf(b:Ay c){d:Nat}{a:List U}(f:Az env c ns Aax d301 (Ax env Tryz.f301.results.toList k) d 0 (Ab a) h):Al 301 a h k:=AI mixed AO b ns Tryz.func301 rfl (by kernel_rfl) (by kernel_rfl) (by kernel_rfl) (by simp[Aax]) f
theorem Bdm(b:Ay c){d:Nat}{a:List U}(f:Az env c ma Aaa d322 (Ax env Tryz.f322.results.toList k) d 0 (Ab a) h):Al 322 a h k:=AI mixed AO b ma Tryz.func322 rfl (by kernel_rfl) (by kernel_rfl) (by kernel_rfl) (by simp[Aaa]) f
theorem Bet(b:Ay c){d:Nat}{a:List U}(f:Az env c mc po d337 (Ax env Tryz.f337.results.toList k) d 0 (Ab a) h):Al 337 a h k:=AI mixed AO b mc Tryz.func337 rfl (by kernel_rfl) (by kernel_rfl) (by kernel_rfl) (by simp[po]) f
theorem Bcx(b:Ay c){d:Nat}{a:List U}(f:Az env c tB sg d356 (Ax env Tryz.f356.results.toList k) d 0 (Ab a) h):Al 356 a h k:=AI mixed AO b tB Tryz.func356 rfl (by kernel_rfl) (by kernel_rfl) (by kernel_rfl) (by simp[sg]) f
end Go.Den
