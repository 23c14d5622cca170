/-
 Proof. the pieces are what the program PD.
-/
import Derived.Test.YtmgalljhidgnoaaGreatDoorRunA1
import Derived.KernelRfl
namespace Go.Den
open Go.Proofs
set_option maxRecDepth 100000
variable{c:CF}{k:KV}{f:FT}{h:H}
theorem w4(b:Ay c){d:Nat}{a:List U}(f:Az env c q4 u4 d4 (Ax env Tryz.f4.results.toList k) d 0 (Ab a) h):Al 4 a h k:=AI mixed AO b q4 Tryz.func4 rfl (by kernel_rfl) (by kernel_rfl) (by kernel_rfl) (by simp[u4]) f
theorem Bfp(J:J9)(a b:Nat)(d g:Int):Bb c k q9 u9 (f9 J) d9 Tryz.f9 .root (Aq (Aq (Aq f 0 (.str a b)) 1 (.int .i64 d)) 2 (.int .i64 g)) h=gQ c k J a b d g h:=by kernel_rfl
theorem Beq(J:J9)(a b d:Int):Bb c k q9 u9 (f9 J) d9 Tryz.f9 (.l (.r (.l (.r (.r (.r .root)))))) (Aq (Aq (Aq f 1 (.int .i64 a)) 2 (.int .i64 b)) 9 (.int .i64 d)) h=Zr c k J a b (f 7) (f 8) d h:=by kernel_rfl
theorem Ays(J:J9)(a b d:Int):Bb c k q9 u9 (f9 J) d9 Tryz.f9 (.r (.r (.l (.l (.r (.l (.r (.r (.r .root))))))))) (Aq (Aq (Aq f 1 (.int .i64 a)) 2 (.int .i64 b)) 9 (.int .i64 d)) h=aI c k J a b (f 7) (f 8) d h:=by kernel_rfl
theorem w9(b:Ay c){n:Nat}{a:List U}(d:f9 (r9 c k n) 0 (Ab a) h):Al 9 a h k:=
 BR b q9 Tryz.func9 rfl (by kernel_rfl) (by kernel_rfl) k u9 (λn=>f9 (r9 c k n)) (λg _ _ i=>match g,i with
  |0,i=>BV i λ_ _ i=>AT i λ_ i=>AT i λ_ i=>i
  |1,i=>AT i λ_ i=>AT i λ_ i=>AT i λ_ i=>i
  |2,i=>AT i λ_ i=>AT i λ_ i=>AT i λ_ i=>i
  |_+3,i=>i) (λn=>⟨
  λf h i=>by refine BT 0 i λ_ _ i=>?_;refine AU 1 i λ_ i=>?_;refine AU 2 i λ_ i=>?_;exact Eq.mpr (Bfp ..) i,
  λf h i=>by refine AU 1 i λ_ i=>?_;refine AU 2 i λ_ i=>?_;refine AU 9 i λ_ i=>?_;exact Eq.mpr (Beq ..) i,
  λf h i=>by refine AU 1 i λ_ i=>?_;refine AU 2 i λ_ i=>?_;refine AU 9 i λ_ i=>?_;exact Eq.mpr (Ays ..) i,
  trivial⟩) rfl d
theorem Atx(J:uB)(a b:Nat)(d g:Nat):Bb c k q12 u12 (f12 J) d12 Tryz.f12 .root (Aq (Aq f 1 (.str a b)) 2 (.str d g)) h=Xh c k J (f 0) a b d g h:=by kernel_rfl
theorem w12(b:Ay c){n:Nat}{a:List U}(d:f12 (XV c k n) 0 (Ab a) h):Al 12 a h k:=
 BR b q12 Tryz.func12 rfl (by kernel_rfl) (by kernel_rfl) k u12 (λn=>f12 (XV c k n)) (λg _ _ i=>match g,i with
  |0,i=>BV i λ_ _ i=>BV i λ_ _ i=>i
  |_+1,i=>i) (λn=>⟨
  λf h i=>by refine BT 1 i λ_ _ i=>?_;refine BT 2 i λ_ _ i=>?_;exact Eq.mpr (Atx ..) i,
  trivial⟩) rfl d
theorem w13(b:Ay c){d:Nat}{a:List U}(f:Az env c q13 u13 d13 (Ax env Tryz.f13.results.toList k) d 0 (Ab a) h):Al 13 a h k:=AI mixed AO b q13 Tryz.func13 rfl (by kernel_rfl) (by kernel_rfl) (by kernel_rfl) (by simp[u13]) f
theorem Axu(J:qL)(a b:Nat):Bb c k q14 u14 (f14 J) d14 Tryz.f14 .root (Aq f 1 (.str a b)) h=VU c k J (f 0) a b (f 2) (f 3) h:=by kernel_rfl
theorem w14(b:Ay c){n:Nat}{a:List U}(d:f14 (oF c k n) 0 (Ab a) h):Al 14 a h k:=
 BR b q14 Tryz.func14 rfl (by kernel_rfl) (by kernel_rfl) k u14 (λn=>f14 (oF c k n)) (λg _ _ i=>match g,i with
  |0,i=>BV i λ_ _ i=>i
  |_+1,i=>i) (λn=>⟨
  λf h i=>by refine BT 1 i λ_ _ i=>?_;exact Eq.mpr (Axu ..) i,
  trivial⟩) rfl d
theorem Ats(J:J17)(a b:Nat):Bb c k q17 u17 (f17 J) d17 Tryz.f17 .root (Aq f 0 (.str a b)) h=Tv c k J a b h:=by kernel_rfl
theorem w17(b:Ay c){n:Nat}{a:List U}(d:f17 (mZ c k n) 0 (Ab a) h):Al 17 a h k:=
 BR b q17 Tryz.func17 rfl (by kernel_rfl) (by kernel_rfl) k u17 (λn=>f17 (mZ c k n)) (λg _ _ i=>match g,i with
  |0,i=>BV i λ_ _ i=>i
  |_+1,i=>i) (λn=>⟨
  λf h i=>by refine BT 0 i λ_ _ i=>?_;exact Eq.mpr (Ats ..) i,
  trivial⟩) rfl d
theorem Axb(J:WX)(a:Int):Bb c k q20 u20 (f20 J) d20 Tryz.f20 .root (Aq f 1 (.int .i64 a)) h=Vl c k J (f 0) a h:=by kernel_rfl
theorem Arj(J:WX)(a:Int):Bb c k q20 u20 (f20 J) d20 Tryz.f20 (.l (.l (.r (.l (.r (.l (.r (.r (.r .root))))))))) (Aq f 9 (.int .i64 a)) h=WQ c k J (f 0) a h:=by kernel_rfl
theorem Axm(J:WX)(a:Int):Bb c k q20 u20 (f20 J) d20 Tryz.f20 (.r (.r (.r .root))) (Aq f 1 (.int .i64 a)) h=V4 c k J (f 0) a h:=by kernel_rfl
theorem w20(b:Ay c){n:Nat}{a:List U}(d:f20 (Ub c k n) 0 (Ab a) h):Al 20 a h k:=
 BR b q20 Tryz.func20 rfl (by kernel_rfl) (by kernel_rfl) k u20 (λn=>f20 (Ub c k n)) (λg _ _ i=>match g,i with
  |0,i=>AT i λ_ i=>i
  |1,i=>AT i λ_ i=>i
  |2,i=>AT i λ_ i=>i
  |_+3,i=>i) (λn=>⟨
  λf h i=>by refine AU 1 i λ_ i=>?_;exact Eq.mpr (Axb ..) i,
  λf h i=>by refine AU 9 i λ_ i=>?_;exact Eq.mpr (Arj ..) i,
  λf h i=>by refine AU 1 i λ_ i=>?_;exact Eq.mpr (Axm ..) i,
  trivial⟩) rfl d
theorem Aue(J:bY):Bb c k q21 u21 (f21 J) d21 Tryz.f21 .root f h=XD c k J (f 0) h:=by kernel_rfl
theorem Awe(J:bY)(a:Int):Bb c k q21 u21 (f21 J) d21 Tryz.f21 (.l (.r (.l (.r (.r .root))))) (Aq f 4 (.int .i64 a)) h=Wq c k J (f 0) (f 3) a h:=by kernel_rfl
theorem w21(b:Ay c){n:Nat}{a:List U}(d:f21 (Ys c k n) 0 (Ab a) h):Al 21 a h k:=
 BR b q21 Tryz.func21 rfl (by kernel_rfl) (by kernel_rfl) k u21 (λn=>f21 (Ys c k n)) (λg _ _ i=>match g,i with
  |0,i=>i
  |1,i=>AT i λ_ i=>i
  |_+2,i=>i) (λn=>⟨
  λf h i=>Eq.mpr (Aue ..) i,
  λf h i=>by refine AU 4 i λ_ i=>?_;exact Eq.mpr (Awe ..) i,
  trivial⟩) rfl d
theorem Awb(J:rZ):Bb c k q27 u27 (f27 J) d27 Tryz.f27 .root f h=Vy c k J (f 0) h:=by kernel_rfl
theorem w27(b:Ay c){n:Nat}{a:List U}(d:f27 (mN c k n) 0 (Ab a) h):Al 27 a h k:=
 BR b q27 Tryz.func27 rfl (by kernel_rfl) (by kernel_rfl) k u27 (λn=>f27 (mN c k n)) (λg _ _ i=>match g,i with
  |0,i=>i
  |_+1,i=>i) (λn=>⟨
  λf h i=>Eq.mpr (Awb ..) i,
  trivial⟩) rfl d
theorem Arm(J:oh)(a b:Nat)(d:Int):Bb c k q29 u29 (f29 J) d29 Tryz.f29 .root (Aq (Aq f 1 (.str a b)) 3 (.int .i64 d)) h=Xa c k J (f 0) a b (f 2) d h:=by kernel_rfl
theorem w29(b:Ay c){n:Nat}{a:List U}(d:f29 (r29 c k n) 0 (Ab a) h):Al 29 a h k:=
 BR b q29 Tryz.func29 rfl (by kernel_rfl) (by kernel_rfl) k u29 (λn=>f29 (r29 c k n)) (λg _ _ i=>match g,i with
  |0,i=>BV i λ_ _ i=>AT i λ_ i=>i
  |_+1,i=>i) (λn=>⟨
  λf h i=>by refine BT 1 i λ_ _ i=>?_;refine AU 3 i λ_ i=>?_;exact Eq.mpr (Arm ..) i,
  trivial⟩) rfl d
theorem w32(b:Ay c){d:Nat}{a:List U}(f:Az env c q32 u32 d32 (Ax env Tryz.f32.results.toList k) d 0 (Ab a) h):Al 32 a h k:=AI mixed AO b q32 Tryz.func32 rfl (by kernel_rfl) (by kernel_rfl) (by kernel_rfl) (by simp[u32]) f
theorem Atq(J:sf)(a:Int):Bb c k q35 u35 (f35 J) d35 Tryz.f35 .root (Aq f 0 (.int .i64 a)) h=VV c k J a h:=by kernel_rfl
theorem w35(b:Ay c){n:Nat}{a:List U}(d:f35 (qy c k n) 0 (Ab a) h):Al 35 a h k:=
 BR b q35 Tryz.func35 rfl (by kernel_rfl) (by kernel_rfl) k u35 (λn=>f35 (qy c k n)) (λg _ _ i=>match g,i with
  |0,i=>AT i λ_ i=>i
  |_+1,i=>i) (λn=>⟨
  λf h i=>by refine AU 0 i λ_ i=>?_;exact Eq.mpr (Atq ..) i,
  trivial⟩) rfl d
theorem Atm(J:qH)(a:Int):Bb c k q44 u44 (f44 J) d44 Tryz.f44 .root (Aq f 1 (.int .i64 a)) h=V9 c k J (f 0) a h:=by kernel_rfl
theorem w44(b:Ay c){n:Nat}{a:List U}(d:f44 (oN c k n) 0 (Ab a) h):Al 44 a h k:=
 BR b q44 Tryz.func44 rfl (by kernel_rfl) (by kernel_rfl) k u44 (λn=>f44 (oN c k n)) (λg _ _ i=>match g,i with
  |0,i=>AT i λ_ i=>i
  |_+1,i=>i) (λn=>⟨
  λf h i=>by refine AU 1 i λ_ i=>?_;exact Eq.mpr (Atm ..) i,
  trivial⟩) rfl d
theorem Avh(J:ry)(a:Int):Bb c k q47 u47 (f47 J) d47 Tryz.f47 .root (Aq f 0 (.int .u8 a)) h=WV c k J a h:=by kernel_rfl
theorem w47(b:Ay c){n:Nat}{a:List U}(d:f47 (r47 c k n) 0 (Ab a) h):Al 47 a h k:=
 BR b q47 Tryz.func47 rfl (by kernel_rfl) (by kernel_rfl) k u47 (λn=>f47 (r47 c k n)) (λg _ _ i=>match g,i with
  |0,i=>AT i λ_ i=>i
  |_+1,i=>i) (λn=>⟨
  λf h i=>by refine AU 0 i λ_ i=>?_;exact Eq.mpr (Avh ..) i,
  trivial⟩) rfl d
theorem Aqp(J:eN)(a:Int):Bb c k q50 u50 (f50 J) d50 Tryz.f50 .root (Aq f 0 (.int .u8 a)) h=V3 c k J a h:=by kernel_rfl
theorem Atj(J:eN)(a b:Int):Bb c k q50 u50 (f50 J) d50 Tryz.f50 (.l (.r (.l (.r .root)))) (Aq (Aq f 0 (.int .u8 a)) 4 (.int .i64 b)) h=Vx c k J a b h:=by kernel_rfl
theorem w50(b:Ay c){n:Nat}{a:List U}(d:f50 (ab c k n) 0 (Ab a) h):Al 50 a h k:=
 BR b q50 Tryz.func50 rfl (by kernel_rfl) (by kernel_rfl) k u50 (λn=>f50 (ab c k n)) (λg _ _ i=>match g,i with
  |0,i=>AT i λ_ i=>i
  |1,i=>AT i λ_ i=>AT i λ_ i=>i
  |_+2,i=>i) (λn=>⟨
  λf h i=>by refine AU 0 i λ_ i=>?_;exact Eq.mpr (Aqp ..) i,
  λf h i=>by refine AU 0 i λ_ i=>?_;refine AU 4 i λ_ i=>?_;exact Eq.mpr (Atj ..) i,
  trivial⟩) rfl d
theorem Axr(J:eW):Bb c k q53 u53 (f53 J) d53 Tryz.f53 .root f h=Vr c k J (f 0) (f 1) h:=by kernel_rfl
theorem Aul(J:eW)(a b:Int):Bb c k q53 u53 (f53 J) d53 Tryz.f53 (.l (.r (.l (.r .root)))) (Aq (Aq f 7 (.int .i64 a)) 8 (.int .i64 b)) h=VH c k J (f 0) (f 1) a b h:=by kernel_rfl
theorem w53(b:Ay c){n:Nat}{a:List U}(d:f53 (cf c k n) 0 (Ab a) h):Al 53 a h k:=
 BR b q53 Tryz.func53 rfl (by kernel_rfl) (by kernel_rfl) k u53 (λn=>f53 (cf c k n)) (λg _ _ i=>match g,i with
  |0,i=>i
  |1,i=>AT i λ_ i=>AT i λ_ i=>i
  |_+2,i=>i) (λn=>⟨
  λf h i=>Eq.mpr (Axr ..) i,
  λf h i=>by refine AU 7 i λ_ i=>?_;refine AU 8 i λ_ i=>?_;exact Eq.mpr (Aul ..) i,
  trivial⟩) rfl d
theorem w57(b:Ay c){d:Nat}{a:List U}(f:Az env c q57 u57 d57 (Ax env Tryz.f57.results.toList k) d 0 (Ab a) h):Al 57 a h k:=AI mixed AO b q57 Tryz.func57 rfl (by kernel_rfl) (by kernel_rfl) (by kernel_rfl) (by simp[u57]) f
theorem Aua(J:mn):Bb c k q61 u61 (f61 J) d61 Tryz.f61 .root f h=Xw c k J (f 0) h:=by kernel_rfl
theorem w61(b:Ay c){n:Nat}{a:List U}(d:f61 (mO c k n) 0 (Ab a) h):Al 61 a h k:=
 BR b q61 Tryz.func61 rfl (by kernel_rfl) (by kernel_rfl) k u61 (λn=>f61 (mO c k n)) (λg _ _ i=>match g,i with
  |0,i=>i
  |_+1,i=>i) (λn=>⟨
  λf h i=>Eq.mpr (Aua ..) i,
  trivial⟩) rfl d
theorem w73(b:Ay c){d:Nat}{a:List U}(f:Az env c q73 u73 d73 (Ax env Tryz.f73.results.toList k) d 0 (Ab a) h):Al 73 a h k:=AI mixed AO b q73 Tryz.func73 rfl (by kernel_rfl) (by kernel_rfl) (by kernel_rfl) (by simp[u73]) f
theorem Auy(J:J75)(a b:Nat):Bb c k q75 u75 (f75 J) d75 Tryz.f75 .root (Aq f 0 (.str a b)) h=Wz c k J a b h:=by kernel_rfl
theorem w75(b:Ay c){n:Nat}{a:List U}(d:f75 (qS c k n) 0 (Ab a) h):Al 75 a h k:=
 BR b q75 Tryz.func75 rfl (by kernel_rfl) (by kernel_rfl) k u75 (λn=>f75 (qS c k n)) (λg _ _ i=>match g,i with
  |0,i=>BV i λ_ _ i=>i
  |_+1,i=>i) (λn=>⟨
  λf h i=>by refine BT 0 i λ_ _ i=>?_;exact Eq.mpr (Auy ..) i,
  trivial⟩) rfl d
theorem Aup(J:qM):Bb c k q83 u83 (f83 J) d83 Tryz.f83 .root f h=Rv c k J (f 0) (f 1) h:=by kernel_rfl
theorem w83(b:Ay c){n:Nat}{a:List U}(d:f83 (r83 c k n) 0 (Ab a) h):Al 83 a h k:=
 BR b q83 Tryz.func83 rfl (by kernel_rfl) (by kernel_rfl) k u83 (λn=>f83 (r83 c k n)) (λg _ _ i=>match g,i with
  |0,i=>i
  |_+1,i=>i) (λn=>⟨
  λf h i=>Eq.mpr (Aup ..) i,
  trivial⟩) rfl d
theorem Axq(J:Pj)(a:Int):Bb c k ll jw (f84 J) d84 Tryz.f84 .root (Aq f 1 (.int .i64 a)) h=VX c k J (f 0) a (f 2) h:=by kernel_rfl
theorem Asw(J:Pj):Bb c k ll jw (f84 J) d84 Tryz.f84 (.r (.r (.l (.r (.l (.r (.r (.r (.r .root))))))))) f h=Aea c k J (f 0) (f 6) h:=by kernel_rfl
theorem Art(J:Pj)(a:Int)(b:Bool):Bb c k ll jw (f84 J) d84 Tryz.f84 (.r (.r (.r (.l (.r (.r (.r (.r .root)))))))) (Aq (Aq f 1 (.int .i64 a)) 81 (.bool b)) h=Yg c k J (f 0) a b h:=by kernel_rfl
theorem Asr(J:Pj)(a b:Int)(d:Bool):Bb c k ll jw (f84 J) d84 Tryz.f84 (.r (.l (.r (.r (.r (.r .root)))))) (Aq (Aq (Aq f 1 (.int .i64 a)) 34 (.int .i64 b)) 41 (.bool d)) h=Xg c k J (f 0) a b d h:=by kernel_rfl
theorem Awp(J:Pj)(a:Int):Bb c k ll jw (f84 J) d84 Tryz.f84 (.r (.r (.r .root))) (Aq f 1 (.int .i64 a)) h=XU c k J (f 0) a h:=by kernel_rfl
theorem w84(b:Ay c){n:Nat}{a:List U}(d:f84 (PU c k n) 0 (Ab a) h):Al 84 a h k:=
 BR b ll Tryz.func84 rfl (by kernel_rfl) (by kernel_rfl) k jw (λn=>f84 (PU c k n)) (λg _ _ i=>match g,i with
  |0,i=>AT i λ_ i=>i
  |1,i=>i
  |2,i=>AT i λ_ i=>Hh i λ_ i=>i
  |3,i=>AT i λ_ i=>AT i λ_ i=>Hh i λ_ i=>i
  |4,i=>AT i λ_ i=>i
  |_+5,i=>i) (λn=>⟨
  λf h i=>by refine AU 1 i λ_ i=>?_;exact Eq.mpr (Axq ..) i,
  λf h i=>Eq.mpr (Asw ..) i,
  λf h i=>by refine AU 1 i λ_ i=>?_;refine Ha 81 i λ_ i=>?_;exact Eq.mpr (Art ..) i,
  λf h i=>by refine AU 1 i λ_ i=>?_;refine AU 34 i λ_ i=>?_;refine Ha 41 i λ_ i=>?_;exact Eq.mpr (Asr ..) i,
  λf h i=>by refine AU 1 i λ_ i=>?_;exact Eq.mpr (Awp ..) i,
  trivial⟩) rfl d
theorem Ars(J:cC):Bb c k q86 u86 (f86 J) d86 Tryz.f86 .root f h=Xc c k J (f 0) (f 1) h:=by kernel_rfl
theorem Awh(J:cC)(a b:Int):Bb c k q86 u86 (f86 J) d86 Tryz.f86 (.l (.r (.l (.r (.r (.r .root)))))) (Aq (Aq f 34 (.int .i64 a)) 35 (.int .i64 b)) h=XW c k J (f 0) (f 3) (f 33) a b h:=by kernel_rfl
theorem w86(b:Ay c){n:Nat}{a:List U}(d:f86 (ay c k n) 0 (Ab a) h):Al 86 a h k:=
 BR b q86 Tryz.func86 rfl (by kernel_rfl) (by kernel_rfl) k u86 (λn=>f86 (ay c k n)) (λg _ _ i=>match g,i with
  |0,i=>i
  |1,i=>AT i λ_ i=>AT i λ_ i=>i
  |_+2,i=>i) (λn=>⟨
  λf h i=>Eq.mpr (Ars ..) i,
  λf h i=>by refine AU 34 i λ_ i=>?_;refine AU 35 i λ_ i=>?_;exact Eq.mpr (Awh ..) i,
  trivial⟩) rfl d
theorem w92(b:Ay c){d:Nat}{a:List U}(f:Az env c q92 u92 d92 (Ax env Tryz.f92.results.toList k) d 0 (Ab a) h):Al 92 a h k:=AI mixed AO b q92 Tryz.func92 rfl (by kernel_rfl) (by kernel_rfl) (by kernel_rfl) (by simp[u92]) f
theorem Ase(J:dV):Bb c k q94 u94 (f94 J) d94 Tryz.f94 .root f h=Xx c k J (f 0) (f 1) h:=by kernel_rfl
theorem Awq(J:dV):Bb c k q94 u94 (f94 J) d94 Tryz.f94 (.r (.r .root)) f h=mP c k J (f 3) (f 4) h:=by kernel_rfl
theorem w94(b:Ay c){n:Nat}{a:List U}(d:f94 (qx c k n) 0 (Ab a) h):Al 94 a h k:=
 BR b q94 Tryz.func94 rfl (by kernel_rfl) (by kernel_rfl) k u94 (λn=>f94 (qx c k n)) (λg _ _ i=>match g,i with
  |0,i=>i
  |1,i=>i
  |_+2,i=>i) (λn=>⟨
  λf h i=>Eq.mpr (Ase ..) i,
  λf h i=>Eq.mpr (Awq ..) i,
  trivial⟩) rfl d
theorem Asm(J:J95)(a b:Nat):Bb c k q95 u95 (f95 J) d95 Tryz.f95 .root (Aq f 1 (.str a b)) h=Xk c k J (f 0) a b h:=by kernel_rfl
theorem w95(b:Ay c){n:Nat}{a:List U}(d:f95 (tf c k n) 0 (Ab a) h):Al 95 a h k:=
 BR b q95 Tryz.func95 rfl (by kernel_rfl) (by kernel_rfl) k u95 (λn=>f95 (tf c k n)) (λg _ _ i=>match g,i with
  |0,i=>BV i λ_ _ i=>i
  |_+1,i=>i) (λn=>⟨
  λf h i=>by refine BT 1 i λ_ _ i=>?_;exact Eq.mpr (Asm ..) i,
  trivial⟩) rfl d
theorem Bdp(b:Ay c){d:Nat}{a:List U}(f:Az env c Abc mV d100 (Ax env Tryz.f100.results.toList k) d 0 (Ab a) h):Al 100 a h k:=AI mixed AO b Abc Tryz.func100 rfl (by kernel_rfl) (by kernel_rfl) (by kernel_rfl) (by simp[mV]) f
theorem Akb(J:Zi):Bb c k Alj Anv (f106 J) d106 Tryz.f106 .root f h=P8 c k J (f 0) h:=by kernel_rfl
theorem Apn(b:Ay c){n:Nat}{a:List U}(d:f106 (ag c k n) 0 (Ab a) h):Al 106 a h k:=
 BR b Alj Tryz.func106 rfl (by kernel_rfl) (by kernel_rfl) k Anv (λn=>f106 (ag c k n)) (λg _ _ i=>match g,i with
  |0,i=>i
  |_+1,i=>i) (λn=>⟨
  λf h i=>Eq.mpr (Akb ..) i,
  trivial⟩) rfl d
theorem Bev(b:Ay c){d:Nat}{a:List U}(f:Az env c sY tE d109 (Ax env Tryz.f109.results.toList k) d 0 (Ab a) h):Al 109 a h k:=AI mixed AO b sY Tryz.func109 rfl (by kernel_rfl) (by kernel_rfl) (by kernel_rfl) (by simp[tE]) f
theorem Agl(J:NW):Bb c k iK iV (f125 J) d125 Tryz.f125 .root f h=QR c k J (f 0) h:=by kernel_rfl
theorem Akg(J:NW):Bb c k iK iV (f125 J) d125 Tryz.f125 (.l (.l (.l (.r (.l (.l (.r (.r .root)))))))) f h=QY c k J (f 0) h:=by kernel_rfl
theorem Aiz(J:NW)(a:Int):Bb c k iK iV (f125 J) d125 Tryz.f125 (.l (.r (.l (.r (.r (.r .root)))))) (Aq f 4 (.int .i64 a)) h=QS c k J (f 0) a h:=by kernel_rfl
theorem Anp(b:Ay c){n:Nat}{a:List U}(d:f125 (KO c k n) 0 (Ab a) h):Al 125 a h k:=
 BR b iK Tryz.func125 rfl (by kernel_rfl) (by kernel_rfl) k iV (λn=>f125 (KO c k n)) (λg _ _ i=>match g,i with
  |0,i=>i
  |1,i=>i
  |2,i=>AT i λ_ i=>i
  |_+3,i=>i) (λn=>⟨
  λf h i=>Eq.mpr (Agl ..) i,
  λf h i=>Eq.mpr (Akg ..) i,
  λf h i=>by refine AU 4 i λ_ i=>?_;exact Eq.mpr (Aiz ..) i,
  trivial⟩) rfl d
theorem Bae(b:Ay c){d:Nat}{a:List U}(f:Az env c Aeq pI d129 (Ax env Tryz.f129.results.toList k) d 0 (Ab a) h):Al 129 a h k:=AI mixed AO b Aeq Tryz.func129 rfl (by kernel_rfl) (by kernel_rfl) (by kernel_rfl) (by simp[pI]) f
theorem Bgq(b:Ay c){d:Nat}{a:List U}(f:Az env c qX Aci d146 (Ax env Tryz.f146.results.toList k) d 0 (Ab a) h):Al 146 a h k:=AI mixed AO b qX Tryz.func146 rfl (by kernel_rfl) (by kernel_rfl) (by kernel_rfl) (by simp[Aci]) f
theorem Bcf(b:Ay c){d:Nat}{a:List U}(f:Az env c sB uQ d153 (Ax env Tryz.f153.results.toList k) d 0 (Ab a) h):Al 153 a h k:=AI mixed AO b sB Tryz.func153 rfl (by kernel_rfl) (by kernel_rfl) (by kernel_rfl) (by simp[uQ]) f
theorem Bdi(b:Ay c){d:Nat}{a:List U}(f:Az env c ua Adc d157 (Ax env Tryz.f157.results.toList k) d 0 (Ab a) h):Al 157 a h k:=AI mixed AO b ua Tryz.func157 rfl (by kernel_rfl) (by kernel_rfl) (by kernel_rfl) (by simp[Adc]) f
theorem Afo(J:N5):Bb c k gR fJ (f163 J) d163 Tryz.f163 .root f h=Ql c k J (f 0) h:=by kernel_rfl
theorem Aje(J:N5)(a b:Int):Bb c k gR fJ (f163 J) d163 Tryz.f163 (.l (.r (.l (.r (.r .root))))) (Aq (Aq f 7 (.int .i64 a)) 8 (.int .i64 b)) h=NN c k J (f 3) (f 6) a b h:=by kernel_rfl
theorem Afw(J:N5)(a b:Int):Bb c k gR fJ (f163 J) d163 Tryz.f163 (.r (.r (.l (.l (.r (.r (.l (.l (.r (.l (.r (.r .root)))))))))))) (Aq (Aq f 7 (.int .i64 a)) 8 (.int .i64 b)) h=QD c k J (f 3) (f 5) (f 6) a b h:=by kernel_rfl
theorem Ams(b:Ay c){n:Nat}{a:List U}(d:f163 (Ll c k n) 0 (Ab a) h):Al 163 a h k:=
 BR b gR Tryz.func163 rfl (by kernel_rfl) (by kernel_rfl) k fJ (λn=>f163 (Ll c k n)) (λg _ _ i=>match g,i with
  |0,i=>i
  |1,i=>AT i λ_ i=>AT i λ_ i=>i
  |2,i=>AT i λ_ i=>AT i λ_ i=>i
  |_+3,i=>i) (λn=>⟨
  λf h i=>Eq.mpr (Afo ..) i,
  λf h i=>by refine AU 7 i λ_ i=>?_;refine AU 8 i λ_ i=>?_;exact Eq.mpr (Aje ..) i,
  λf h i=>by refine AU 7 i λ_ i=>?_;refine AU 8 i λ_ i=>?_;exact Eq.mpr (Afw ..) i,
  trivial⟩) rfl d
theorem Ajy(J:ZZ)(a:Int):Bb c k Aml Alq (f176 J) d176 Tryz.f176 .root (Aq f 0 (.int .u8 a)) h=Q2 c k J a h:=by kernel_rfl
theorem Ang(b:Ay c){n:Nat}{a:List U}(d:f176 (aH c k n) 0 (Ab a) h):Al 176 a h k:=
 BR b Aml Tryz.func176 rfl (by kernel_rfl) (by kernel_rfl) k Alq (λn=>f176 (aH c k n)) (λg _ _ i=>match g,i with
  |0,i=>AT i λ_ i=>i
  |_+1,i=>i) (λn=>⟨
  λf h i=>by refine AU 0 i λ_ i=>?_;exact Eq.mpr (Ajy ..) i,
  trivial⟩) rfl d
theorem Akj(J:LB):Bb c k aR Yi (f177 J) d177 Tryz.f177 .root f h=Qt c k J (f 0) h:=by kernel_rfl
theorem Ahf(J:LB)(a:Int):Bb c k aR Yi (f177 J) d177 Tryz.f177 (.l (.r (.r (.r (.r (.r .root)))))) (Aq f 3 (.int .i64 a)) h=Qg c k J (f 0) a h:=by kernel_rfl
theorem Ahs(J:LB)(a:Int):Bb c k aR Yi (f177 J) d177 Tryz.f177 (.r (.l (.l (.r (.r (.r (.r (.r .root)))))))) (Aq f 3 (.int .i64 a)) h=P9 c k J (f 0) a h:=by kernel_rfl
theorem Afi(J:LB)(a:Int):Bb c k aR Yi (f177 J) d177 Tryz.f177 (.r (.r (.r .root))) (Aq f 3 (.int .i64 a)) h=Qu c k J (f 0) a h:=by kernel_rfl
theorem Aod(b:Ay c){n:Nat}{a:List U}(d:f177 (Iv c k n) 0 (Ab a) h):Al 177 a h k:=
 BR b aR Tryz.func177 rfl (by kernel_rfl) (by kernel_rfl) k Yi (λn=>f177 (Iv c k n)) (λg _ _ i=>match g,i with
  |0,i=>i
  |1,i=>AT i λ_ i=>i
  |2,i=>AT i λ_ i=>i
  |3,i=>AT i λ_ i=>i
  |_+4,i=>i) (λn=>⟨
  λf h i=>Eq.mpr (Akj ..) i,
  λf h i=>by refine AU 3 i λ_ i=>?_;exact Eq.mpr (Ahf ..) i,
  λf h i=>by refine AU 3 i λ_ i=>?_;exact Eq.mpr (Ahs ..) i,
  λf h i=>by refine AU 3 i λ_ i=>?_;exact Eq.mpr (Afi ..) i,
  trivial⟩) rfl d
theorem Beo(b:Ay c){d:Nat}{a:List U}(f:Az env c qK Acs d192 (Ax env Tryz.f192.results.toList k) d 0 (Ab a) h):Al 192 a h k:=AI mixed AO b qK Tryz.func192 rfl (by kernel_rfl) (by kernel_rfl) (by kernel_rfl) (by simp[Acs]) f
theorem Bfe(b:Ay c){d:Nat}{a:List U}(f:Az env c qv Aef d202 (Ax env Tryz.f202.results.toList k) d 0 (Ab a) h):Al 202 a h k:=AI mixed AO b qv Tryz.func202 rfl (by kernel_rfl) (by kernel_rfl) (by kernel_rfl) (by simp[Aef]) f
theorem Bcs(b:Ay c){d:Nat}{a:List U}(f:Az env c mF Adn d207 (Ax env Tryz.f207.results.toList k) d 0 (Ab a) h):Al 207 a h k:=AI mixed AO b mF Tryz.func207 rfl (by kernel_rfl) (by kernel_rfl) (by kernel_rfl) (by simp[Adn]) f
theorem Ajh(J:Yq):Bb c k Amd Aoo (f211 J) d211 Tryz.f211 .root f h=Qc c k J (f 0) h:=by kernel_rfl
theorem Aql(b:Ay c){n:Nat}{a:List U}(d:f211 (ah c k n) 0 (Ab a) h):Al 211 a h k:=
 BR b Amd Tryz.func211 rfl (by kernel_rfl) (by kernel_rfl) k Aoo (λn=>f211 (ah c k n)) (λg _ _ i=>match g,i with
  |0,i=>i
  |_+1,i=>i) (λn=>⟨
  λf h i=>Eq.mpr (Ajh ..) i,
  trivial⟩) rfl d
theorem Bfg(b:Ay c){d:Nat}{a:List U}(f:Az env c Abj rp d226 (Ax env Tryz.f226.results.toList k) d 0 (Ab a) h):Al 226 a h k:=AI mixed AO b Abj Tryz.func226 rfl (by kernel_rfl) (by kernel_rfl) (by kernel_rfl) (by simp[rp]) f
theorem Bfl(b:Ay c){d:Nat}{a:List U}(f:Az env c su rN d238 (Ax env Tryz.f238.results.toList k) d 0 (Ab a) h):Al 238 a h k:=AI mixed AO b su Tryz.func238 rfl (by kernel_rfl) (by kernel_rfl) (by kernel_rfl) (by simp[rN]) f
theorem Bbe(b:Ay c){d:Nat}{a:List U}(f:Az env c Ack rW d244 (Ax env Tryz.f244.results.toList k) d 0 (Ab a) h):Al 244 a h k:=AI mixed AO b Ack Tryz.func244 rfl (by kernel_rfl) (by kernel_rfl) (by kernel_rfl) (by simp[rW]) f
theorem Bbm(b:Ay c){d:Nat}{a:List U}(f:Az env c me lU d260 (Ax env Tryz.f260.results.toList k) d 0 (Ab a) h):Al 260 a h k:=AI mixed AO b me Tryz.func260 rfl (by kernel_rfl) (by kernel_rfl) (by kernel_rfl) (by simp[lU]) f
theorem Bhc(b:Ay c){d:Nat}{a:List U}(f:Az env c Aen mC d264 (Ax env Tryz.f264.results.toList k) d 0 (Ab a) h):Al 264 a h k:=AI mixed AO b Aen Tryz.func264 rfl (by kernel_rfl) (by kernel_rfl) (by kernel_rfl) (by simp[mC]) f
theorem Bdw(b:Ay c){d:Nat}{a:List U}(f:Az env c uv tP d289 (Ax env Tryz.f289.results.toList k) d 0 (Ab a) h):Al 289 a h k:=AI mixed AO b uv Tryz.func289 rfl (by kernel_rfl) (by kernel_rfl) (by kernel_rfl) (by simp[tP]) f
theorem Bbq(b:Ay c){d:Nat}{a:List U}(f:Az env c th sw d293 (Ax env Tryz.f293.results.toList k) d 0 (Ab a) h):Al 293 a h k:=AI mixed AO b th Tryz.func293 rfl (by kernel_rfl) (by kernel_rfl) (by kernel_rfl) (by simp[sw]) f
theorem Bhh(b:Ay c){d:Nat}{a:List U}(f:Az env c Adx qb d300 (Ax env Tryz.f300.results.toList k) d 0 (Ab a) h):Al 300 a h k:=AI mixed AO b Adx Tryz.func300 rfl (by kernel_rfl) (by kernel_rfl) (by kernel_rfl) (by simp[qb]) f
theorem Bgd(b:Ay c){d:Nat}{a:List U}(f:Az env c um oW d321 (Ax env Tryz.f321.results.toList k) d 0 (Ab a) h):Al 321 a h k:=AI mixed AO b um Tryz.func321 rfl (by kernel_rfl) (by kernel_rfl) (by kernel_rfl) (by simp[oW]) f
theorem Bbz(b:Ay c){d:Nat}{a:List U}(f:Az env c sP Aap d329 (Ax env Tryz.f329.results.toList k) d 0 (Ab a) h):Al 329 a h k:=AI mixed AO b sP Tryz.func329 rfl (by kernel_rfl) (by kernel_rfl) (by kernel_rfl) (by simp[Aap]) f
theorem Axx(b:Ay c){d:Nat}{a:List U}(f:Az env c oa Abu d355 (Ax env Tryz.f355.results.toList k) d 0 (Ab a) h):Al 355 a h k:=AI mixed AO b oa Tryz.func355 rfl (by kernel_rfl) (by kernel_rfl) (by kernel_rfl) (by simp[Abu]) f
end Go.Den
