/-
 Proof. the pieces are what the program PD.
-/
import Derived.Test.YtmgalljhidgnoaaGreatDoorRunA1
import Derived.KernelRfl
namespace Go.Den
open Go.Proofs
set_option maxRecDepth 100000
variable{c:CF}{k:KV}{f:FT}{h:H}
theorem Bbg(J:J5):Bb c k q5 u5 (f5 J) d5 Tryz.f5 .root f h=fK c k J (f 0) (f 1) h:=by kernel_rfl
theorem Bcp(J:J5)(a:Int):Bb c k q5 u5 (f5 J) d5 Tryz.f5 (.l (.r (.l (.r (.r (.r (.r .root))))))) (Aq f 10 (.int .i64 a)) h=Z2 c k J (f 1) (f 7) (f 9) a h:=by kernel_rfl
theorem w5(b:Ay c){n:Nat}{a:List U}(d:f5 (r5 c k n) 0 (Ab a) h):Al 5 a h k:=
 BR b q5 Tryz.func5 rfl (by kernel_rfl) (by kernel_rfl) k u5 (λn=>f5 (r5 c k n)) (λg _ _ i=>match g,i with
  |0,i=>i
  |1,i=>AT i λ_ i=>i
  |_+2,i=>i) (λn=>⟨
  λf h i=>Eq.mpr (Bbg ..) i,
  λf h i=>by refine AU 10 i λ_ i=>?_;exact Eq.mpr (Bcp ..) i,
  trivial⟩) rfl d
theorem Ayf(J:J7)(a b:Nat)(d g:Nat):Bb c k q7 u7 (f7 J) d7 Tryz.f7 .root (Aq (Aq f 0 (.str a b)) 1 (.str d g)) h=YD c k J a b d g h:=by kernel_rfl
theorem Aye(J:J7)(a b:Nat)(d g:Nat)(i:Bool)(j:Int):Bb c k q7 u7 (f7 J) d7 Tryz.f7 (.l (.r (.l (.r (.r (.r (.r (.r (.r .root))))))))) (Aq (Aq (Aq (Aq f 0 (.str a b)) 1 (.str d g)) 10 (.bool i)) 11 (.int .i64 j)) h=PI c k J a b d g (f 6) (f 7) (f 8) (f 9) i j h:=by kernel_rfl
theorem Bhr(J:J7)(a b:Nat)(d g:Nat)(i:Int):Bb c k q7 u7 (f7 J) d7 Tryz.f7 (.r (.r (.r (.r (.r (.r (.r (.r (.l (.r (.l (.l (.r (.l (.r (.r (.r (.r (.r (.r .root)))))))))))))))))))) (Aq (Aq (Aq f 0 (.str a b)) 1 (.str d g)) 15 (.int .i64 i)) h=gO c k J a b d g (f 6) (f 7) (f 8) (f 9) i h:=by kernel_rfl
theorem Bgm(J:J7):Bb c k q7 u7 (f7 J) d7 Tryz.f7 (.r (.r (.r (.r (.r (.r (.r (.r .root)))))))) f h=Yj c k J (f 7) (f 8) h:=by kernel_rfl
theorem Bbl(J:J7)(a b:Nat):Bb c k q7 u7 (f7 J) d7 Tryz.f7 (.r (.l (.r (.l (.l (.r (.l (.r (.r (.r (.l (.r (.l (.l (.r (.l (.r (.r (.r (.r (.r (.r .root)))))))))))))))))))))) (Aq f 1 (.str a b)) h=Anh c k J a b (f 7) (f 8) (f 9) h:=by kernel_rfl
theorem Bhl(J:J7)(a b:Nat)(d g:Nat)(i:Bool)(j l m:Int)(n:Bool):Bb c k q7 u7 (f7 J) d7 Tryz.f7 (.r (.r (.r (.r (.r (.l (.r (.l (.l (.r (.l (.r (.r (.r (.r (.r (.r .root))))))))))))))))) (Aq (Aq (Aq (Aq (Aq (Aq (Aq f 0 (.str a b)) 1 (.str d g)) 10 (.bool i)) 11 (.int .i64 j)) 14 (.int .i64 l)) 15 (.int .i64 m)) 16 (.bool n)) h=gM c k J a b d g (f 6) (f 7) (f 8) (f 9) i j l m n h:=by kernel_rfl
theorem w7(b:Ay c){n:Nat}{a:List U}(d:f7 (r7 c k n) 0 (Ab a) h):Al 7 a h k:=
 BR b q7 Tryz.func7 rfl (by kernel_rfl) (by kernel_rfl) k u7 (λn=>f7 (r7 c k n)) (λg _ _ i=>match g,i with
  |0,i=>BV i λ_ _ i=>BV i λ_ _ i=>i
  |1,i=>BV i λ_ _ i=>BV i λ_ _ i=>Hh i λ_ i=>AT i λ_ i=>i
  |2,i=>BV i λ_ _ i=>BV i λ_ _ i=>AT i λ_ i=>i
  |3,i=>i
  |4,i=>BV i λ_ _ i=>i
  |5,i=>BV i λ_ _ i=>BV i λ_ _ i=>Hh i λ_ i=>AT i λ_ i=>AT i λ_ i=>AT i λ_ i=>Hh i λ_ i=>i
  |_+6,i=>i) (λn=>⟨
  λf h i=>by refine BT 0 i λ_ _ i=>?_;refine BT 1 i λ_ _ i=>?_;exact Eq.mpr (Ayf ..) i,
  λf h i=>by refine BT 0 i λ_ _ i=>?_;refine BT 1 i λ_ _ i=>?_;refine Ha 10 i λ_ i=>?_;refine AU 11 i λ_ i=>?_;exact Eq.mpr (Aye ..) i,
  λf h i=>by refine BT 0 i λ_ _ i=>?_;refine BT 1 i λ_ _ i=>?_;refine AU 15 i λ_ i=>?_;exact Eq.mpr (Bhr ..) i,
  λf h i=>Eq.mpr (Bgm ..) i,
  λf h i=>by refine BT 1 i λ_ _ i=>?_;exact Eq.mpr (Bbl ..) i,
  λf h i=>by refine BT 0 i λ_ _ i=>?_;refine BT 1 i λ_ _ i=>?_;refine Ha 10 i λ_ i=>?_;refine AU 11 i λ_ i=>?_;refine AU 14 i λ_ i=>?_;refine AU 15 i λ_ i=>?_;refine Ha 16 i λ_ i=>?_;exact Eq.mpr (Bhl ..) i,
  trivial⟩) rfl d
theorem Azt(J:J8):Bb c k q8 u8 (f8 J) d8 Tryz.f8 .root f h=fO c k J (f 0) h:=by kernel_rfl
theorem Bau(J:J8)(a b:Nat)(d:Int):Bb c k q8 u8 (f8 J) d8 Tryz.f8 (.l (.r (.l (.r (.r .root))))) (Aq (Aq f 3 (.str a b)) 4 (.int .i64 d)) h=Zj c k J (f 0) a b d h:=by kernel_rfl
theorem Bff(J:J8)(a b:Nat)(d:Int):Bb c k q8 u8 (f8 J) d8 Tryz.f8 (.r (.l (.l (.r (.l (.l (.r (.l (.r (.r .root)))))))))) (Aq (Aq f 3 (.str a b)) 4 (.int .i64 d)) h=fT c k J (f 0) a b d h:=by kernel_rfl
theorem w8(b:Ay c){n:Nat}{a:List U}(d:f8 (r8 c k n) 0 (Ab a) h):Al 8 a h k:=
 BR b q8 Tryz.func8 rfl (by kernel_rfl) (by kernel_rfl) k u8 (λn=>f8 (r8 c k n)) (λg _ _ i=>match g,i with
  |0,i=>i
  |1,i=>BV i λ_ _ i=>AT i λ_ i=>i
  |2,i=>BV i λ_ _ i=>AT i λ_ i=>i
  |_+3,i=>i) (λn=>⟨
  λf h i=>Eq.mpr (Azt ..) i,
  λf h i=>by refine BT 3 i λ_ _ i=>?_;refine AU 4 i λ_ i=>?_;exact Eq.mpr (Bau ..) i,
  λf h i=>by refine BT 3 i λ_ _ i=>?_;refine AU 4 i λ_ i=>?_;exact Eq.mpr (Bff ..) i,
  trivial⟩) rfl d
theorem Atr(J:pL):Bb c k q10 u10 (f10 J) d10 Tryz.f10 .root f h=W0 c k J (f 0) h:=by kernel_rfl
theorem w10(b:Ay c){n:Nat}{a:List U}(d:f10 (cK c k n) 0 (Ab a) h):Al 10 a h k:=
 BR b q10 Tryz.func10 rfl (by kernel_rfl) (by kernel_rfl) k u10 (λn=>f10 (cK c k n)) (λg _ _ i=>match g,i with
  |0,i=>i
  |_+1,i=>i) (λn=>⟨
  λf h i=>Eq.mpr (Atr ..) i,
  trivial⟩) rfl d
theorem Avy(J:cG):Bb c k q16 u16 (f16 J) d16 Tryz.f16 .root f h=RX c k J (f 0) (f 1) (f 2) (f 3) h:=by kernel_rfl
theorem Awu(J:cG)(a b:Int):Bb c k q16 u16 (f16 J) d16 Tryz.f16 (.l (.r (.l (.r (.r (.r .root)))))) (Aq (Aq f 43 (.int .i64 a)) 44 (.int .i64 b)) h=ON c k J (f 8) (f 9) (f 42) a b h:=by kernel_rfl
theorem w16(b:Ay c){n:Nat}{a:List U}(d:f16 (r16 c k n) 0 (Ab a) h):Al 16 a h k:=
 BR b q16 Tryz.func16 rfl (by kernel_rfl) (by kernel_rfl) k u16 (λn=>f16 (r16 c k n)) (λg _ _ i=>match g,i with
  |0,i=>i
  |1,i=>AT i λ_ i=>AT i λ_ i=>i
  |_+2,i=>i) (λn=>⟨
  λf h i=>Eq.mpr (Avy ..) i,
  λf h i=>by refine AU 43 i λ_ i=>?_;refine AU 44 i λ_ i=>?_;exact Eq.mpr (Awu ..) i,
  trivial⟩) rfl d
theorem Avx(J:Xl)(a:Int):Bb c k T9 u19 (f19 J) d19 Tryz.f19 .root (Aq f 1 (.int .i64 a)) h=XL c k J (f 0) a h:=by kernel_rfl
theorem Asd(J:Xl)(a:Int):Bb c k T9 u19 (f19 J) d19 Tryz.f19 (.l (.l (.r (.l (.r (.l (.r (.r .root)))))))) (Aq f 6 (.int .i64 a)) h=pf c k J (f 0) a h:=by kernel_rfl
theorem Arf(J:Xl)(a:Int):Bb c k T9 u19 (f19 J) d19 Tryz.f19 (.l (.r (.l (.r (.r (.r (.r .root))))))) (Aq f 7 (.int .i64 a)) h=Adf c k J (f 0) a h:=by kernel_rfl
theorem w19(b:Ay c){n:Nat}{a:List U}(d:f19 (O7 c k n) 0 (Ab a) h):Al 19 a h k:=
 BR b T9 Tryz.func19 rfl (by kernel_rfl) (by kernel_rfl) k u19 (λn=>f19 (O7 c k n)) (λg _ _ i=>match g,i with
  |0,i=>AT i λ_ i=>i
  |1,i=>AT i λ_ i=>i
  |2,i=>AT i λ_ i=>i
  |_+3,i=>i) (λn=>⟨
  λf h i=>by refine AU 1 i λ_ i=>?_;exact Eq.mpr (Avx ..) i,
  λf h i=>by refine AU 6 i λ_ i=>?_;exact Eq.mpr (Asd ..) i,
  λf h i=>by refine AU 7 i λ_ i=>?_;exact Eq.mpr (Arf ..) i,
  trivial⟩) rfl d
theorem w30(b:Ay c){d:Nat}{a:List U}(f:Az env c q30 u30 d30 (Ax env Tryz.f30.results.toList k) d 0 (Ab a) h):Al 30 a h k:=AI mixed AO b q30 Tryz.func30 rfl (by kernel_rfl) (by kernel_rfl) (by kernel_rfl) (by simp[u30]) f
theorem Ard(J:Ra)(a b:Nat)(d g:Nat):Bb c k q39 pB (f39 J) d39 Tryz.f39 .root (Aq (Aq f 0 (.str a b)) 1 (.str d g)) h=Wy c k J a b d g h:=by kernel_rfl
theorem Auv(J:Ra)(a b:Nat)(d:Int):Bb c k q39 pB (f39 J) d39 Tryz.f39 (.l (.l (.r (.r (.r .root))))) (Aq (Aq f 1 (.str a b)) 7 (.int .i64 d)) h=WJ c k J a b (f 4) (f 6) d h:=by kernel_rfl
theorem Ati(J:Ra)(a b:Nat):Bb c k q39 pB (f39 J) d39 Tryz.f39 (.r (.r (.l (.r (.l (.l (.l (.r (.r (.r .root)))))))))) (Aq f 1 (.str a b)) h=XZ c k J a b (f 4) (f 6) (f 8) h:=by kernel_rfl
theorem Aru(J:Ra):Bb c k q39 pB (f39 J) d39 Tryz.f39 (.r (.r (.r (.r (.r .root))))) f h=Yb c k J (f 4) (f 6) h:=by kernel_rfl
theorem w39(b:Ay c){n:Nat}{a:List U}(d:f39 (NQ c k n) 0 (Ab a) h):Al 39 a h k:=
 BR b q39 Tryz.func39 rfl (by kernel_rfl) (by kernel_rfl) k pB (λn=>f39 (NQ c k n)) (λg _ _ i=>match g,i with
  |0,i=>BV i λ_ _ i=>BV i λ_ _ i=>i
  |1,i=>BV i λ_ _ i=>AT i λ_ i=>i
  |2,i=>BV i λ_ _ i=>i
  |3,i=>i
  |_+4,i=>i) (λn=>⟨
  λf h i=>by refine BT 0 i λ_ _ i=>?_;refine BT 1 i λ_ _ i=>?_;exact Eq.mpr (Ard ..) i,
  λf h i=>by refine BT 1 i λ_ _ i=>?_;refine AU 7 i λ_ i=>?_;exact Eq.mpr (Auv ..) i,
  λf h i=>by refine BT 1 i λ_ _ i=>?_;exact Eq.mpr (Ati ..) i,
  λf h i=>Eq.mpr (Aru ..) i,
  trivial⟩) rfl d
theorem Auz(J:qk):Bb c k q40 u40 (f40 J) d40 Tryz.f40 .root f h=VI c k J (f 0) h:=by kernel_rfl
theorem w40(b:Ay c){n:Nat}{a:List U}(d:f40 (r40 c k n) 0 (Ab a) h):Al 40 a h k:=
 BR b q40 Tryz.func40 rfl (by kernel_rfl) (by kernel_rfl) k u40 (λn=>f40 (r40 c k n)) (λg _ _ i=>match g,i with
  |0,i=>i
  |_+1,i=>i) (λn=>⟨
  λf h i=>Eq.mpr (Auz ..) i,
  trivial⟩) rfl d
theorem Asa(J:tq)(a:Int):Bb c k q43 u43 (f43 J) d43 Tryz.f43 .root (Aq f 1 (.int .i64 a)) h=Vq c k J (f 0) a h:=by kernel_rfl
theorem w43(b:Ay c){n:Nat}{a:List U}(d:f43 (rP c k n) 0 (Ab a) h):Al 43 a h k:=
 BR b q43 Tryz.func43 rfl (by kernel_rfl) (by kernel_rfl) k u43 (λn=>f43 (rP c k n)) (λg _ _ i=>match g,i with
  |0,i=>AT i λ_ i=>i
  |_+1,i=>i) (λn=>⟨
  λf h i=>by refine AU 1 i λ_ i=>?_;exact Eq.mpr (Asa ..) i,
  trivial⟩) rfl d
theorem w51(b:Ay c){d:Nat}{a:List U}(f:Az env c q51 u51 d51 (Ax env Tryz.f51.results.toList k) d 0 (Ab a) h):Al 51 a h k:=AI mixed AO b q51 Tryz.func51 rfl (by kernel_rfl) (by kernel_rfl) (by kernel_rfl) (by simp[u51]) f
theorem Arp(J:fb)(a b:Nat):Bb c k q56 u56 (f56 J) d56 Tryz.f56 .root (Aq f 1 (.str a b)) h=Vp c k J (f 0) a b h:=by kernel_rfl
theorem Auq(J:fb)(a b:Nat):Bb c k q56 u56 (f56 J) d56 Tryz.f56 (.r .root) (Aq f 1 (.str a b)) h=WH c k J (f 0) a b h:=by kernel_rfl
theorem w56(b:Ay c){n:Nat}{a:List U}(d:f56 (dF c k n) 0 (Ab a) h):Al 56 a h k:=
 BR b q56 Tryz.func56 rfl (by kernel_rfl) (by kernel_rfl) k u56 (λn=>f56 (dF c k n)) (λg _ _ i=>match g,i with
  |0,i=>BV i λ_ _ i=>i
  |1,i=>BV i λ_ _ i=>i
  |_+2,i=>i) (λn=>⟨
  λf h i=>by refine BT 1 i λ_ _ i=>?_;exact Eq.mpr (Arp ..) i,
  λf h i=>by refine BT 1 i λ_ _ i=>?_;exact Eq.mpr (Auq ..) i,
  trivial⟩) rfl d
theorem w59(b:Ay c){d:Nat}{a:List U}(f:Az env c q59 u59 d59 (Ax env Tryz.f59.results.toList k) d 0 (Ab a) h):Al 59 a h k:=AI mixed AO b q59 Tryz.func59 rfl (by kernel_rfl) (by kernel_rfl) (by kernel_rfl) (by simp[u59]) f
theorem Aqz(J:nZ)(a b:Nat):Bb c k q67 u67 (f67 J) d67 Tryz.f67 .root (Aq f 0 (.str a b)) h=V6 c k J a b h:=by kernel_rfl
theorem w67(b:Ay c){n:Nat}{a:List U}(d:f67 (qU c k n) 0 (Ab a) h):Al 67 a h k:=
 BR b q67 Tryz.func67 rfl (by kernel_rfl) (by kernel_rfl) k u67 (λn=>f67 (qU c k n)) (λg _ _ i=>match g,i with
  |0,i=>BV i λ_ _ i=>i
  |_+1,i=>i) (λn=>⟨
  λf h i=>by refine BT 0 i λ_ _ i=>?_;exact Eq.mpr (Aqz ..) i,
  trivial⟩) rfl d
theorem Awj(J:eJ):Bb c k q68 u68 (f68 J) d68 Tryz.f68 .root f h=VN c k J (f 0) h:=by kernel_rfl
theorem Arb(J:eJ):Bb c k q68 u68 (f68 J) d68 Tryz.f68 (.l (.r (.r .root))) f h=Wc c k J (f 0) (f 2) h:=by kernel_rfl
theorem w68(b:Ay c){n:Nat}{a:List U}(d:f68 (ax c k n) 0 (Ab a) h):Al 68 a h k:=
 BR b q68 Tryz.func68 rfl (by kernel_rfl) (by kernel_rfl) k u68 (λn=>f68 (ax c k n)) (λg _ _ i=>match g,i with
  |0,i=>i
  |1,i=>i
  |_+2,i=>i) (λn=>⟨
  λf h i=>Eq.mpr (Awj ..) i,
  λf h i=>Eq.mpr (Arb ..) i,
  trivial⟩) rfl d
theorem Aqx(J:J76):Bb c k q76 u76 (f76 J) d76 Tryz.f76 .root f h=Wm c k J (f 0) (f 1) h:=by kernel_rfl
theorem w76(b:Ay c){n:Nat}{a:List U}(d:f76 (oS c k n) 0 (Ab a) h):Al 76 a h k:=
 BR b q76 Tryz.func76 rfl (by kernel_rfl) (by kernel_rfl) k u76 (λn=>f76 (oS c k n)) (λg _ _ i=>match g,i with
  |0,i=>i
  |_+1,i=>i) (λn=>⟨
  λf h i=>Eq.mpr (Aqx ..) i,
  trivial⟩) rfl d
theorem Aqu(J:lC)(a:Int):Bb c k q77 u77 (f77 J) d77 Tryz.f77 .root (Aq f 1 (.int .i64 a)) h=Wg c k J (f 0) a h:=by kernel_rfl
theorem w77(b:Ay c){n:Nat}{a:List U}(d:f77 (tR c k n) 0 (Ab a) h):Al 77 a h k:=
 BR b q77 Tryz.func77 rfl (by kernel_rfl) (by kernel_rfl) k u77 (λn=>f77 (tR c k n)) (λg _ _ i=>match g,i with
  |0,i=>AT i λ_ i=>i
  |_+1,i=>i) (λn=>⟨
  λf h i=>by refine AU 1 i λ_ i=>?_;exact Eq.mpr (Aqu ..) i,
  trivial⟩) rfl d
theorem Avr(J:J81)(a b:Nat):Bb c k q81 u81 (f81 J) d81 Tryz.f81 .root (Aq f 1 (.str a b)) h=W6 c k J (f 0) a b h:=by kernel_rfl
theorem w81(b:Ay c){n:Nat}{a:List U}(d:f81 (r81 c k n) 0 (Ab a) h):Al 81 a h k:=
 BR b q81 Tryz.func81 rfl (by kernel_rfl) (by kernel_rfl) k u81 (λn=>f81 (r81 c k n)) (λg _ _ i=>match g,i with
  |0,i=>BV i λ_ _ i=>i
  |_+1,i=>i) (λn=>⟨
  λf h i=>by refine BT 1 i λ_ _ i=>?_;exact Eq.mpr (Avr ..) i,
  trivial⟩) rfl d
theorem Awf(J:oQ):Bb c k q85 u85 (f85 J) d85 Tryz.f85 .root f h=XM c k J (f 0) h:=by kernel_rfl
theorem w85(b:Ay c){n:Nat}{a:List U}(d:f85 (oz c k n) 0 (Ab a) h):Al 85 a h k:=
 BR b q85 Tryz.func85 rfl (by kernel_rfl) (by kernel_rfl) k u85 (λn=>f85 (oz c k n)) (λg _ _ i=>match g,i with
  |0,i=>i
  |_+1,i=>i) (λn=>⟨
  λf h i=>Eq.mpr (Awf ..) i,
  trivial⟩) rfl d
theorem w88(b:Ay c){d:Nat}{a:List U}(f:Az env c q88 u88 d88 (Ax env Tryz.f88.results.toList k) d 0 (Ab a) h):Al 88 a h k:=AI mixed AO b q88 Tryz.func88 rfl (by kernel_rfl) (by kernel_rfl) (by kernel_rfl) (by simp[u88]) f
theorem w98(b:Ay c){d:Nat}{a:List U}(f:Az env c q98 u98 d98 (Ax env Tryz.f98.results.toList k) d 0 (Ab a) h):Al 98 a h k:=AI mixed AO b q98 Tryz.func98 rfl (by kernel_rfl) (by kernel_rfl) (by kernel_rfl) (by simp[u98]) f
theorem Ahn(J:Zu):Bb c k Ans Akw (f103 J) d103 Tryz.f103 .root f h=Qz c k J (f 0) h:=by kernel_rfl
theorem Anw(b:Ay c){n:Nat}{a:List U}(d:f103 (aY c k n) 0 (Ab a) h):Al 103 a h k:=
 BR b Ans Tryz.func103 rfl (by kernel_rfl) (by kernel_rfl) k Akw (λn=>f103 (aY c k n)) (λg _ _ i=>match g,i with
  |0,i=>i
  |_+1,i=>i) (λn=>⟨
  λf h i=>Eq.mpr (Ahn ..) i,
  trivial⟩) rfl d
theorem Ayg(b:Ay c){d:Nat}{a:List U}(f:Az env c Ace oD d112 (Ax env Tryz.f112.results.toList k) d 0 (Ab a) h):Al 112 a h k:=AI mixed AO b Ace Tryz.func112 rfl (by kernel_rfl) (by kernel_rfl) (by kernel_rfl) (by simp[oD]) f
theorem Afx(J:TP)(a b:Nat)(d:Int):Bb c k qC pz (f123 J) d123 Tryz.f123 .root (Aq (Aq f 0 (.str a b)) 1 (.int .i64 d)) h=Qa c k J a b d h:=by kernel_rfl
theorem Ahi(J:TP)(a b:Nat)(d:Int):Bb c k qC pz (f123 J) d123 Tryz.f123 (.r (.r .root)) (Aq (Aq f 0 (.str a b)) 1 (.int .i64 d)) h=Qf c k J a b d (f 4) h:=by kernel_rfl
theorem Amt(b:Ay c){n:Nat}{a:List U}(d:f123 (PJ c k n) 0 (Ab a) h):Al 123 a h k:=
 BR b qC Tryz.func123 rfl (by kernel_rfl) (by kernel_rfl) k pz (λn=>f123 (PJ c k n)) (λg _ _ i=>match g,i with
  |0,i=>BV i λ_ _ i=>AT i λ_ i=>i
  |1,i=>BV i λ_ _ i=>AT i λ_ i=>i
  |_+2,i=>i) (λn=>⟨
  λf h i=>by refine BT 0 i λ_ _ i=>?_;refine AU 1 i λ_ i=>?_;exact Eq.mpr (Afx ..) i,
  λf h i=>by refine BT 0 i λ_ _ i=>?_;refine AU 1 i λ_ i=>?_;exact Eq.mpr (Ahi ..) i,
  trivial⟩) rfl d
theorem Aiw(J:Z1)(a:Int):Bb c k Aqi Apz (f127 J) d127 Tryz.f127 .root (Aq f 1 (.int .u8 a)) h=Q4 c k J (f 0) a h:=by kernel_rfl
theorem Alw(b:Ay c){n:Nat}{a:List U}(d:f127 (YF c k n) 0 (Ab a) h):Al 127 a h k:=
 BR b Aqi Tryz.func127 rfl (by kernel_rfl) (by kernel_rfl) k Apz (λn=>f127 (YF c k n)) (λg _ _ i=>match g,i with
  |0,i=>AT i λ_ i=>i
  |_+1,i=>i) (λn=>⟨
  λf h i=>by refine AU 1 i λ_ i=>?_;exact Eq.mpr (Aiw ..) i,
  trivial⟩) rfl d
theorem Aju(J:ZO)(a b:Int):Bb c k Apm Anm (f128 J) d128 Tryz.f128 .root (Aq (Aq f 1 (.int .i64 a)) 2 (.int .i64 b)) h=P0 c k J (f 0) a b h:=by kernel_rfl
theorem Aor(b:Ay c){n:Nat}{a:List U}(d:f128 (ak c k n) 0 (Ab a) h):Al 128 a h k:=
 BR b Apm Tryz.func128 rfl (by kernel_rfl) (by kernel_rfl) k Anm (λn=>f128 (ak c k n)) (λg _ _ i=>match g,i with
  |0,i=>AT i λ_ i=>AT i λ_ i=>i
  |_+1,i=>i) (λn=>⟨
  λf h i=>by refine AU 1 i λ_ i=>?_;refine AU 2 i λ_ i=>?_;exact Eq.mpr (Aju ..) i,
  trivial⟩) rfl d
theorem Aio(J:aq):Bb c k Aog Apt (f133 J) d133 Tryz.f133 .root f h=Qb c k J (f 0) h:=by kernel_rfl
theorem Apo(b:Ay c){n:Nat}{a:List U}(d:f133 (Y9 c k n) 0 (Ab a) h):Al 133 a h k:=
 BR b Aog Tryz.func133 rfl (by kernel_rfl) (by kernel_rfl) k Apt (λn=>f133 (Y9 c k n)) (λg _ _ i=>match g,i with
  |0,i=>i
  |_+1,i=>i) (λn=>⟨
  λf h i=>Eq.mpr (Aio ..) i,
  trivial⟩) rfl d
theorem Agm(J:aE)(a:Int):Bb c k Apd Apj (f137 J) d137 Tryz.f137 .root (Aq f 1 (.int .i64 a)) h=QN c k J (f 0) a (f 2) h:=by kernel_rfl
theorem Amk(b:Ay c){n:Nat}{a:List U}(d:f137 (aS c k n) 0 (Ab a) h):Al 137 a h k:=
 BR b Apd Tryz.func137 rfl (by kernel_rfl) (by kernel_rfl) k Apj (λn=>f137 (aS c k n)) (λL _ _ g=>match L,g with
  |0,g=>AT g λ_ g=>g
  |_+1,g=>g) (λn=>⟨
  λf h g=>by refine AU 1 g λ_ g=>?_;exact Eq.mpr (Agm ..) g,
  trivial⟩) rfl d
theorem Azm(b:Ay c){d:Nat}{a:List U}(f:Az env c tW tU d144 (Ax env Tryz.f144.results.toList k) d 0 (Ab a) h):Al 144 a h k:=AI mixed AO b tW Tryz.func144 rfl (by kernel_rfl) (by kernel_rfl) (by kernel_rfl) (by simp[tU]) f
theorem Bhn(b:Ay c){d:Nat}{a:List U}(f:Az env c pY pQ d148 (Ax env Tryz.f148.results.toList k) d 0 (Ab a) h):Al 148 a h k:=AI mixed AO b pY Tryz.func148 rfl (by kernel_rfl) (by kernel_rfl) (by kernel_rfl) (by simp[pQ]) f
theorem Afl(J:Zw):Bb c k Alb Aoc (f152 J) d152 Tryz.f152 .root f h=Qv c k J (f 0) (f 1) h:=by kernel_rfl
theorem Aqh(b:Ay c){n:Nat}{a:List U}(d:f152 (Zy c k n) 0 (Ab a) h):Al 152 a h k:=
 BR b Alb Tryz.func152 rfl (by kernel_rfl) (by kernel_rfl) k Aoc (λn=>f152 (Zy c k n)) (λg _ _ i=>match g,i with
  |0,i=>i
  |_+1,i=>i) (λn=>⟨
  λf h i=>Eq.mpr (Afl ..) i,
  trivial⟩) rfl d
theorem Bcy(b:Ay c){d:Nat}{a:List U}(f:Az env c oG td d155 (Ax env Tryz.f155.results.toList k) d 0 (Ab a) h):Al 155 a h k:=AI mixed AO b oG Tryz.func155 rfl (by kernel_rfl) (by kernel_rfl) (by kernel_rfl) (by simp[td]) f
theorem Aid(J:ZH)(a:Int):Bb c k Api Apl (f174 J) d174 Tryz.f174 .root (Aq f 0 (.int .u8 a)) h=QZ c k J a h:=by kernel_rfl
theorem Amy(b:Ay c){n:Nat}{a:List U}(d:f174 (ZQ c k n) 0 (Ab a) h):Al 174 a h k:=
 BR b Api Tryz.func174 rfl (by kernel_rfl) (by kernel_rfl) k Apl (λn=>f174 (ZQ c k n)) (λg _ _ i=>match g,i with
  |0,i=>AT i λ_ i=>i
  |_+1,i=>i) (λn=>⟨
  λf h i=>by refine AU 0 i λ_ i=>?_;exact Eq.mpr (Aid ..) i,
  trivial⟩) rfl d
theorem Bfx(b:Ay c){d:Nat}{a:List U}(f:Az env c nL lI d187 (Ax env Tryz.f187.results.toList k) d 0 (Ab a) h):Al 187 a h k:=AI mixed AO b nL Tryz.func187 rfl (by kernel_rfl) (by kernel_rfl) (by kernel_rfl) (by simp[lI]) f
theorem Bek(b:Ay c){d:Nat}{a:List U}(f:Az env c Ael pa d200 (Ax env Tryz.f200.results.toList k) d 0 (Ab a) h):Al 200 a h k:=AI mixed AO b Ael Tryz.func200 rfl (by kernel_rfl) (by kernel_rfl) (by kernel_rfl) (by simp[pa]) f
theorem Bar(b:Ay c){d:Nat}{a:List U}(f:Az env c tX py d205 (Ax env Tryz.f205.results.toList k) d 0 (Ab a) h):Al 205 a h k:=AI mixed AO b tX Tryz.func205 rfl (by kernel_rfl) (by kernel_rfl) (by kernel_rfl) (by simp[py]) f
theorem Ags(J:ZA)(a b:Nat)(d g:Nat):Bb c k Amv Apc (f214 J) d214 Tryz.f214 .root (Aq (Aq f 0 (.str a b)) 1 (.str d g)) h=QC c k J a b d g h:=by kernel_rfl
theorem Amq(b:Ay c){n:Nat}{a:List U}(d:f214 (Zq c k n) 0 (Ab a) h):Al 214 a h k:=
 BR b Amv Tryz.func214 rfl (by kernel_rfl) (by kernel_rfl) k Apc (λn=>f214 (Zq c k n)) (λg _ _ i=>match g,i with
  |0,i=>BV i λ_ _ i=>BV i λ_ _ i=>i
  |_+1,i=>i) (λn=>⟨
  λf h i=>by refine BT 0 i λ_ _ i=>?_;refine BT 1 i λ_ _ i=>?_;exact Eq.mpr (Ags ..) i,
  trivial⟩) rfl d
theorem Bdr(b:Ay c){d:Nat}{a:List U}(f:Az env c nH oJ d223 (Ax env Tryz.f223.results.toList k) d 0 (Ab a) h):Al 223 a h k:=AI mixed AO b nH Tryz.func223 rfl (by kernel_rfl) (by kernel_rfl) (by kernel_rfl) (by simp[oJ]) f
theorem gZ(J:YY):Bb c k Abx rG (f232 J) d232 Tryz.f232 .root f h=gn c k J (f 0) h:=by kernel_rfl
theorem Bal(b:Ay c){n:Nat}{a:List U}(d:f232 (S7 c k n) 0 (Ab a) h):Al 232 a h k:=
 BR b Abx Tryz.func232 rfl (by kernel_rfl) (by kernel_rfl) k rG (λn=>f232 (S7 c k n)) (λg _ _ i=>match g,i with
  |0,i=>i
  |_+1,i=>i) (λn=>⟨
  λf h i=>Eq.mpr (gZ ..) i,
  trivial⟩) rfl d
theorem Awv(b:Ay c){n:Nat}{a:List U}(d:f232 (S7 c k n) 0 (Ab a) h):pc 232 a h k:=
 Aoa b Abx Tryz.func232 rfl (by kernel_rfl) (by kernel_rfl) k rG (λn=>f232 (S7 c k n)) (λg _ _ i=>match g,i with
  |0,i=>i
  |_+1,i=>i) (λn=>⟨
  λf h i=>Eq.mpr (gZ ..) i,
  trivial⟩) rfl d
theorem Azd(b:Ay c){d:Nat}{a:List U}(f:Az env c Aaw Ado d235 (Ax env Tryz.f235.results.toList k) d 0 (Ab a) h):Al 235 a h k:=AI mixed AO b Aaw Tryz.func235 rfl (by kernel_rfl) (by kernel_rfl) (by kernel_rfl) (by simp[Ado]) f
theorem Bbu(b:Ay c){d:Nat}{a:List U}(f:Az env c tk mg d240 (Ax env Tryz.f240.results.toList k) d 0 (Ab a) h):Al 240 a h k:=AI mixed AO b tk Tryz.func240 rfl (by kernel_rfl) (by kernel_rfl) (by kernel_rfl) (by simp[mg]) f
theorem Bdh(b:Ay c){d:Nat}{a:List U}(f:Az env c ng qF d257 (Ax env Tryz.f257.results.toList k) d 0 (Ab a) h):Al 257 a h k:=AI mixed AO b ng Tryz.func257 rfl (by kernel_rfl) (by kernel_rfl) (by kernel_rfl) (by simp[qF]) f
theorem Azf(b:Ay c){d:Nat}{a:List U}(f:Az env c rA sr d262 (Ax env Tryz.f262.results.toList k) d 0 (Ab a) h):Al 262 a h k:=AI mixed AO b rA Tryz.func262 rfl (by kernel_rfl) (by kernel_rfl) (by kernel_rfl) (by simp[sr]) f
theorem Bch(b:Ay c){d:Nat}{a:List U}(f:Az env c gk Abl d268 (Ax env Tryz.f268.results.toList k) d 0 (Ab a) h):Al 268 a h k:=AI mixed AO b gk Tryz.func268 rfl (by kernel_rfl) (by kernel_rfl) (by kernel_rfl) (by simp[Abl]) f
theorem Bfr(b:Ay c){d:Nat}{a:List U}(f:Az env c lG Aeo d291 (Ax env Tryz.f291.results.toList k) d 0 (Ab a) h):Al 291 a h k:=AI mixed AO b lG Tryz.func291 rfl (by kernel_rfl) (by kernel_rfl) (by kernel_rfl) (by simp[Aeo]) f
theorem Bdz(b:Ay c){d:Nat}{a:List U}(f:Az env c pn uz d296 (Ax env Tryz.f296.results.toList k) d 0 (Ab a) h):Al 296 a h k:=AI mixed AO b pn Tryz.func296 rfl (by kernel_rfl) (by kernel_rfl) (by kernel_rfl) (by simp[uz]) f
theorem Bfh(b:Ay c){d:Nat}{a:List U}(f:Az env c mz Aac d302 (Ax env Tryz.f302.results.toList k) d 0 (Ab a) h):Al 302 a h k:=AI mixed AO b mz Tryz.func302 rfl (by kernel_rfl) (by kernel_rfl) (by kernel_rfl) (by simp[Aac]) f
theorem Bef(b:Ay c){d:Nat}{a:List U}(f:Az env c Acw Adz d325 (Ax env Tryz.f325.results.toList k) d 0 (Ab a) h):Al 325 a h k:=AI mixed AO b Acw Tryz.func325 rfl (by kernel_rfl) (by kernel_rfl) (by kernel_rfl) (by simp[Adz]) f
theorem Bai(b:Ay c){d:Nat}{a:List U}(f:Az env c sE uK d343 (Ax env Tryz.f343.results.toList k) d 0 (Ab a) h):Al 343 a h k:=AI mixed AO b sE Tryz.func343 rfl (by kernel_rfl) (by kernel_rfl) (by kernel_rfl) (by simp[uK]) f
theorem Bah(b:Ay c){d:Nat}{a:List U}(f:Az env c sU sk d357 (Ax env Tryz.f357.results.toList k) d 0 (Ab a) h):Al 357 a h k:=AI mixed AO b sU Tryz.func357 rfl (by kernel_rfl) (by kernel_rfl) (by kernel_rfl) (by simp[sk]) f
end Go.Den
