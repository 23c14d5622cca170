/-
 Proof.
-/
import Derived.Test.YtcnmehbkpaoolaaGreatDoorRunA1
import Derived.KernelRfl
namespace Go.Den
open Go.Proofs
set_option maxRecDepth 100000
variable{c:CF}{k:KV}{f:FT}{h:H}
theorem Bfp(J:J16):zqe c k q16 u16 (f16 J) d16 Tryz.f16 .root f h=Aoa c k J (f 0) h:=by kernel_rfl
theorem Bfo(J:J16)(n_5:Int):zqe c k q16 u16 (f16 J) d16 Tryz.f16 (.l (.r (.l (.r (.r .root))))) (Ae f 5 (.int .i64 n_5)) h=An9 c k J (f 0) (f 4) n_5 h:=by kernel_rfl
theorem Bfn(J:J16)(n_5:Int):zqe c k q16 u16 (f16 J) d16 Tryz.f16 (.r (.r (.r (.r (.l (.r (.l (.l (.r (.l (.r (.r .root)))))))))))) (Ae f 5 (.int .i64 n_5)) h=An8 c k J (f 0) (f 4) n_5 h:=by kernel_rfl
theorem w16(hc:Bv c){n:Nat}{a:List AV}(hg:f16 (r16 c k n) 0 (Ab a) h):zqs 16 a h k:=
 zqw hc q16 Tryz.func16 rfl (by kernel_rfl) (by kernel_rfl) k u16 (fun n=>f16 (r16 c k n)) (fun L _ _ hl=>match L,hl with
  |0,hl=>hl
  |1,hl=>Bf hl fun _ hl=>hl
  |2,hl=>Bf hl fun _ hl=>hl
  |_+3,hl=>hl) (fun n=>⟨
  fun f h hl=>Eq.mpr (Bfp ..) hl,
  fun f h hl=>by
    refine Be 5 hl fun _ hl=>?_;exact Eq.mpr (Bfo ..) hl,
  fun f h hl=>by
    refine Be 5 hl fun _ hl=>?_;exact Eq.mpr (Bfn ..) hl,
  trivial⟩) rfl hg
theorem Be9(J:J20)(l_0 c_0:Nat):zqe c k q20 u20 (f20 J) d20 Tryz.f20 .root (Ae f 0 (.str l_0 c_0)) h=Ant c k J l_0 c_0 h:=by kernel_rfl
theorem w20(hc:Bv c){n:Nat}{a:List AV}(hg:f20 (r20 c k n) 0 (Ab a) h):zqs 20 a h k:=
 zqw hc q20 Tryz.func20 rfl (by kernel_rfl) (by kernel_rfl) k u20 (fun n=>f20 (r20 c k n)) (fun L _ _ hl=>match L,hl with
  |0,hl=>Bd hl fun _ _ hl=>hl
  |_+1,hl=>hl) (fun n=>⟨
  fun f h hl=>by
    refine Bc 0 hl fun _ _ hl=>?_;exact Eq.mpr (Be9 ..) hl,
  trivial⟩) rfl hg
theorem w22(hc:Bv c){m:Nat}{a:List AV}(hg:Dx env c q22 u22 d22 (Dh env Tryz.f22.results.toList k) m 0 (Ab a) h):zqs 22 a h k:=Ee mixed Ew hc q22 Tryz.func22 rfl (by kernel_rfl) (by kernel_rfl) (by kernel_rfl) (by simp[u22]) hg
theorem Be4(J:J34)(n_1:Int):zqe c k q34 u34 (f34 J) d34 Tryz.f34 .root (Ae f 1 (.int .i64 n_1)) h=Ano c k J (f 0) n_1 h:=by kernel_rfl
theorem Be3(J:J34)(n_1:Int)(l_7 c_7:Nat)(b_8:Bool)(n_9 n_10:Int):zqe c k q34 u34 (f34 J) d34 Tryz.f34 (.l (.r (.l (.r (.r (.r (.r .root))))))) (Ae (Ae (Ae (Ae (Ae f 1 (.int .i64 n_1)) 7 (.str l_7 c_7)) 8 (.bool b_8)) 9 (.int .i64 n_9)) 10 (.int .i64 n_10)) h=Ann c k J (f 0) n_1 (f 5) (f 6) l_7 c_7 b_8 n_9 n_10 h:=by kernel_rfl
theorem Be2(J:J34)(n_1:Int)(l_7 c_7:Nat)(b_8:Bool)(n_10:Int)(l_12 c_12:Nat):zqe c k q34 u34 (f34 J) d34 Tryz.f34 (.r (.r (.r (.r (.r (.r (.l (.l (.r (.l (.l (.r (.l (.r (.r (.r (.r .root))))))))))))))))) (Ae (Ae (Ae (Ae (Ae f 1 (.int .i64 n_1)) 7 (.str l_7 c_7)) 8 (.bool b_8)) 10 (.int .i64 n_10)) 12 (.str l_12 c_12)) h=Anm c k J (f 0) n_1 (f 5) (f 6) l_7 c_7 b_8 n_10 l_12 c_12 h:=by kernel_rfl
theorem Be1(J:J34)(n_1:Int)(l_7 c_7:Nat)(b_8:Bool)(n_9 n_10:Int):zqe c k q34 u34 (f34 J) d34 Tryz.f34 (.r (.r (.l (.l (.r (.l (.r (.r (.r (.r .root)))))))))) (Ae (Ae (Ae (Ae (Ae f 1 (.int .i64 n_1)) 7 (.str l_7 c_7)) 8 (.bool b_8)) 9 (.int .i64 n_9)) 10 (.int .i64 n_10)) h=Anl c k J (f 0) n_1 (f 5) (f 6) l_7 c_7 b_8 n_9 n_10 h:=by kernel_rfl
theorem Be0(J:J34)(n_1:Int)(l_7 c_7:Nat)(n_9:Int):zqe c k q34 u34 (f34 J) d34 Tryz.f34 (.r (.r (.r (.r (.r .root))))) (Ae (Ae (Ae f 1 (.int .i64 n_1)) 7 (.str l_7 c_7)) 9 (.int .i64 n_9)) h=Ank c k J (f 0) n_1 (f 5) (f 6) l_7 c_7 n_9 h:=by kernel_rfl
theorem w34(hc:Bv c){n:Nat}{a:List AV}(hg:f34 (r34 c k n) 0 (Ab a) h):zqs 34 a h k:=
 zqw hc q34 Tryz.func34 rfl (by kernel_rfl) (by kernel_rfl) k u34 (fun n=>f34 (r34 c k n)) (fun L _ _ hl=>match L,hl with
  |0,hl=>Bf hl fun _ hl=>hl
  |1,hl=>Bf hl fun _ hl=>Bd hl fun _ _ hl=>Hz hl fun _ hl=>Bf hl fun _ hl=>Bf hl fun _ hl=>hl
  |2,hl=>Bf hl fun _ hl=>Bd hl fun _ _ hl=>Hz hl fun _ hl=>Bf hl fun _ hl=>Bd hl fun _ _ hl=>hl
  |3,hl=>Bf hl fun _ hl=>Bd hl fun _ _ hl=>Hz hl fun _ hl=>Bf hl fun _ hl=>Bf hl fun _ hl=>hl
  |4,hl=>Bf hl fun _ hl=>Bd hl fun _ _ hl=>Bf hl fun _ hl=>hl
  |_+5,hl=>hl) (fun n=>⟨
  fun f h hl=>by
    refine Be 1 hl fun _ hl=>?_;exact Eq.mpr (Be4 ..) hl,
  fun f h hl=>by
    refine Be 1 hl fun _ hl=>?_;refine Bc 7 hl fun _ _ hl=>?_;refine Hy 8 hl fun _ hl=>?_;refine Be 9 hl fun _ hl=>?_;refine Be 10 hl fun _ hl=>?_;exact Eq.mpr (Be3 ..) hl,
  fun f h hl=>by
    refine Be 1 hl fun _ hl=>?_;refine Bc 7 hl fun _ _ hl=>?_;refine Hy 8 hl fun _ hl=>?_;refine Be 10 hl fun _ hl=>?_;refine Bc 12 hl fun _ _ hl=>?_;exact Eq.mpr (Be2 ..) hl,
  fun f h hl=>by
    refine Be 1 hl fun _ hl=>?_;refine Bc 7 hl fun _ _ hl=>?_;refine Hy 8 hl fun _ hl=>?_;refine Be 9 hl fun _ hl=>?_;refine Be 10 hl fun _ hl=>?_;exact Eq.mpr (Be1 ..) hl,
  fun f h hl=>by
    refine Be 1 hl fun _ hl=>?_;refine Bc 7 hl fun _ _ hl=>?_;refine Be 9 hl fun _ hl=>?_;exact Eq.mpr (Be0 ..) hl,
  trivial⟩) rfl hg
theorem Bey(J:J36):zqe c k q36 u36 (f36 J) d36 Tryz.f36 .root f h=Ani c k J (f 0) (f 1) h:=by kernel_rfl
theorem w36(hc:Bv c){n:Nat}{a:List AV}(hg:f36 (r36 c k n) 0 (Ab a) h):zqs 36 a h k:=
 zqw hc q36 Tryz.func36 rfl (by kernel_rfl) (by kernel_rfl) k u36 (fun n=>f36 (r36 c k n)) (fun L _ _ hl=>match L,hl with
  |0,hl=>hl
  |_+1,hl=>hl) (fun n=>⟨
  fun f h hl=>Eq.mpr (Bey ..) hl,
  trivial⟩) rfl hg
theorem Bec(J:J59)(l_0 c_0:Nat):zqe c k q59 u59 (f59 J) d59 Tryz.f59 .root (Ae f 0 (.str l_0 c_0)) h=Amw c k J l_0 c_0 h:=by kernel_rfl
theorem Beb(J:J59)(l_0 c_0:Nat)(l_5 c_5:Nat):zqe c k q59 u59 (f59 J) d59 Tryz.f59 (.lab (.r .root) 1) (Ae (Ae f 0 (.str l_0 c_0)) 5 (.str l_5 c_5)) h=Ag6 c k J l_0 c_0 (f 4) l_5 c_5 h:=by kernel_rfl
theorem Bea(J:J59):zqe c k q59 u59 (f59 J) d59 Tryz.f59 (.lab (.r .root) 0) f h=Ag5 c k J  h:=by kernel_rfl
theorem Bd9(J:J59)(l_0 c_0:Nat)(l_5 c_5:Nat)(n_8 n_9:Int):zqe c k q59 u59 (f59 J) d59 Tryz.f59 (.r (.l (.r (.r (.r (.r (.r (.r (.r (.l (.r .root))))))))))) (Ae (Ae (Ae (Ae f 0 (.str l_0 c_0)) 5 (.str l_5 c_5)) 8 (.int .u8 n_8)) 9 (.int .i64 n_9)) h=Amv c k J l_0 c_0 (f 4) l_5 c_5 n_8 n_9 h:=by kernel_rfl
theorem w59(hc:Bv c){n:Nat}{a:List AV}(hg:f59 (r59 c k n) 0 (Ab a) h):zqs 59 a h k:=
 zqw hc q59 Tryz.func59 rfl (by kernel_rfl) (by kernel_rfl) k u59 (fun n=>f59 (r59 c k n)) (fun L _ _ hl=>match L,hl with
  |0,hl=>Bd hl fun _ _ hl=>hl
  |1,hl=>Bd hl fun _ _ hl=>Bd hl fun _ _ hl=>hl
  |2,hl=>hl
  |3,hl=>Bd hl fun _ _ hl=>Bd hl fun _ _ hl=>Bf hl fun _ hl=>Bf hl fun _ hl=>hl
  |_+4,hl=>hl) (fun n=>⟨
  fun f h hl=>by
    refine Bc 0 hl fun _ _ hl=>?_;exact Eq.mpr (Bec ..) hl,
  fun f h hl=>by
    refine Bc 0 hl fun _ _ hl=>?_;refine Bc 5 hl fun _ _ hl=>?_;exact Eq.mpr (Beb ..) hl,
  fun f h hl=>Eq.mpr (Bea ..) hl,
  fun f h hl=>by
    refine Bc 0 hl fun _ _ hl=>?_;refine Bc 5 hl fun _ _ hl=>?_;refine Be 8 hl fun _ hl=>?_;refine Be 9 hl fun _ hl=>?_;exact Eq.mpr (Bd9 ..) hl,
  trivial⟩) rfl hg
theorem Bd6(J:J61)(l_1 c_1:Nat):zqe c k q61 u61 (f61 J) d61 Tryz.f61 .root (Ae f 1 (.str l_1 c_1)) h=Ag4 c k J (f 0) l_1 c_1 h:=by kernel_rfl
theorem w61(hc:Bv c){n:Nat}{a:List AV}(hg:f61 (r61 c k n) 0 (Ab a) h):zqs 61 a h k:=
 zqw hc q61 Tryz.func61 rfl (by kernel_rfl) (by kernel_rfl) k u61 (fun n=>f61 (r61 c k n)) (fun L _ _ hl=>match L,hl with
  |0,hl=>Bd hl fun _ _ hl=>hl
  |_+1,hl=>hl) (fun n=>⟨
  fun f h hl=>by
    refine Bc 1 hl fun _ _ hl=>?_;exact Eq.mpr (Bd6 ..) hl,
  trivial⟩) rfl hg
theorem Bd4(J:J63):zqe c k q63 u63 (f63 J) d63 Tryz.f63 .root f h=Ag3 c k J (f 0) h:=by kernel_rfl
theorem w63(hc:Bv c){n:Nat}{a:List AV}(hg:f63 (r63 c k n) 0 (Ab a) h):zqs 63 a h k:=
 zqw hc q63 Tryz.func63 rfl (by kernel_rfl) (by kernel_rfl) k u63 (fun n=>f63 (r63 c k n)) (fun L _ _ hl=>match L,hl with
  |0,hl=>hl
  |_+1,hl=>hl) (fun n=>⟨
  fun f h hl=>Eq.mpr (Bd4 ..) hl,
  trivial⟩) rfl hg
theorem Bd3(J:J64)(l_0 c_0:Nat):zqe c k q64 u64 (f64 J) d64 Tryz.f64 .root (Ae f 0 (.str l_0 c_0)) h=Amr c k J l_0 c_0 h:=by kernel_rfl
theorem Bd2(J:J64)(l_4 c_4:Nat)(b_5 b_6:Bool)(n_7:Int)(l_8 c_8:Nat):zqe c k q64 u64 (f64 J) d64 Tryz.f64 (.r (.r (.r (.r (.r .root))))) (Ae (Ae (Ae (Ae (Ae f 4 (.str l_4 c_4)) 5 (.bool b_5)) 6 (.bool b_6)) 7 (.int .i64 n_7)) 8 (.str l_8 c_8)) h=Amq c k J (f 2) l_4 c_4 b_5 b_6 n_7 l_8 c_8 h:=by kernel_rfl
theorem w64(hc:Bv c){n:Nat}{a:List AV}(hg:f64 (r64 c k n) 0 (Ab a) h):zqs 64 a h k:=
 zqw hc q64 Tryz.func64 rfl (by kernel_rfl) (by kernel_rfl) k u64 (fun n=>f64 (r64 c k n)) (fun L _ _ hl=>match L,hl with
  |0,hl=>Bd hl fun _ _ hl=>hl
  |1,hl=>Bd hl fun _ _ hl=>Hz hl fun _ hl=>Hz hl fun _ hl=>Bf hl fun _ hl=>Bd hl fun _ _ hl=>hl
  |_+2,hl=>hl) (fun n=>⟨
  fun f h hl=>by
    refine Bc 0 hl fun _ _ hl=>?_;exact Eq.mpr (Bd3 ..) hl,
  fun f h hl=>by
    refine Bc 4 hl fun _ _ hl=>?_;refine Hy 5 hl fun _ hl=>?_;refine Hy 6 hl fun _ hl=>?_;refine Be 7 hl fun _ hl=>?_;refine Bc 8 hl fun _ _ hl=>?_;exact Eq.mpr (Bd2 ..) hl,
  trivial⟩) rfl hg
theorem w75(hc:Bv c){m:Nat}{a:List AV}(hg:Dx env c q75 u75 d75 (Dh env Tryz.f75.results.toList k) m 0 (Ab a) h):zqs 75 a h k:=Ee mixed Ew hc q75 Tryz.func75 rfl (by kernel_rfl) (by kernel_rfl) (by kernel_rfl) (by simp[u75]) hg
theorem w77(hc:Bv c){m:Nat}{a:List AV}(hg:Dx env c q77 u77 d77 (Dh env Tryz.f77.results.toList k) m 0 (Ab a) h):zqs 77 a h k:=Ee mixed Ew hc q77 Tryz.func77 rfl (by kernel_rfl) (by kernel_rfl) (by kernel_rfl) (by simp[u77]) hg
theorem w79(hc:Bv c){m:Nat}{a:List AV}(hg:Dx env c q79 u79 d79 (Dh env Tryz.f79.results.toList k) m 0 (Ab a) h):zqs 79 a h k:=Ee mixed Ew hc q79 Tryz.func79 rfl (by kernel_rfl) (by kernel_rfl) (by kernel_rfl) (by simp[u79]) hg
theorem w81(hc:Bv c){m:Nat}{a:List AV}(hg:Dx env c q81 u81 d81 (Dh env Tryz.f81.results.toList k) m 0 (Ab a) h):zqs 81 a h k:=Ee mixed Ew hc q81 Tryz.func81 rfl (by kernel_rfl) (by kernel_rfl) (by kernel_rfl) (by simp[u81]) hg
theorem A7d(J:Axs)(n_1:Int):zqe c k Bba A94 (f107 J) d107 Tryz.f107 .root (Ae f 1 (.int .u8 n_1)) h=Ae7 c k J (f 0) n_1 h:=by kernel_rfl
theorem A9e(hc:Bv c){n:Nat}{a:List AV}(hg:f107 (As7 c k n) 0 (Ab a) h):zqs 107 a h k:=
 zqw hc Bba Tryz.func107 rfl (by kernel_rfl) (by kernel_rfl) k A94 (fun n=>f107 (As7 c k n)) (fun L _ _ hl=>match L,hl with
  |0,hl=>Bf hl fun _ hl=>hl
  |_+1,hl=>hl) (fun n=>⟨
  fun f h hl=>by
    refine Be 1 hl fun _ hl=>?_;exact Eq.mpr (A7d ..) hl,
  trivial⟩) rfl hg
theorem A69(J:Axr)(l_0 c_0:Nat)(l_1 c_1:Nat):zqe c k Ba9 A93 (f109 J) d109 Tryz.f109 .root (Ae (Ae f 0 (.str l_0 c_0)) 1 (.str l_1 c_1)) h=Ae3 c k J l_0 c_0 l_1 c_1 h:=by kernel_rfl
theorem A9c(hc:Bv c){n:Nat}{a:List AV}(hg:f109 (As6 c k n) 0 (Ab a) h):zqs 109 a h k:=
 zqw hc Ba9 Tryz.func109 rfl (by kernel_rfl) (by kernel_rfl) k A93 (fun n=>f109 (As6 c k n)) (fun L _ _ hl=>match L,hl with
  |0,hl=>Bd hl fun _ _ hl=>Bd hl fun _ _ hl=>hl
  |_+1,hl=>hl) (fun n=>⟨
  fun f h hl=>by
    refine Bc 0 hl fun _ _ hl=>?_;refine Bc 1 hl fun _ _ hl=>?_;exact Eq.mpr (A69 ..) hl,
  trivial⟩) rfl hg
theorem A67(J:Axp)(l_0 c_0:Nat):zqe c k Ba7 A91 (f111 J) d111 Tryz.f111 .root (Ae f 0 (.str l_0 c_0)) h=Ae1 c k J l_0 c_0 h:=by kernel_rfl
theorem A9a(hc:Bv c){n:Nat}{a:List AV}(hg:f111 (As4 c k n) 0 (Ab a) h):zqs 111 a h k:=
 zqw hc Ba7 Tryz.func111 rfl (by kernel_rfl) (by kernel_rfl) k A91 (fun n=>f111 (As4 c k n)) (fun L _ _ hl=>match L,hl with
  |0,hl=>Bd hl fun _ _ hl=>hl
  |_+1,hl=>hl) (fun n=>⟨
  fun f h hl=>by
    refine Bc 0 hl fun _ _ hl=>?_;exact Eq.mpr (A67 ..) hl,
  trivial⟩) rfl hg
theorem A62(J:Axm)(l_0 c_0:Nat)(l_1 c_1:Nat):zqe c k Ba4 A9y (f115 J) d115 Tryz.f115 .root (Ae (Ae f 0 (.str l_0 c_0)) 1 (.str l_1 c_1)) h=Aj5 c k J l_0 c_0 l_1 c_1 h:=by kernel_rfl
theorem A86(hc:Bv c){n:Nat}{a:List AV}(hg:f115 (As1 c k n) 0 (Ab a) h):zqs 115 a h k:=
 zqw hc Ba4 Tryz.func115 rfl (by kernel_rfl) (by kernel_rfl) k A9y (fun n=>f115 (As1 c k n)) (fun L _ _ hl=>match L,hl with
  |0,hl=>Bd hl fun _ _ hl=>Bd hl fun _ _ hl=>hl
  |_+1,hl=>hl) (fun n=>⟨
  fun f h hl=>by
    refine Bc 0 hl fun _ _ hl=>?_;refine Bc 1 hl fun _ _ hl=>?_;exact Eq.mpr (A62 ..) hl,
  trivial⟩) rfl hg
theorem A60(J:Axk)(l_0 c_0:Nat)(n_1 n_2:Int):zqe c k Ba2 A9w (f117 J) d117 Tryz.f117 .root (Ae (Ae (Ae f 0 (.str l_0 c_0)) 1 (.int .i64 n_1)) 2 (.int .i64 n_2)) h=Aev c k J l_0 c_0 n_1 n_2 h:=by kernel_rfl
theorem A84(hc:Bv c){n:Nat}{a:List AV}(hg:f117 (Asz c k n) 0 (Ab a) h):zqs 117 a h k:=
 zqw hc Ba2 Tryz.func117 rfl (by kernel_rfl) (by kernel_rfl) k A9w (fun n=>f117 (Asz c k n)) (fun L _ _ hl=>match L,hl with
  |0,hl=>Bd hl fun _ _ hl=>Bf hl fun _ hl=>Bf hl fun _ hl=>hl
  |_+1,hl=>hl) (fun n=>⟨
  fun f h hl=>by
    refine Bc 0 hl fun _ _ hl=>?_;refine Be 1 hl fun _ hl=>?_;refine Be 2 hl fun _ hl=>?_;exact Eq.mpr (A60 ..) hl,
  trivial⟩) rfl hg
theorem A6x(J:Axj):zqe c k Ba1 A9v (f119 J) d119 Tryz.f119 .root f h=Aes c k J (f 0) h:=by kernel_rfl
theorem A82(hc:Bv c){n:Nat}{a:List AV}(hg:f119 (Asy c k n) 0 (Ab a) h):zqs 119 a h k:=
 zqw hc Ba1 Tryz.func119 rfl (by kernel_rfl) (by kernel_rfl) k A9v (fun n=>f119 (Asy c k n)) (fun L _ _ hl=>match L,hl with
  |0,hl=>hl
  |_+1,hl=>hl) (fun n=>⟨
  fun f h hl=>Eq.mpr (A6x ..) hl,
  trivial⟩) rfl hg
theorem A6t(J:Axh):zqe c k Baz A9t (f122 J) d122 Tryz.f122 .root f h=Aeo c k J (f 0) h:=by kernel_rfl
theorem A80(hc:Bv c){n:Nat}{a:List AV}(hg:f122 (Asw c k n) 0 (Ab a) h):zqs 122 a h k:=
 zqw hc Baz Tryz.func122 rfl (by kernel_rfl) (by kernel_rfl) k A9t (fun n=>f122 (Asw c k n)) (fun L _ _ hl=>match L,hl with
  |0,hl=>hl
  |_+1,hl=>hl) (fun n=>⟨
  fun f h hl=>Eq.mpr (A6t ..) hl,
  trivial⟩) rfl hg
theorem Bin(hc:Bv c){m:Nat}{a:List AV}(hg:Dx env c A3v A2v d124 (Dh env Tryz.f124.results.toList k) m 0 (Ab a) h):zqs 124 a h k:=Ee mixed Ew hc A3v Tryz.func124 rfl (by kernel_rfl) (by kernel_rfl) (by kernel_rfl) (by simp[A2v]) hg
theorem Bil(hc:Bv c){m:Nat}{a:List AV}(hg:Dx env c A3t A2t d128 (Dh env Tryz.f128.results.toList k) m 0 (Ab a) h):zqs 128 a h k:=Ee mixed Ew hc A3t Tryz.func128 rfl (by kernel_rfl) (by kernel_rfl) (by kernel_rfl) (by simp[A2t]) hg
theorem Bij(hc:Bv c){m:Nat}{a:List AV}(hg:Dx env c A3r A2r d130 (Dh env Tryz.f130.results.toList k) m 0 (Ab a) h):zqs 130 a h k:=Ee mixed Ew hc A3r Tryz.func130 rfl (by kernel_rfl) (by kernel_rfl) (by kernel_rfl) (by simp[A2r]) hg
theorem Bih(hc:Bv c){m:Nat}{a:List AV}(hg:Dx env c A3p A2p d132 (Dh env Tryz.f132.results.toList k) m 0 (Ab a) h):zqs 132 a h k:=Ee mixed Ew hc A3p Tryz.func132 rfl (by kernel_rfl) (by kernel_rfl) (by kernel_rfl) (by simp[A2p]) hg
theorem Bif(hc:Bv c){m:Nat}{a:List AV}(hg:Dx env c A3n A2n d134 (Dh env Tryz.f134.results.toList k) m 0 (Ab a) h):zqs 134 a h k:=Ee mixed Ew hc A3n Tryz.func134 rfl (by kernel_rfl) (by kernel_rfl) (by kernel_rfl) (by simp[A2n]) hg
theorem A6s(J:Axg)(l_1 c_1:Nat):zqe c k Bay A9s (f136 J) d136 Tryz.f136 .root (Ae f 1 (.str l_1 c_1)) h=Aen c k J (f 0) l_1 c_1 h:=by kernel_rfl
theorem A8z(hc:Bv c){n:Nat}{a:List AV}(hg:f136 (Asv c k n) 0 (Ab a) h):zqs 136 a h k:=
 zqw hc Bay Tryz.func136 rfl (by kernel_rfl) (by kernel_rfl) k A9s (fun n=>f136 (Asv c k n)) (fun L _ _ hl=>match L,hl with
  |0,hl=>Bd hl fun _ _ hl=>hl
  |_+1,hl=>hl) (fun n=>⟨
  fun f h hl=>by
    refine Bc 1 hl fun _ _ hl=>?_;exact Eq.mpr (A6s ..) hl,
  trivial⟩) rfl hg
theorem A6r(J:Axf)(l_0 c_0:Nat)(n_1:Int):zqe c k Bax A9r (f160 J) d160 Tryz.f160 .root (Ae (Ae f 0 (.str l_0 c_0)) 1 (.int .u8 n_1)) h=Aem c k J l_0 c_0 n_1 h:=by kernel_rfl
theorem A8y(hc:Bv c){n:Nat}{a:List AV}(hg:f160 (Asu c k n) 0 (Ab a) h):zqs 160 a h k:=
 zqw hc Bax Tryz.func160 rfl (by kernel_rfl) (by kernel_rfl) k A9r (fun n=>f160 (Asu c k n)) (fun L _ _ hl=>match L,hl with
  |0,hl=>Bd hl fun _ _ hl=>Bf hl fun _ hl=>hl
  |_+1,hl=>hl) (fun n=>⟨
  fun f h hl=>by
    refine Bc 0 hl fun _ _ hl=>?_;refine Be 1 hl fun _ hl=>?_;exact Eq.mpr (A6r ..) hl,
  trivial⟩) rfl hg
theorem A6k(J:Axe)(l_0 c_0:Nat)(n_1:Int):zqe c k Baw A9q (f162 J) d162 Tryz.f162 .root (Ae (Ae f 0 (.str l_0 c_0)) 1 (.int .i32 n_1)) h=Aeg c k J l_0 c_0 n_1 h:=by kernel_rfl
theorem A8w(hc:Bv c){n:Nat}{a:List AV}(hg:f162 (Ass c k n) 0 (Ab a) h):zqs 162 a h k:=
 zqw hc Baw Tryz.func162 rfl (by kernel_rfl) (by kernel_rfl) k A9q (fun n=>f162 (Ass c k n)) (fun L _ _ hl=>match L,hl with
  |0,hl=>Bd hl fun _ _ hl=>Bf hl fun _ hl=>hl
  |1,hl=>hl
  |2,hl=>hl
  |3,hl=>hl
  |4,hl=>hl
  |5,hl=>hl
  |6,hl=>hl
  |7,hl=>hl
  |8,hl=>hl
  |9,hl=>hl
  |10,hl=>hl
  |11,hl=>hl
  |12,hl=>hl
  |13,hl=>hl
  |14,hl=>hl
  |15,hl=>hl
  |16,hl=>hl
  |17,hl=>hl
  |18,hl=>hl
  |19,hl=>hl
  |20,hl=>hl
  |21,hl=>hl
  |22,hl=>hl
  |_+23,hl=>hl) (fun n=>⟨
  fun f h hl=>by
    refine Bc 0 hl fun _ _ hl=>?_;refine Be 1 hl fun _ hl=>?_;exact Eq.mpr (A6k ..) hl,
  fun _ _ hl=>False.elim hl,
  fun _ _ hl=>False.elim hl,
  fun _ _ hl=>False.elim hl,
  fun _ _ hl=>False.elim hl,
  fun _ _ hl=>False.elim hl,
  fun _ _ hl=>False.elim hl,
  fun _ _ hl=>False.elim hl,
  fun _ _ hl=>False.elim hl,
  fun _ _ hl=>False.elim hl,
  fun _ _ hl=>False.elim hl,
  fun _ _ hl=>False.elim hl,
  fun _ _ hl=>False.elim hl,
  fun _ _ hl=>False.elim hl,
  fun _ _ hl=>False.elim hl,
  fun _ _ hl=>False.elim hl,
  fun _ _ hl=>False.elim hl,
  fun _ _ hl=>False.elim hl,
  fun _ _ hl=>False.elim hl,
  fun _ _ hl=>False.elim hl,
  fun _ _ hl=>False.elim hl,
  fun _ _ hl=>False.elim hl,
  fun _ _ hl=>False.elim hl,
  trivial⟩) rfl hg
theorem A6j(J:Axd)(l_0 c_0:Nat)(l_1 c_1:Nat):zqe c k Bav A9p (f163 J) d163 Tryz.f163 .root (Ae (Ae f 0 (.str l_0 c_0)) 1 (.str l_1 c_1)) h=Aef c k J l_0 c_0 l_1 c_1 h:=by kernel_rfl
theorem A8v(hc:Bv c){n:Nat}{a:List AV}(hg:f163 (Asr c k n) 0 (Ab a) h):zqs 163 a h k:=
 zqw hc Bav Tryz.func163 rfl (by kernel_rfl) (by kernel_rfl) k A9p (fun n=>f163 (Asr c k n)) (fun L _ _ hl=>match L,hl with
  |0,hl=>Bd hl fun _ _ hl=>Bd hl fun _ _ hl=>hl
  |_+1,hl=>hl) (fun n=>⟨
  fun f h hl=>by
    refine Bc 0 hl fun _ _ hl=>?_;refine Bc 1 hl fun _ _ hl=>?_;exact Eq.mpr (A6j ..) hl,
  trivial⟩) rfl hg
theorem Bid(hc:Bv c){m:Nat}{a:List AV}(hg:Dx env c A3l A2l d165 (Dh env Tryz.f165.results.toList k) m 0 (Ab a) h):zqs 165 a h k:=Ee mixed Ew hc A3l Tryz.func165 rfl (by kernel_rfl) (by kernel_rfl) (by kernel_rfl) (by simp[A2l]) hg
theorem A6h(J:Alx)(l_0 c_0:Nat):zqe c k A3j A2j (f169 J) d169 Tryz.f169 .root (Ae f 0 (.str l_0 c_0)) h=Aed c k J l_0 c_0 (f 1) h:=by kernel_rfl
theorem A6g(J:Alx)(l_0 c_0:Nat):zqe c k A3j A2j (f169 J) d169 Tryz.f169 (.l (.l (.r .root))) (Ae f 0 (.str l_0 c_0)) h=Aec c k J l_0 c_0 (f 1) h:=by kernel_rfl
theorem A8t(hc:Bv c){n:Nat}{a:List AV}(hg:f169 (Ahg c k n) 0 (Ab a) h):zqs 169 a h k:=
 zqw hc A3j Tryz.func169 rfl (by kernel_rfl) (by kernel_rfl) k A2j (fun n=>f169 (Ahg c k n)) (fun L _ _ hl=>match L,hl with
  |0,hl=>Bd hl fun _ _ hl=>hl
  |1,hl=>Bd hl fun _ _ hl=>hl
  |_+2,hl=>hl) (fun n=>⟨
  fun f h hl=>by
    refine Bc 0 hl fun _ _ hl=>?_;exact Eq.mpr (A6h ..) hl,
  fun f h hl=>by
    refine Bc 0 hl fun _ _ hl=>?_;exact Eq.mpr (A6g ..) hl,
  trivial⟩) rfl hg
theorem A6e(J:Axa)(l_0 c_0:Nat)(l_1 c_1:Nat):zqe c k Bas A9m (f172 J) d172 Tryz.f172 .root (Ae (Ae f 0 (.str l_0 c_0)) 1 (.str l_1 c_1)) h=Aea c k J l_0 c_0 l_1 c_1 h:=by kernel_rfl
theorem A8r(hc:Bv c){n:Nat}{a:List AV}(hg:f172 (Aso c k n) 0 (Ab a) h):zqs 172 a h k:=
 zqw hc Bas Tryz.func172 rfl (by kernel_rfl) (by kernel_rfl) k A9m (fun n=>f172 (Aso c k n)) (fun L _ _ hl=>match L,hl with
  |0,hl=>Bd hl fun _ _ hl=>Bd hl fun _ _ hl=>hl
  |_+1,hl=>hl) (fun n=>⟨
  fun f h hl=>by
    refine Bc 0 hl fun _ _ hl=>?_;refine Bc 1 hl fun _ _ hl=>?_;exact Eq.mpr (A6e ..) hl,
  trivial⟩) rfl hg
theorem A6d(J:Tn)(l_0 c_0:Nat)(n_1 n_2:Int):zqe c k Ake Ajw (f173 J) d173 Tryz.f173 .root (Ae (Ae (Ae f 0 (.str l_0 c_0)) 1 (.int .i64 n_1)) 2 (.int .i64 n_2)) h=Ad9 c k J l_0 c_0 n_1 n_2 h:=by kernel_rfl
theorem A6c(J:Tn)(n_1:Int)(b_8:Bool)(l_9 c_9:Nat)(n_10 n_11:Int)(b_12:Bool)(n_13 n_100 n_101:Int):zqe c k Ake Ajw (f173 J) d173 Tryz.f173 (.l (.r (.l (.r (.r (.r (.r (.r (.r (.r (.r (.r (.r (.r .root)))))))))))))) (Ae (Ae (Ae (Ae (Ae (Ae (Ae (Ae (Ae f 1 (.int .i64 n_1)) 8 (.bool b_8)) 9 (.str l_9 c_9)) 10 (.int .u64 n_10)) 11 (.int .u64 n_11)) 12 (.bool b_12)) 13 (.int .u64 n_13)) 100 (.int .i64 n_100)) 101 (.int .i64 n_101)) h=Ad8 c k J n_1 b_8 l_9 c_9 n_10 n_11 b_12 n_13 (f 99) n_100 n_101 h:=by kernel_rfl
theorem A6b(J:Tn)(n_1:Int)(b_8:Bool)(l_9 c_9:Nat)(n_10 n_11:Int)(b_12:Bool)(n_13 n_16:Int)(n_100 n_101:Int):zqe c k Ake Ajw (f173 J) d173 Tryz.f173 (.r (.r (.r (.l (.l (.r (.r (.l (.l (.r (.l (.r (.r (.r (.r (.r (.r (.r (.r (.r (.r (.r .root)))))))))))))))))))))) (Ae (Ae (Ae (Ae (Ae (Ae (Ae (Ae (Ae (Ae f 1 (.int .i64 n_1)) 8 (.bool b_8)) 9 (.str l_9 c_9)) 10 (.int .u64 n_10)) 11 (.int .u64 n_11)) 12 (.bool b_12)) 13 (.int .u64 n_13)) 16 (.int .u8 n_16)) 100 (.int .i64 n_100)) 101 (.int .i64 n_101)) h=Ad7 c k J n_1 b_8 l_9 c_9 n_10 n_11 b_12 n_13 n_16 (f 99) n_100 n_101 h:=by kernel_rfl
theorem A6a(J:Tn)(l_0 c_0:Nat)(n_1 n_2:Int)(b_8:Bool)(l_9 c_9:Nat)(n_10:Int):zqe c k Ake Ajw (f173 J) d173 Tryz.f173 (.r (.r (.r (.r (.r (.r (.r (.r .root)))))))) (Ae (Ae (Ae (Ae (Ae (Ae f 0 (.str l_0 c_0)) 1 (.int .i64 n_1)) 2 (.int .i64 n_2)) 8 (.bool b_8)) 9 (.str l_9 c_9)) 10 (.int .u64 n_10)) h=Ad6 c k J l_0 c_0 n_1 n_2 b_8 l_9 c_9 n_10 h:=by kernel_rfl
theorem A59(J:Tn)(l_0 c_0:Nat)(n_1 n_2:Int)(b_8:Bool)(l_9 c_9:Nat):zqe c k Ake Ajw (f173 J) d173 Tryz.f173 (.r (.r (.r (.r (.r (.r .root)))))) (Ae (Ae (Ae (Ae (Ae f 0 (.str l_0 c_0)) 1 (.int .i64 n_1)) 2 (.int .i64 n_2)) 8 (.bool b_8)) 9 (.str l_9 c_9)) h=Ad5 c k J l_0 c_0 n_1 n_2 b_8 l_9 c_9 h:=by kernel_rfl
theorem A58(J:Tn)(l_0 c_0:Nat)(n_1 n_2:Int)(b_8:Bool)(l_9 c_9:Nat):zqe c k Ake Ajw (f173 J) d173 Tryz.f173 (.r (.r (.r (.r (.r .root))))) (Ae (Ae (Ae (Ae (Ae f 0 (.str l_0 c_0)) 1 (.int .i64 n_1)) 2 (.int .i64 n_2)) 8 (.bool b_8)) 9 (.str l_9 c_9)) h=Ad4 c k J l_0 c_0 n_1 n_2 b_8 l_9 c_9 h:=by kernel_rfl
theorem A8q(hc:Bv c){n:Nat}{a:List AV}(hg:f173 (Pm c k n) 0 (Ab a) h):zqs 173 a h k:=
 zqw hc Ake Tryz.func173 rfl (by kernel_rfl) (by kernel_rfl) k Ajw (fun n=>f173 (Pm c k n)) (fun L _ _ hl=>match L,hl with
  |0,hl=>Bd hl fun _ _ hl=>Bf hl fun _ hl=>Bf hl fun _ hl=>hl
  |1,hl=>Bf hl fun _ hl=>Hz hl fun _ hl=>Bd hl fun _ _ hl=>Bf hl fun _ hl=>Bf hl fun _ hl=>Hz hl fun _ hl=>Bf hl fun _ hl=>Bf hl fun _ hl=>Bf hl fun _ hl=>hl
  |2,hl=>Bf hl fun _ hl=>Hz hl fun _ hl=>Bd hl fun _ _ hl=>Bf hl fun _ hl=>Bf hl fun _ hl=>Hz hl fun _ hl=>Bf hl fun _ hl=>Bf hl fun _ hl=>Bf hl fun _ hl=>Bf hl fun _ hl=>hl
  |3,hl=>Bd hl fun _ _ hl=>Bf hl fun _ hl=>Bf hl fun _ hl=>Hz hl fun _ hl=>Bd hl fun _ _ hl=>Bf hl fun _ hl=>hl
  |4,hl=>Bd hl fun _ _ hl=>Bf hl fun _ hl=>Bf hl fun _ hl=>Hz hl fun _ hl=>Bd hl fun _ _ hl=>hl
  |5,hl=>Bd hl fun _ _ hl=>Bf hl fun _ hl=>Bf hl fun _ hl=>Hz hl fun _ hl=>Bd hl fun _ _ hl=>hl
  |_+6,hl=>hl) (fun n=>⟨
  fun f h hl=>by
    refine Bc 0 hl fun _ _ hl=>?_;refine Be 1 hl fun _ hl=>?_;refine Be 2 hl fun _ hl=>?_;exact Eq.mpr (A6d ..) hl,
  fun f h hl=>by
    refine Be 1 hl fun _ hl=>?_;refine Hy 8 hl fun _ hl=>?_;refine Bc 9 hl fun _ _ hl=>?_;refine Be 10 hl fun _ hl=>?_;refine Be 11 hl fun _ hl=>?_;refine Hy 12 hl fun _ hl=>?_;refine Be 13 hl fun _ hl=>?_;refine Be 100 hl fun _ hl=>?_;refine Be 101 hl fun _ hl=>?_;exact Eq.mpr (A6c ..) hl,
  fun f h hl=>by
    refine Be 1 hl fun _ hl=>?_;refine Hy 8 hl fun _ hl=>?_;refine Bc 9 hl fun _ _ hl=>?_;refine Be 10 hl fun _ hl=>?_;refine Be 11 hl fun _ hl=>?_;refine Hy 12 hl fun _ hl=>?_;refine Be 13 hl fun _ hl=>?_;refine Be 16 hl fun _ hl=>?_;refine Be 100 hl fun _ hl=>?_;refine Be 101 hl fun _ hl=>?_;exact Eq.mpr (A6b ..) hl,
  fun f h hl=>by
    refine Bc 0 hl fun _ _ hl=>?_;refine Be 1 hl fun _ hl=>?_;refine Be 2 hl fun _ hl=>?_;refine Hy 8 hl fun _ hl=>?_;refine Bc 9 hl fun _ _ hl=>?_;refine Be 10 hl fun _ hl=>?_;exact Eq.mpr (A6a ..) hl,
  fun f h hl=>by
    refine Bc 0 hl fun _ _ hl=>?_;refine Be 1 hl fun _ hl=>?_;refine Be 2 hl fun _ hl=>?_;refine Hy 8 hl fun _ hl=>?_;refine Bc 9 hl fun _ _ hl=>?_;exact Eq.mpr (A59 ..) hl,
  fun f h hl=>by
    refine Bc 0 hl fun _ _ hl=>?_;refine Be 1 hl fun _ hl=>?_;refine Be 2 hl fun _ hl=>?_;refine Hy 8 hl fun _ hl=>?_;refine Bc 9 hl fun _ _ hl=>?_;exact Eq.mpr (A58 ..) hl,
  trivial⟩) rfl hg
theorem Bib(hc:Bv c){m:Nat}{a:List AV}(hg:Dx env c A3i A2i d176 (Dh env Tryz.f176.results.toList k) m 0 (Ab a) h):zqs 176 a h k:=Ee mixed Ew hc A3i Tryz.func176 rfl (by kernel_rfl) (by kernel_rfl) (by kernel_rfl) (by simp[A2i]) hg
theorem Au8(J:Aw8)(b_1:Bool):zqe c k A3g A2g (f178 J) d178 Tryz.f178 .root (Ae f 1 (.bool b_1)) h=Ar6 c k J (f 0) b_1 h:=by kernel_rfl
theorem Bh9(hc:Bv c){n:Nat}{a:List AV}(hg:f178 (Akb c k n) 0 (Ab a) h):zqs 178 a h k:=
 zqw hc A3g Tryz.func178 rfl (by kernel_rfl) (by kernel_rfl) k A2g (fun n=>f178 (Akb c k n)) (fun L _ _ hl=>match L,hl with
  |0,hl=>Hz hl fun _ hl=>hl
  |_+1,hl=>hl) (fun n=>⟨
  fun f h hl=>by
    refine Hy 1 hl fun _ hl=>?_;exact Eq.mpr (Au8 ..) hl,
  trivial⟩) rfl hg
theorem A8e(hc:Bv c){n:Nat}{a:List AV}(hg:f178 (Akb c k n) 0 (Ab a) h):A1u 178 a h k:=
 A73 hc A3g Tryz.func178 rfl (by kernel_rfl) (by kernel_rfl) k A2g (fun n=>f178 (Akb c k n)) (fun L _ _ hl=>match L,hl with
  |0,hl=>Hz hl fun _ hl=>hl
  |_+1,hl=>hl) (fun n=>⟨
  fun f h hl=>by
    refine Hy 1 hl fun _ hl=>?_;exact Eq.mpr (Au8 ..) hl,
  trivial⟩) rfl hg
theorem A56(J:Alw)(n_1:Int):zqe c k A3e A2e (f208 J) d208 Tryz.f208 .root (Ae f 1 (.int .i64 n_1)) h=Ad2 c k J (f 0) n_1 h:=by kernel_rfl
theorem A55(J:Alw)(n_1:Int):zqe c k A3e A2e (f208 J) d208 Tryz.f208 (.r (.r .root)) (Ae f 1 (.int .i64 n_1)) h=Ad1 c k J (f 0) n_1 h:=by kernel_rfl
theorem A8o(hc:Bv c){n:Nat}{a:List AV}(hg:f208 (Aka c k n) 0 (Ab a) h):zqs 208 a h k:=
 zqw hc A3e Tryz.func208 rfl (by kernel_rfl) (by kernel_rfl) k A2e (fun n=>f208 (Aka c k n)) (fun L _ _ hl=>match L,hl with
  |0,hl=>Bf hl fun _ hl=>hl
  |1,hl=>Bf hl fun _ hl=>hl
  |_+2,hl=>hl) (fun n=>⟨
  fun f h hl=>by
    refine Be 1 hl fun _ hl=>?_;exact Eq.mpr (A56 ..) hl,
  fun f h hl=>by
    refine Be 1 hl fun _ hl=>?_;exact Eq.mpr (A55 ..) hl,
  trivial⟩) rfl hg
theorem Bh7(hc:Bv c){m:Nat}{a:List AV}(hg:Dx env c A3d A2d d214 (Dh env Tryz.f214.results.toList k) m 0 (Ab a) h):zqs 214 a h k:=Ee mixed Ew hc A3d Tryz.func214 rfl (by kernel_rfl) (by kernel_rfl) (by kernel_rfl) (by simp[A2d]) hg
theorem A51(J:Aw5)(n_0:Int):zqe c k Bap A9j (f221 J) d221 Tryz.f221 .root (Ae f 0 (.int .u8 n_0)) h=Ady c k J n_0 h:=by kernel_rfl
theorem A8l(hc:Bv c){n:Nat}{a:List AV}(hg:f221 (Asl c k n) 0 (Ab a) h):zqs 221 a h k:=
 zqw hc Bap Tryz.func221 rfl (by kernel_rfl) (by kernel_rfl) k A9j (fun n=>f221 (Asl c k n)) (fun L _ _ hl=>match L,hl with
  |0,hl=>Bf hl fun _ hl=>hl
  |_+1,hl=>hl) (fun n=>⟨
  fun f h hl=>by
    refine Be 0 hl fun _ hl=>?_;exact Eq.mpr (A51 ..) hl,
  trivial⟩) rfl hg
theorem Bh5(hc:Bv c){m:Nat}{a:List AV}(hg:Dx env c A3a A2a d228 (Dh env Tryz.f228.results.toList k) m 0 (Ab a) h):zqs 228 a h k:=Ee mixed Ew hc A3a Tryz.func228 rfl (by kernel_rfl) (by kernel_rfl) (by kernel_rfl) (by simp[A2a]) hg
theorem Bh3(hc:Bv c){m:Nat}{a:List AV}(hg:Dx env c A28 A18 d263 (Dh env Tryz.f263.results.toList k) m 0 (Ab a) h):zqs 263 a h k:=Ee mixed Ew hc A28 Tryz.func263 rfl (by kernel_rfl) (by kernel_rfl) (by kernel_rfl) (by simp[A18]) hg
theorem A5y(J:Aw2)(l_0 c_0:Nat):zqe c k Bam A9g (f265 J) d265 Tryz.f265 .root (Ae f 0 (.str l_0 c_0)) h=Adv c k J l_0 c_0 h:=by kernel_rfl
theorem A8i(hc:Bv c){n:Nat}{a:List AV}(hg:f265 (Ash c k n) 0 (Ab a) h):zqs 265 a h k:=
 zqw hc Bam Tryz.func265 rfl (by kernel_rfl) (by kernel_rfl) k A9g (fun n=>f265 (Ash c k n)) (fun L _ _ hl=>match L,hl with
  |0,hl=>Bd hl fun _ _ hl=>hl
  |_+1,hl=>hl) (fun n=>⟨
  fun f h hl=>by
    refine Bc 0 hl fun _ _ hl=>?_;exact Eq.mpr (A5y ..) hl,
  trivial⟩) rfl hg
end Go.Den
