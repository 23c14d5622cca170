/-
  A part of the proof: the pieces are what the program does.
-/
import Derived.Test.YtpjkiikmjddpiaaGreatDoorRunA1
import Derived.KernelRfl
namespace Go.Den
set_option maxRecDepth 100000
variable{c:Caller Prop FT}{k:KV}{f:FT}{h:H}
theorem e3_0(J:J3):zqe c k q3 u3 (f3 J) d3 Go.Proofs.Tryz.f3 .root f h=s3_0 c k J (f 0) (f 1) (f 2) h:=by kernel_rfl
theorem e3_1(J:J3)(n_11:Int):zqe c k q3 u3 (f3 J) d3 Go.Proofs.Tryz.f3 (.l (.r (.l (.r (.r (.r (.r (.r .root)))))))) (fset f 11 (.int .i64 n_11)) h=s3_1 c k J (f 1) (f 5) (f 7) (f 8) (f 10) n_11 h:=by kernel_rfl
theorem e3_2(J:J3)(n_11:Int)(l_12:Nat)(c_12:Nat)(b_13:Bool)(l_14:Nat)(c_14:Nat)(b_15:Bool):zqe c k q3 u3 (f3 J) d3 Go.Proofs.Tryz.f3 (.r (.r (.r (.r (.l (.l (.r (.l (.l (.r (.l (.r (.r (.r (.r (.r .root)))))))))))))))) (fset (fset (fset (fset (fset f 11 (.int .i64 n_11)) 12 (.str l_12 c_12)) 13 (.bool b_13)) 14 (.str l_14 c_14)) 15 (.bool b_15)) h=s3_2 c k J (f 1) (f 5) (f 7) (f 8) (f 10) n_11 l_12 c_12 b_13 l_14 c_14 b_15 (f 16) h:=by kernel_rfl
theorem e3_3(J:J3)(n_11:Int):zqe c k q3 u3 (f3 J) d3 Go.Proofs.Tryz.f3 (.r (.r (.l (.l (.r (.l (.r (.r (.r (.r (.r .root))))))))))) (fset f 11 (.int .i64 n_11)) h=s3_3 c k J (f 1) (f 5) (f 7) (f 8) (f 10) n_11 h:=by kernel_rfl
theorem w3(hc:zqco c){n:Nat}{a:List AV}(hg:f3 (r3 c k n) 0 (finit a) h):zqs 3 a h k:=
 zqw hc q3 Go.Proofs.Tryz.func3 rfl (by kernel_rfl) (by kernel_rfl) k u3 (fun n=>f3 (r3 c k n)) (fun L _ _ hl=>match L,hl with
  |0,hl=>hl
  |1,hl=>zqnI hl fun _ hl=>hl
  |2,hl=>zqnI hl fun _ hl=>zqnS hl fun _ _ hl=>zqnB hl fun _ hl=>zqnS hl fun _ _ hl=>zqnB hl fun _ hl=>hl
  |3,hl=>zqnI hl fun _ hl=>hl
  |_+4,hl=>hl) (fun n=>⟨
  fun f h hl=>Eq.mpr (e3_0 ..) hl,
  fun f h hl=>by
    refine zqrI 11 hl fun _ hl=>?_;exact Eq.mpr (e3_1 ..) hl,
  fun f h hl=>by
    refine zqrI 11 hl fun _ hl=>?_;refine zqrS 12 hl fun _ _ hl=>?_;refine zqrB 13 hl fun _ hl=>?_;refine zqrS 14 hl fun _ _ hl=>?_;refine zqrB 15 hl fun _ hl=>?_;exact Eq.mpr (e3_2 ..) hl,
  fun f h hl=>by
    refine zqrI 11 hl fun _ hl=>?_;exact Eq.mpr (e3_3 ..) hl,
  trivial⟩) rfl hg

theorem e8_0(J:J8):zqe c k q8 u8 (f8 J) d8 Go.Proofs.Tryz.f8 .root f h=s8_0 c k J (f 0) (f 1) h:=by kernel_rfl
theorem e8_1(J:J8)(n_10:Int):zqe c k q8 u8 (f8 J) d8 Go.Proofs.Tryz.f8 (.l (.r (.l (.r (.r (.r (.r .root))))))) (fset f 10 (.int .i64 n_10)) h=s8_1 c k J (f 1) (f 7) (f 9) n_10 h:=by kernel_rfl
theorem w8(hc:zqco c){n:Nat}{a:List AV}(hg:f8 (r8 c k n) 0 (finit a) h):zqs 8 a h k:=
 zqw hc q8 Go.Proofs.Tryz.func8 rfl (by kernel_rfl) (by kernel_rfl) k u8 (fun n=>f8 (r8 c k n)) (fun L _ _ hl=>match L,hl with
  |0,hl=>hl
  |1,hl=>zqnI hl fun _ hl=>hl
  |_+2,hl=>hl) (fun n=>⟨
  fun f h hl=>Eq.mpr (e8_0 ..) hl,
  fun f h hl=>by
    refine zqrI 10 hl fun _ hl=>?_;exact Eq.mpr (e8_1 ..) hl,
  trivial⟩) rfl hg

theorem e9_0(J:J9):zqe c k q9 u9 (f9 J) d9 Go.Proofs.Tryz.f9 .root f h=s9_0 c k J (f 0) (f 1) h:=by kernel_rfl
theorem w9(hc:zqco c){n:Nat}{a:List AV}(hg:f9 (r9 c k n) 0 (finit a) h):zqs 9 a h k:=
 zqw hc q9 Go.Proofs.Tryz.func9 rfl (by kernel_rfl) (by kernel_rfl) k u9 (fun n=>f9 (r9 c k n)) (fun L _ _ hl=>match L,hl with
  |0,hl=>hl
  |_+1,hl=>hl) (fun n=>⟨
  fun f h hl=>Eq.mpr (e9_0 ..) hl,
  trivial⟩) rfl hg

theorem e12_0(J:J12):zqe c k q12 u12 (f12 J) d12 Go.Proofs.Tryz.f12 .root f h=s12_0 c k J (f 0) (f 1) h:=by kernel_rfl
theorem e12_1(J:J12)(n_7:Int):zqe c k q12 u12 (f12 J) d12 Go.Proofs.Tryz.f12 (.l (.r (.l (.r (.r (.r .root)))))) (fset f 7 (.int .i64 n_7)) h=s12_1 c k J (f 0) (f 3) n_7 h:=by kernel_rfl
theorem w12(hc:zqco c){n:Nat}{a:List AV}(hg:f12 (r12 c k n) 0 (finit a) h):zqs 12 a h k:=
 zqw hc q12 Go.Proofs.Tryz.func12 rfl (by kernel_rfl) (by kernel_rfl) k u12 (fun n=>f12 (r12 c k n)) (fun L _ _ hl=>match L,hl with
  |0,hl=>hl
  |1,hl=>zqnI hl fun _ hl=>hl
  |_+2,hl=>hl) (fun n=>⟨
  fun f h hl=>Eq.mpr (e12_0 ..) hl,
  fun f h hl=>by
    refine zqrI 7 hl fun _ hl=>?_;exact Eq.mpr (e12_1 ..) hl,
  trivial⟩) rfl hg

theorem e15_0(J:J15):zqe c k q15 u15 (f15 J) d15 Go.Proofs.Tryz.f15 .root f h=s15_0 c k J (f 0) (f 1) h:=by kernel_rfl
theorem e15_1(J:J15)(n_10:Int)(n_11:Int):zqe c k q15 u15 (f15 J) d15 Go.Proofs.Tryz.f15 (.l (.r (.l (.r .root)))) (fset (fset f 10 (.int .i64 n_10)) 11 (.int .i64 n_11)) h=s15_1 c k J (f 3) (f 4) (f 9) n_10 n_11 h:=by kernel_rfl
theorem w15(hc:zqco c){n:Nat}{a:List AV}(hg:f15 (r15 c k n) 0 (finit a) h):zqs 15 a h k:=
 zqw hc q15 Go.Proofs.Tryz.func15 rfl (by kernel_rfl) (by kernel_rfl) k u15 (fun n=>f15 (r15 c k n)) (fun L _ _ hl=>match L,hl with
  |0,hl=>hl
  |1,hl=>zqnI hl fun _ hl=>zqnI hl fun _ hl=>hl
  |_+2,hl=>hl) (fun n=>⟨
  fun f h hl=>Eq.mpr (e15_0 ..) hl,
  fun f h hl=>by
    refine zqrI 10 hl fun _ hl=>?_;refine zqrI 11 hl fun _ hl=>?_;exact Eq.mpr (e15_1 ..) hl,
  trivial⟩) rfl hg

theorem e20_0(J:J20):zqe c k q20 u20 (f20 J) d20 Go.Proofs.Tryz.f20 .root f h=s20_0 c k J (f 0) h:=by kernel_rfl
theorem w20(hc:zqco c){n:Nat}{a:List AV}(hg:f20 (r20 c k n) 0 (finit a) h):zqs 20 a h k:=
 zqw hc q20 Go.Proofs.Tryz.func20 rfl (by kernel_rfl) (by kernel_rfl) k u20 (fun n=>f20 (r20 c k n)) (fun L _ _ hl=>match L,hl with
  |0,hl=>hl
  |_+1,hl=>hl) (fun n=>⟨
  fun f h hl=>Eq.mpr (e20_0 ..) hl,
  trivial⟩) rfl hg

theorem e22_0(J:J22)(l_1:Nat)(c_1:Nat)(l_2:Nat)(c_2:Nat):zqe c k q22 u22 (f22 J) d22 Go.Proofs.Tryz.f22 .root (fset (fset f 1 (.str l_1 c_1)) 2 (.str l_2 c_2)) h=s22_0 c k J (f 0) l_1 c_1 l_2 c_2 h:=by kernel_rfl
theorem w22(hc:zqco c){n:Nat}{a:List AV}(hg:f22 (r22 c k n) 0 (finit a) h):zqs 22 a h k:=
 zqw hc q22 Go.Proofs.Tryz.func22 rfl (by kernel_rfl) (by kernel_rfl) k u22 (fun n=>f22 (r22 c k n)) (fun L _ _ hl=>match L,hl with
  |0,hl=>zqnS hl fun _ _ hl=>zqnS hl fun _ _ hl=>hl
  |_+1,hl=>hl) (fun n=>⟨
  fun f h hl=>by
    refine zqrS 1 hl fun _ _ hl=>?_;refine zqrS 2 hl fun _ _ hl=>?_;exact Eq.mpr (e22_0 ..) hl,
  trivial⟩) rfl hg

theorem w27(hc:zqco c){m:Nat}{a:List AV}(hg:runJ env c q27 u27 d27 (retA env Go.Proofs.Tryz.f27.results.toList k) m 0 (finit a) h):zqs 27 a h k:=fnI_ok mixed envOk hc q27 Go.Proofs.Tryz.func27 rfl (by kernel_rfl) (by kernel_rfl) (by kernel_rfl) (by simp[u27]) hg
theorem e30_0(J:J30)(l_0:Nat)(c_0:Nat):zqe c k q30 u30 (f30 J) d30 Go.Proofs.Tryz.f30 .root (fset f 0 (.str l_0 c_0)) h=s30_0 c k J l_0 c_0 h:=by kernel_rfl
theorem e30_1(J:J30)(l_0:Nat)(c_0:Nat)(n_4:Int):zqe c k q30 u30 (f30 J) d30 Go.Proofs.Tryz.f30 (.l (.r (.l (.r (.r .root))))) (fset (fset f 0 (.str l_0 c_0)) 4 (.int .i64 n_4)) h=s30_1 c k J l_0 c_0 (f 3) n_4 h:=by kernel_rfl
theorem e30_2(J:J30)(l_0:Nat)(c_0:Nat)(n_4:Int):zqe c k q30 u30 (f30 J) d30 Go.Proofs.Tryz.f30 (.r (.l (.r (.l (.l (.r (.l (.r (.r .root))))))))) (fset (fset f 0 (.str l_0 c_0)) 4 (.int .i64 n_4)) h=s30_2 c k J l_0 c_0 (f 3) n_4 h:=by kernel_rfl
theorem w30(hc:zqco c){n:Nat}{a:List AV}(hg:f30 (r30 c k n) 0 (finit a) h):zqs 30 a h k:=
 zqw hc q30 Go.Proofs.Tryz.func30 rfl (by kernel_rfl) (by kernel_rfl) k u30 (fun n=>f30 (r30 c k n)) (fun L _ _ hl=>match L,hl with
  |0,hl=>zqnS hl fun _ _ hl=>hl
  |1,hl=>zqnS hl fun _ _ hl=>zqnI hl fun _ hl=>hl
  |2,hl=>zqnS hl fun _ _ hl=>zqnI hl fun _ hl=>hl
  |_+3,hl=>hl) (fun n=>⟨
  fun f h hl=>by
    refine zqrS 0 hl fun _ _ hl=>?_;exact Eq.mpr (e30_0 ..) hl,
  fun f h hl=>by
    refine zqrS 0 hl fun _ _ hl=>?_;refine zqrI 4 hl fun _ hl=>?_;exact Eq.mpr (e30_1 ..) hl,
  fun f h hl=>by
    refine zqrS 0 hl fun _ _ hl=>?_;refine zqrI 4 hl fun _ hl=>?_;exact Eq.mpr (e30_2 ..) hl,
  trivial⟩) rfl hg

theorem e31_0(J:J31)(l_0:Nat)(c_0:Nat):zqe c k q31 u31 (f31 J) d31 Go.Proofs.Tryz.f31 .root (fset f 0 (.str l_0 c_0)) h=s31_0 c k J l_0 c_0 h:=by kernel_rfl
theorem e31_1(J:J31)(n_4:Int):zqe c k q31 u31 (f31 J) d31 Go.Proofs.Tryz.f31 (.l (.r (.l (.r (.r (.r .root)))))) (fset f 4 (.int .i64 n_4)) h=s31_1 c k J (f 3) n_4 h:=by kernel_rfl
theorem w31(hc:zqco c){n:Nat}{a:List AV}(hg:f31 (r31 c k n) 0 (finit a) h):zqs 31 a h k:=
 zqw hc q31 Go.Proofs.Tryz.func31 rfl (by kernel_rfl) (by kernel_rfl) k u31 (fun n=>f31 (r31 c k n)) (fun L _ _ hl=>match L,hl with
  |0,hl=>zqnS hl fun _ _ hl=>hl
  |1,hl=>zqnI hl fun _ hl=>hl
  |_+2,hl=>hl) (fun n=>⟨
  fun f h hl=>by
    refine zqrS 0 hl fun _ _ hl=>?_;exact Eq.mpr (e31_0 ..) hl,
  fun f h hl=>by
    refine zqrI 4 hl fun _ hl=>?_;exact Eq.mpr (e31_1 ..) hl,
  trivial⟩) rfl hg

theorem e34_0(J:J34):zqe c k q34 u34 (f34 J) d34 Go.Proofs.Tryz.f34 .root f h=s34_0 c k J (f 0) (f 1) h:=by kernel_rfl
theorem w34(hc:zqco c){n:Nat}{a:List AV}(hg:f34 (r34 c k n) 0 (finit a) h):zqs 34 a h k:=
 zqw hc q34 Go.Proofs.Tryz.func34 rfl (by kernel_rfl) (by kernel_rfl) k u34 (fun n=>f34 (r34 c k n)) (fun L _ _ hl=>match L,hl with
  |0,hl=>hl
  |_+1,hl=>hl) (fun n=>⟨
  fun f h hl=>Eq.mpr (e34_0 ..) hl,
  trivial⟩) rfl hg

theorem e37_0(J:J37)(l_1:Nat)(c_1:Nat)(n_3:Int):zqe c k q37 u37 (f37 J) d37 Go.Proofs.Tryz.f37 .root (fset (fset f 1 (.str l_1 c_1)) 3 (.int .i64 n_3)) h=s37_0 c k J (f 0) l_1 c_1 (f 2) n_3 h:=by kernel_rfl
theorem w37(hc:zqco c){n:Nat}{a:List AV}(hg:f37 (r37 c k n) 0 (finit a) h):zqs 37 a h k:=
 zqw hc q37 Go.Proofs.Tryz.func37 rfl (by kernel_rfl) (by kernel_rfl) k u37 (fun n=>f37 (r37 c k n)) (fun L _ _ hl=>match L,hl with
  |0,hl=>zqnS hl fun _ _ hl=>zqnI hl fun _ hl=>hl
  |_+1,hl=>hl) (fun n=>⟨
  fun f h hl=>by
    refine zqrS 1 hl fun _ _ hl=>?_;refine zqrI 3 hl fun _ hl=>?_;exact Eq.mpr (e37_0 ..) hl,
  trivial⟩) rfl hg

theorem e43_0(J:J43):zqe c k q43 u43 (f43 J) d43 Go.Proofs.Tryz.f43 .root f h=s43_0 c k J (f 0) h:=by kernel_rfl
theorem w43(hc:zqco c){n:Nat}{a:List AV}(hg:f43 (r43 c k n) 0 (finit a) h):zqs 43 a h k:=
 zqw hc q43 Go.Proofs.Tryz.func43 rfl (by kernel_rfl) (by kernel_rfl) k u43 (fun n=>f43 (r43 c k n)) (fun L _ _ hl=>match L,hl with
  |0,hl=>hl
  |_+1,hl=>hl) (fun n=>⟨
  fun f h hl=>Eq.mpr (e43_0 ..) hl,
  trivial⟩) rfl hg

theorem w45(hc:zqco c){m:Nat}{a:List AV}(hg:runJ env c q45 u45 d45 (retA env Go.Proofs.Tryz.f45.results.toList k) m 0 (finit a) h):zqs 45 a h k:=fnI_ok mixed envOk hc q45 Go.Proofs.Tryz.func45 rfl (by kernel_rfl) (by kernel_rfl) (by kernel_rfl) (by simp[u45]) hg
theorem w49(hc:zqco c){m:Nat}{a:List AV}(hg:runJ env c q49 u49 d49 (retA env Go.Proofs.Tryz.f49.results.toList k) m 0 (finit a) h):zqs 49 a h k:=fnI_ok mixed envOk hc q49 Go.Proofs.Tryz.func49 rfl (by kernel_rfl) (by kernel_rfl) (by kernel_rfl) (by simp[u49]) hg
theorem w53(hc:zqco c){m:Nat}{a:List AV}(hg:runJ env c q53 u53 d53 (retA env Go.Proofs.Tryz.f53.results.toList k) m 0 (finit a) h):zqs 53 a h k:=fnI_ok mixed envOk hc q53 Go.Proofs.Tryz.func53 rfl (by kernel_rfl) (by kernel_rfl) (by kernel_rfl) (by simp[u53]) hg
theorem e58_0(J:J58)(l_0:Nat)(c_0:Nat):zqe c k q58 u58 (f58 J) d58 Go.Proofs.Tryz.f58 .root (fset f 0 (.str l_0 c_0)) h=s58_0 c k J l_0 c_0 h:=by kernel_rfl
theorem e58_1(J:J58)(l_0:Nat)(c_0:Nat)(b_3:Bool)(n_4:Int):zqe c k q58 u58 (f58 J) d58 Go.Proofs.Tryz.f58 (.l (.r (.l (.r (.r .root))))) (fset (fset (fset f 0 (.str l_0 c_0)) 3 (.bool b_3)) 4 (.int .i64 n_4)) h=s58_1 c k J l_0 c_0 b_3 n_4 h:=by kernel_rfl
theorem w58(hc:zqco c){n:Nat}{a:List AV}(hg:f58 (r58 c k n) 0 (finit a) h):zqs 58 a h k:=
 zqw hc q58 Go.Proofs.Tryz.func58 rfl (by kernel_rfl) (by kernel_rfl) k u58 (fun n=>f58 (r58 c k n)) (fun L _ _ hl=>match L,hl with
  |0,hl=>zqnS hl fun _ _ hl=>hl
  |1,hl=>zqnS hl fun _ _ hl=>zqnB hl fun _ hl=>zqnI hl fun _ hl=>hl
  |_+2,hl=>hl) (fun n=>⟨
  fun f h hl=>by
    refine zqrS 0 hl fun _ _ hl=>?_;exact Eq.mpr (e58_0 ..) hl,
  fun f h hl=>by
    refine zqrS 0 hl fun _ _ hl=>?_;refine zqrB 3 hl fun _ hl=>?_;refine zqrI 4 hl fun _ hl=>?_;exact Eq.mpr (e58_1 ..) hl,
  trivial⟩) rfl hg

theorem e64_0(J:J64)(l_0:Nat)(c_0:Nat):zqe c k q64 u64 (f64 J) d64 Go.Proofs.Tryz.f64 .root (fset f 0 (.str l_0 c_0)) h=s64_0 c k J l_0 c_0 h:=by kernel_rfl
theorem e64_1(J:J64)(l_0:Nat)(c_0:Nat)(n_3:Int):zqe c k q64 u64 (f64 J) d64 Go.Proofs.Tryz.f64 (.lab (.r .root) 0) (fset (fset f 0 (.str l_0 c_0)) 3 (.int .i64 n_3)) h=s64_1 c k J l_0 c_0 (f 2) n_3 h:=by kernel_rfl
theorem w64(hc:zqco c){n:Nat}{a:List AV}(hg:f64 (r64 c k n) 0 (finit a) h):zqs 64 a h k:=
 zqw hc q64 Go.Proofs.Tryz.func64 rfl (by kernel_rfl) (by kernel_rfl) k u64 (fun n=>f64 (r64 c k n)) (fun L _ _ hl=>match L,hl with
  |0,hl=>zqnS hl fun _ _ hl=>hl
  |1,hl=>zqnS hl fun _ _ hl=>zqnI hl fun _ hl=>hl
  |_+2,hl=>hl) (fun n=>⟨
  fun f h hl=>by
    refine zqrS 0 hl fun _ _ hl=>?_;exact Eq.mpr (e64_0 ..) hl,
  fun f h hl=>by
    refine zqrS 0 hl fun _ _ hl=>?_;refine zqrI 3 hl fun _ hl=>?_;exact Eq.mpr (e64_1 ..) hl,
  trivial⟩) rfl hg

theorem w73(hc:zqco c){m:Nat}{a:List AV}(hg:runJ env c q73 u73 d73 (retA env Go.Proofs.Tryz.f73.results.toList k) m 0 (finit a) h):zqs 73 a h k:=fnI_ok mixed envOk hc q73 Go.Proofs.Tryz.func73 rfl (by kernel_rfl) (by kernel_rfl) (by kernel_rfl) (by simp[u73]) hg
theorem w77(hc:zqco c){m:Nat}{a:List AV}(hg:runJ env c q77 u77 d77 (retA env Go.Proofs.Tryz.f77.results.toList k) m 0 (finit a) h):zqs 77 a h k:=fnI_ok mixed envOk hc q77 Go.Proofs.Tryz.func77 rfl (by kernel_rfl) (by kernel_rfl) (by kernel_rfl) (by simp[u77]) hg
theorem e82_0(J:J82)(n_0:Int):zqe c k q82 u82 (f82 J) d82 Go.Proofs.Tryz.f82 .root (fset f 0 (.int .u8 n_0)) h=s82_0 c k J n_0 h:=by kernel_rfl
theorem w82(hc:zqco c){n:Nat}{a:List AV}(hg:f82 (r82 c k n) 0 (finit a) h):zqs 82 a h k:=
 zqw hc q82 Go.Proofs.Tryz.func82 rfl (by kernel_rfl) (by kernel_rfl) k u82 (fun n=>f82 (r82 c k n)) (fun L _ _ hl=>match L,hl with
  |0,hl=>zqnI hl fun _ hl=>hl
  |_+1,hl=>hl) (fun n=>⟨
  fun f h hl=>by
    refine zqrI 0 hl fun _ hl=>?_;exact Eq.mpr (e82_0 ..) hl,
  trivial⟩) rfl hg

theorem e83_0(J:J83)(l_0:Nat)(c_0:Nat):zqe c k q83 u83 (f83 J) d83 Go.Proofs.Tryz.f83 .root (fset f 0 (.str l_0 c_0)) h=s83_0 c k J l_0 c_0 h:=by kernel_rfl
theorem w83(hc:zqco c){n:Nat}{a:List AV}(hg:f83 (r83 c k n) 0 (finit a) h):zqs 83 a h k:=
 zqw hc q83 Go.Proofs.Tryz.func83 rfl (by kernel_rfl) (by kernel_rfl) k u83 (fun n=>f83 (r83 c k n)) (fun L _ _ hl=>match L,hl with
  |0,hl=>zqnS hl fun _ _ hl=>hl
  |_+1,hl=>hl) (fun n=>⟨
  fun f h hl=>by
    refine zqrS 0 hl fun _ _ hl=>?_;exact Eq.mpr (e83_0 ..) hl,
  trivial⟩) rfl hg

theorem w89(hc:zqco c){m:Nat}{a:List AV}(hg:runJ env c q89 u89 d89 (retA env Go.Proofs.Tryz.f89.results.toList k) m 0 (finit a) h):zqs 89 a h k:=fnI_ok mixed envOk hc q89 Go.Proofs.Tryz.func89 rfl (by kernel_rfl) (by kernel_rfl) (by kernel_rfl) (by simp[u89]) hg
theorem w93(hc:zqco c){m:Nat}{a:List AV}(hg:runJ env c q93 u93 d93 (retA env Go.Proofs.Tryz.f93.results.toList k) m 0 (finit a) h):zqs 93 a h k:=fnI_ok mixed envOk hc q93 Go.Proofs.Tryz.func93 rfl (by kernel_rfl) (by kernel_rfl) (by kernel_rfl) (by simp[u93]) hg
theorem w97(hc:zqco c){m:Nat}{a:List AV}(hg:runJ env c q97 u97 d97 (retA env Go.Proofs.Tryz.f97.results.toList k) m 0 (finit a) h):zqs 97 a h k:=fnI_ok mixed envOk hc q97 Go.Proofs.Tryz.func97 rfl (by kernel_rfl) (by kernel_rfl) (by kernel_rfl) (by simp[u97]) hg
theorem w103(hc:zqco c){m:Nat}{a:List AV}(hg:runJ env c q103 u103 d103 (retA env Go.Proofs.Tryz.f103.results.toList k) m 0 (finit a) h):zqs 103 a h k:=fnI_ok mixed envOk hc q103 Go.Proofs.Tryz.func103 rfl (by kernel_rfl) (by kernel_rfl) (by kernel_rfl) (by simp[u103]) hg
theorem w114(hc:zqco c){m:Nat}{a:List AV}(hg:runJ env c q114 u114 d114 (retA env Go.Proofs.Tryz.f114.results.toList k) m 0 (finit a) h):zqs 114 a h k:=fnI_ok mixed envOk hc q114 Go.Proofs.Tryz.func114 rfl (by kernel_rfl) (by kernel_rfl) (by kernel_rfl) (by simp[u114]) hg
theorem w118(hc:zqco c){m:Nat}{a:List AV}(hg:runJ env c q118 u118 d118 (retA env Go.Proofs.Tryz.f118.results.toList k) m 0 (finit a) h):zqs 118 a h k:=fnI_ok mixed envOk hc q118 Go.Proofs.Tryz.func118 rfl (by kernel_rfl) (by kernel_rfl) (by kernel_rfl) (by simp[u118]) hg
theorem w123(hc:zqco c){m:Nat}{a:List AV}(hg:runJ env c q123 u123 d123 (retA env Go.Proofs.Tryz.f123.results.toList k) m 0 (finit a) h):zqs 123 a h k:=fnI_ok mixed envOk hc q123 Go.Proofs.Tryz.func123 rfl (by kernel_rfl) (by kernel_rfl) (by kernel_rfl) (by simp[u123]) hg
theorem w127(hc:zqco c){m:Nat}{a:List AV}(hg:runJ env c q127 u127 d127 (retA env Go.Proofs.Tryz.f127.results.toList k) m 0 (finit a) h):zqs 127 a h k:=fnI_ok mixed envOk hc q127 Go.Proofs.Tryz.func127 rfl (by kernel_rfl) (by kernel_rfl) (by kernel_rfl) (by simp[u127]) hg
theorem w131(hc:zqco c){m:Nat}{a:List AV}(hg:runJ env c q131 u131 d131 (retA env Go.Proofs.Tryz.f131.results.toList k) m 0 (finit a) h):zqs 131 a h k:=fnI_ok mixed envOk hc q131 Go.Proofs.Tryz.func131 rfl (by kernel_rfl) (by kernel_rfl) (by kernel_rfl) (by simp[u131]) hg
theorem w135(hc:zqco c){m:Nat}{a:List AV}(hg:runJ env c q135 u135 d135 (retA env Go.Proofs.Tryz.f135.results.toList k) m 0 (finit a) h):zqs 135 a h k:=fnI_ok mixed envOk hc q135 Go.Proofs.Tryz.func135 rfl (by kernel_rfl) (by kernel_rfl) (by kernel_rfl) (by simp[u135]) hg
theorem w139(hc:zqco c){m:Nat}{a:List AV}(hg:runJ env c q139 u139 d139 (retA env Go.Proofs.Tryz.f139.results.toList k) m 0 (finit a) h):zqs 139 a h k:=fnI_ok mixed envOk hc q139 Go.Proofs.Tryz.func139 rfl (by kernel_rfl) (by kernel_rfl) (by kernel_rfl) (by simp[u139]) hg
theorem w143(hc:zqco c){m:Nat}{a:List AV}(hg:runJ env c q143 u143 d143 (retA env Go.Proofs.Tryz.f143.results.toList k) m 0 (finit a) h):zqs 143 a h k:=fnI_ok mixed envOk hc q143 Go.Proofs.Tryz.func143 rfl (by kernel_rfl) (by kernel_rfl) (by kernel_rfl) (by simp[u143]) hg
theorem w147(hc:zqco c){m:Nat}{a:List AV}(hg:runJ env c q147 u147 d147 (retA env Go.Proofs.Tryz.f147.results.toList k) m 0 (finit a) h):zqs 147 a h k:=fnI_ok mixed envOk hc q147 Go.Proofs.Tryz.func147 rfl (by kernel_rfl) (by kernel_rfl) (by kernel_rfl) (by simp[u147]) hg
theorem w151(hc:zqco c){m:Nat}{a:List AV}(hg:runJ env c q151 u151 d151 (retA env Go.Proofs.Tryz.f151.results.toList k) m 0 (finit a) h):zqs 151 a h k:=fnI_ok mixed envOk hc q151 Go.Proofs.Tryz.func151 rfl (by kernel_rfl) (by kernel_rfl) (by kernel_rfl) (by simp[u151]) hg
theorem e154_0(J:J154)(l_0:Nat)(c_0:Nat)(l_1:Nat)(c_1:Nat):zqe c k q154 u154 (f154 J) d154 Go.Proofs.Tryz.f154 .root (fset (fset f 0 (.str l_0 c_0)) 1 (.str l_1 c_1)) h=s154_0 c k J l_0 c_0 l_1 c_1 h:=by kernel_rfl
theorem w154(hc:zqco c){n:Nat}{a:List AV}(hg:f154 (r154 c k n) 0 (finit a) h):zqs 154 a h k:=
 zqw hc q154 Go.Proofs.Tryz.func154 rfl (by kernel_rfl) (by kernel_rfl) k u154 (fun n=>f154 (r154 c k n)) (fun L _ _ hl=>match L,hl with
  |0,hl=>zqnS hl fun _ _ hl=>zqnS hl fun _ _ hl=>hl
  |_+1,hl=>hl) (fun n=>⟨
  fun f h hl=>by
    refine zqrS 0 hl fun _ _ hl=>?_;refine zqrS 1 hl fun _ _ hl=>?_;exact Eq.mpr (e154_0 ..) hl,
  trivial⟩) rfl hg

theorem w158(hc:zqco c){m:Nat}{a:List AV}(hg:runJ env c q158 u158 d158 (retA env Go.Proofs.Tryz.f158.results.toList k) m 0 (finit a) h):zqs 158 a h k:=fnI_ok mixed envOk hc q158 Go.Proofs.Tryz.func158 rfl (by kernel_rfl) (by kernel_rfl) (by kernel_rfl) (by simp[u158]) hg
theorem w162(hc:zqco c){m:Nat}{a:List AV}(hg:runJ env c q162 u162 d162 (retA env Go.Proofs.Tryz.f162.results.toList k) m 0 (finit a) h):zqs 162 a h k:=fnI_ok mixed envOk hc q162 Go.Proofs.Tryz.func162 rfl (by kernel_rfl) (by kernel_rfl) (by kernel_rfl) (by simp[u162]) hg
theorem w166(hc:zqco c){m:Nat}{a:List AV}(hg:runJ env c q166 u166 d166 (retA env Go.Proofs.Tryz.f166.results.toList k) m 0 (finit a) h):zqs 166 a h k:=fnI_ok mixed envOk hc q166 Go.Proofs.Tryz.func166 rfl (by kernel_rfl) (by kernel_rfl) (by kernel_rfl) (by simp[u166]) hg
theorem w171(hc:zqco c){m:Nat}{a:List AV}(hg:runJ env c q171 u171 d171 (retA env Go.Proofs.Tryz.f171.results.toList k) m 0 (finit a) h):zqs 171 a h k:=fnI_ok mixed envOk hc q171 Go.Proofs.Tryz.func171 rfl (by kernel_rfl) (by kernel_rfl) (by kernel_rfl) (by simp[u171]) hg
theorem w175(hc:zqco c){m:Nat}{a:List AV}(hg:runJ env c q175 u175 d175 (retA env Go.Proofs.Tryz.f175.results.toList k) m 0 (finit a) h):zqs 175 a h k:=fnI_ok mixed envOk hc q175 Go.Proofs.Tryz.func175 rfl (by kernel_rfl) (by kernel_rfl) (by kernel_rfl) (by simp[u175]) hg
theorem w179(hc:zqco c){m:Nat}{a:List AV}(hg:runJ env c q179 u179 d179 (retA env Go.Proofs.Tryz.f179.results.toList k) m 0 (finit a) h):zqs 179 a h k:=fnI_ok mixed envOk hc q179 Go.Proofs.Tryz.func179 rfl (by kernel_rfl) (by kernel_rfl) (by kernel_rfl) (by simp[u179]) hg
theorem w183(hc:zqco c){m:Nat}{a:List AV}(hg:runJ env c q183 u183 d183 (retA env Go.Proofs.Tryz.f183.results.toList k) m 0 (finit a) h):zqs 183 a h k:=fnI_ok mixed envOk hc q183 Go.Proofs.Tryz.func183 rfl (by kernel_rfl) (by kernel_rfl) (by kernel_rfl) (by simp[u183]) hg
theorem w188(hc:zqco c){m:Nat}{a:List AV}(hg:runJ env c q188 u188 d188 (retA env Go.Proofs.Tryz.f188.results.toList k) m 0 (finit a) h):zqs 188 a h k:=fnI_ok mixed envOk hc q188 Go.Proofs.Tryz.func188 rfl (by kernel_rfl) (by kernel_rfl) (by kernel_rfl) (by simp[u188]) hg
theorem w192(hc:zqco c){m:Nat}{a:List AV}(hg:runJ env c q192 u192 d192 (retA env Go.Proofs.Tryz.f192.results.toList k) m 0 (finit a) h):zqs 192 a h k:=fnI_ok mixed envOk hc q192 Go.Proofs.Tryz.func192 rfl (by kernel_rfl) (by kernel_rfl) (by kernel_rfl) (by simp[u192]) hg
theorem w198(hc:zqco c){m:Nat}{a:List AV}(hg:runJ env c q198 u198 d198 (retA env Go.Proofs.Tryz.f198.results.toList k) m 0 (finit a) h):zqs 198 a h k:=fnI_ok mixed envOk hc q198 Go.Proofs.Tryz.func198 rfl (by kernel_rfl) (by kernel_rfl) (by kernel_rfl) (by simp[u198]) hg
theorem w203(hc:zqco c){m:Nat}{a:List AV}(hg:runJ env c q203 u203 d203 (retA env Go.Proofs.Tryz.f203.results.toList k) m 0 (finit a) h):zqs 203 a h k:=fnI_ok mixed envOk hc q203 Go.Proofs.Tryz.func203 rfl (by kernel_rfl) (by kernel_rfl) (by kernel_rfl) (by simp[u203]) hg
theorem w207(hc:zqco c){m:Nat}{a:List AV}(hg:runJ env c q207 u207 d207 (retA env Go.Proofs.Tryz.f207.results.toList k) m 0 (finit a) h):zqs 207 a h k:=fnI_ok mixed envOk hc q207 Go.Proofs.Tryz.func207 rfl (by kernel_rfl) (by kernel_rfl) (by kernel_rfl) (by simp[u207]) hg
theorem w211(hc:zqco c){m:Nat}{a:List AV}(hg:runJ env c q211 u211 d211 (retA env Go.Proofs.Tryz.f211.results.toList k) m 0 (finit a) h):zqs 211 a h k:=fnI_ok mixed envOk hc q211 Go.Proofs.Tryz.func211 rfl (by kernel_rfl) (by kernel_rfl) (by kernel_rfl) (by simp[u211]) hg
theorem w215(hc:zqco c){m:Nat}{a:List AV}(hg:runJ env c q215 u215 d215 (retA env Go.Proofs.Tryz.f215.results.toList k) m 0 (finit a) h):zqs 215 a h k:=fnI_ok mixed envOk hc q215 Go.Proofs.Tryz.func215 rfl (by kernel_rfl) (by kernel_rfl) (by kernel_rfl) (by simp[u215]) hg
theorem w219(hc:zqco c){m:Nat}{a:List AV}(hg:runJ env c q219 u219 d219 (retA env Go.Proofs.Tryz.f219.results.toList k) m 0 (finit a) h):zqs 219 a h k:=fnI_ok mixed envOk hc q219 Go.Proofs.Tryz.func219 rfl (by kernel_rfl) (by kernel_rfl) (by kernel_rfl) (by simp[u219]) hg
theorem w223(hc:zqco c){m:Nat}{a:List AV}(hg:runJ env c q223 u223 d223 (retA env Go.Proofs.Tryz.f223.results.toList k) m 0 (finit a) h):zqs 223 a h k:=fnI_ok mixed envOk hc q223 Go.Proofs.Tryz.func223 rfl (by kernel_rfl) (by kernel_rfl) (by kernel_rfl) (by simp[u223]) hg
theorem w227(hc:zqco c){m:Nat}{a:List AV}(hg:runJ env c q227 u227 d227 (retA env Go.Proofs.Tryz.f227.results.toList k) m 0 (finit a) h):zqs 227 a h k:=fnI_ok mixed envOk hc q227 Go.Proofs.Tryz.func227 rfl (by kernel_rfl) (by kernel_rfl) (by kernel_rfl) (by simp[u227]) hg
theorem e233_0(J:J233)(b_1:Bool):zqe c k q233 u233 (f233 J) d233 Go.Proofs.Tryz.f233 .root (fset f 1 (.bool b_1)) h=s233_0 c k J (f 0) b_1 h:=by kernel_rfl
theorem w233(hc:zqco c){n:Nat}{a:List AV}(hg:f233 (r233 c k n) 0 (finit a) h):zqs 233 a h k:=
 zqw hc q233 Go.Proofs.Tryz.func233 rfl (by kernel_rfl) (by kernel_rfl) k u233 (fun n=>f233 (r233 c k n)) (fun L _ _ hl=>match L,hl with
  |0,hl=>zqnB hl fun _ hl=>hl
  |_+1,hl=>hl) (fun n=>⟨
  fun f h hl=>by
    refine zqrB 1 hl fun _ hl=>?_;exact Eq.mpr (e233_0 ..) hl,
  trivial⟩) rfl hg
theorem wd233(hc:zqco c){n:Nat}{a:List AV}(hg:f233 (r233 c k n) 0 (finit a) h):zqsd 233 a h k:=
 zqwd hc q233 Go.Proofs.Tryz.func233 rfl (by kernel_rfl) (by kernel_rfl) k u233 (fun n=>f233 (r233 c k n)) (fun L _ _ hl=>match L,hl with
  |0,hl=>zqnB hl fun _ hl=>hl
  |_+1,hl=>hl) (fun n=>⟨
  fun f h hl=>by
    refine zqrB 1 hl fun _ hl=>?_;exact Eq.mpr (e233_0 ..) hl,
  trivial⟩) rfl hg

theorem w235(hc:zqco c){m:Nat}{a:List AV}(hg:runJ env c q235 u235 d235 (retA env Go.Proofs.Tryz.f235.results.toList k) m 0 (finit a) h):zqs 235 a h k:=fnI_ok mixed envOk hc q235 Go.Proofs.Tryz.func235 rfl (by kernel_rfl) (by kernel_rfl) (by kernel_rfl) (by simp[u235]) hg
theorem w239(hc:zqco c){m:Nat}{a:List AV}(hg:runJ env c q239 u239 d239 (retA env Go.Proofs.Tryz.f239.results.toList k) m 0 (finit a) h):zqs 239 a h k:=fnI_ok mixed envOk hc q239 Go.Proofs.Tryz.func239 rfl (by kernel_rfl) (by kernel_rfl) (by kernel_rfl) (by simp[u239]) hg
theorem w243(hc:zqco c){m:Nat}{a:List AV}(hg:runJ env c q243 u243 d243 (retA env Go.Proofs.Tryz.f243.results.toList k) m 0 (finit a) h):zqs 243 a h k:=fnI_ok mixed envOk hc q243 Go.Proofs.Tryz.func243 rfl (by kernel_rfl) (by kernel_rfl) (by kernel_rfl) (by simp[u243]) hg
theorem w247(hc:zqco c){m:Nat}{a:List AV}(hg:runJ env c q247 u247 d247 (retA env Go.Proofs.Tryz.f247.results.toList k) m 0 (finit a) h):zqs 247 a h k:=fnI_ok mixed envOk hc q247 Go.Proofs.Tryz.func247 rfl (by kernel_rfl) (by kernel_rfl) (by kernel_rfl) (by simp[u247]) hg
theorem w253(hc:zqco c){m:Nat}{a:List AV}(hg:runJ env c q253 u253 d253 (retA env Go.Proofs.Tryz.f253.results.toList k) m 0 (finit a) h):zqs 253 a h k:=fnI_ok mixed envOk hc q253 Go.Proofs.Tryz.func253 rfl (by kernel_rfl) (by kernel_rfl) (by kernel_rfl) (by simp[u253]) hg
theorem w258(hc:zqco c){m:Nat}{a:List AV}(hg:runJ env c q258 u258 d258 (retA env Go.Proofs.Tryz.f258.results.toList k) m 0 (finit a) h):zqs 258 a h k:=fnI_ok mixed envOk hc q258 Go.Proofs.Tryz.func258 rfl (by kernel_rfl) (by kernel_rfl) (by kernel_rfl) (by simp[u258]) hg
theorem w263(hc:zqco c){m:Nat}{a:List AV}(hg:runJ env c q263 u263 d263 (retA env Go.Proofs.Tryz.f263.results.toList k) m 0 (finit a) h):zqs 263 a h k:=fnI_ok mixed envOk hc q263 Go.Proofs.Tryz.func263 rfl (by kernel_rfl) (by kernel_rfl) (by kernel_rfl) (by simp[u263]) hg
theorem w268(hc:zqco c){m:Nat}{a:List AV}(hg:runJ env c q268 u268 d268 (retA env Go.Proofs.Tryz.f268.results.toList k) m 0 (finit a) h):zqs 268 a h k:=fnI_ok mixed envOk hc q268 Go.Proofs.Tryz.func268 rfl (by kernel_rfl) (by kernel_rfl) (by kernel_rfl) (by simp[u268]) hg
theorem w272(hc:zqco c){m:Nat}{a:List AV}(hg:runJ env c q272 u272 d272 (retA env Go.Proofs.Tryz.f272.results.toList k) m 0 (finit a) h):zqs 272 a h k:=fnI_ok mixed envOk hc q272 Go.Proofs.Tryz.func272 rfl (by kernel_rfl) (by kernel_rfl) (by kernel_rfl) (by simp[u272]) hg
theorem w276(hc:zqco c){m:Nat}{a:List AV}(hg:runJ env c q276 u276 d276 (retA env Go.Proofs.Tryz.f276.results.toList k) m 0 (finit a) h):zqs 276 a h k:=fnI_ok mixed envOk hc q276 Go.Proofs.Tryz.func276 rfl (by kernel_rfl) (by kernel_rfl) (by kernel_rfl) (by simp[u276]) hg
theorem w285(hc:zqco c){m:Nat}{a:List AV}(hg:runJ env c q285 u285 d285 (retA env Go.Proofs.Tryz.f285.results.toList k) m 0 (finit a) h):zqs 285 a h k:=fnI_ok mixed envOk hc q285 Go.Proofs.Tryz.func285 rfl (by kernel_rfl) (by kernel_rfl) (by kernel_rfl) (by simp[u285]) hg
theorem w291(hc:zqco c){m:Nat}{a:List AV}(hg:runJ env c q291 u291 d291 (retA env Go.Proofs.Tryz.f291.results.toList k) m 0 (finit a) h):zqs 291 a h k:=fnI_ok mixed envOk hc q291 Go.Proofs.Tryz.func291 rfl (by kernel_rfl) (by kernel_rfl) (by kernel_rfl) (by simp[u291]) hg
theorem w295(hc:zqco c){m:Nat}{a:List AV}(hg:runJ env c q295 u295 d295 (retA env Go.Proofs.Tryz.f295.results.toList k) m 0 (finit a) h):zqs 295 a h k:=fnI_ok mixed envOk hc q295 Go.Proofs.Tryz.func295 rfl (by kernel_rfl) (by kernel_rfl) (by kernel_rfl) (by simp[u295]) hg
theorem w299(hc:zqco c){m:Nat}{a:List AV}(hg:runJ env c q299 u299 d299 (retA env Go.Proofs.Tryz.f299.results.toList k) m 0 (finit a) h):zqs 299 a h k:=fnI_ok mixed envOk hc q299 Go.Proofs.Tryz.func299 rfl (by kernel_rfl) (by kernel_rfl) (by kernel_rfl) (by simp[u299]) hg
theorem w305(hc:zqco c){m:Nat}{a:List AV}(hg:runJ env c q305 u305 d305 (retA env Go.Proofs.Tryz.f305.results.toList k) m 0 (finit a) h):zqs 305 a h k:=fnI_ok mixed envOk hc q305 Go.Proofs.Tryz.func305 rfl (by kernel_rfl) (by kernel_rfl) (by kernel_rfl) (by simp[u305]) hg
theorem w310(hc:zqco c){m:Nat}{a:List AV}(hg:runJ env c q310 u310 d310 (retA env Go.Proofs.Tryz.f310.results.toList k) m 0 (finit a) h):zqs 310 a h k:=fnI_ok mixed envOk hc q310 Go.Proofs.Tryz.func310 rfl (by kernel_rfl) (by kernel_rfl) (by kernel_rfl) (by simp[u310]) hg
theorem w323(hc:zqco c){m:Nat}{a:List AV}(hg:runJ env c q323 u323 d323 (retA env Go.Proofs.Tryz.f323.results.toList k) m 0 (finit a) h):zqs 323 a h k:=fnI_ok mixed envOk hc q323 Go.Proofs.Tryz.func323 rfl (by kernel_rfl) (by kernel_rfl) (by kernel_rfl) (by simp[u323]) hg
theorem w327(hc:zqco c){m:Nat}{a:List AV}(hg:runJ env c q327 u327 d327 (retA env Go.Proofs.Tryz.f327.results.toList k) m 0 (finit a) h):zqs 327 a h k:=fnI_ok mixed envOk hc q327 Go.Proofs.Tryz.func327 rfl (by kernel_rfl) (by kernel_rfl) (by kernel_rfl) (by simp[u327]) hg
theorem e329_0(J:J329)(n_1:Int):zqe c k q329 u329 (f329 J) d329 Go.Proofs.Tryz.f329 .root (fset f 1 (.int .u8 n_1)) h=s329_0 c k J (f 0) n_1 h:=by kernel_rfl
theorem w329(hc:zqco c){n:Nat}{a:List AV}(hg:f329 (r329 c k n) 0 (finit a) h):zqs 329 a h k:=
 zqw hc q329 Go.Proofs.Tryz.func329 rfl (by kernel_rfl) (by kernel_rfl) k u329 (fun n=>f329 (r329 c k n)) (fun L _ _ hl=>match L,hl with
  |0,hl=>zqnI hl fun _ hl=>hl
  |_+1,hl=>hl) (fun n=>⟨
  fun f h hl=>by
    refine zqrI 1 hl fun _ hl=>?_;exact Eq.mpr (e329_0 ..) hl,
  trivial⟩) rfl hg

theorem w332(hc:zqco c){m:Nat}{a:List AV}(hg:runJ env c q332 u332 d332 (retA env Go.Proofs.Tryz.f332.results.toList k) m 0 (finit a) h):zqs 332 a h k:=fnI_ok mixed envOk hc q332 Go.Proofs.Tryz.func332 rfl (by kernel_rfl) (by kernel_rfl) (by kernel_rfl) (by simp[u332]) hg
theorem w336(hc:zqco c){m:Nat}{a:List AV}(hg:runJ env c q336 u336 d336 (retA env Go.Proofs.Tryz.f336.results.toList k) m 0 (finit a) h):zqs 336 a h k:=fnI_ok mixed envOk hc q336 Go.Proofs.Tryz.func336 rfl (by kernel_rfl) (by kernel_rfl) (by kernel_rfl) (by simp[u336]) hg
theorem w343(hc:zqco c){m:Nat}{a:List AV}(hg:runJ env c q343 u343 d343 (retA env Go.Proofs.Tryz.f343.results.toList k) m 0 (finit a) h):zqs 343 a h k:=fnI_ok mixed envOk hc q343 Go.Proofs.Tryz.func343 rfl (by kernel_rfl) (by kernel_rfl) (by kernel_rfl) (by simp[u343]) hg
theorem w347(hc:zqco c){m:Nat}{a:List AV}(hg:runJ env c q347 u347 d347 (retA env Go.Proofs.Tryz.f347.results.toList k) m 0 (finit a) h):zqs 347 a h k:=fnI_ok mixed envOk hc q347 Go.Proofs.Tryz.func347 rfl (by kernel_rfl) (by kernel_rfl) (by kernel_rfl) (by simp[u347]) hg
theorem w351(hc:zqco c){m:Nat}{a:List AV}(hg:runJ env c q351 u351 d351 (retA env Go.Proofs.Tryz.f351.results.toList k) m 0 (finit a) h):zqs 351 a h k:=fnI_ok mixed envOk hc q351 Go.Proofs.Tryz.func351 rfl (by kernel_rfl) (by kernel_rfl) (by kernel_rfl) (by simp[u351]) hg
theorem w356(hc:zqco c){m:Nat}{a:List AV}(hg:runJ env c q356 u356 d356 (retA env Go.Proofs.Tryz.f356.results.toList k) m 0 (finit a) h):zqs 356 a h k:=fnI_ok mixed envOk hc q356 Go.Proofs.Tryz.func356 rfl (by kernel_rfl) (by kernel_rfl) (by kernel_rfl) (by simp[u356]) hg
theorem w361(hc:zqco c){m:Nat}{a:List AV}(hg:runJ env c q361 u361 d361 (retA env Go.Proofs.Tryz.f361.results.toList k) m 0 (finit a) h):zqs 361 a h k:=fnI_ok mixed envOk hc q361 Go.Proofs.Tryz.func361 rfl (by kernel_rfl) (by kernel_rfl) (by kernel_rfl) (by simp[u361]) hg
theorem w365(hc:zqco c){m:Nat}{a:List AV}(hg:runJ env c q365 u365 d365 (retA env Go.Proofs.Tryz.f365.results.toList k) m 0 (finit a) h):zqs 365 a h k:=fnI_ok mixed envOk hc q365 Go.Proofs.Tryz.func365 rfl (by kernel_rfl) (by kernel_rfl) (by kernel_rfl) (by simp[u365]) hg
end Go.Den
