/-
  A part of the proof: the pieces are what the program does.
-/
import Derived.Test.YtpjkiikmjddpiaaGreatDoorRunA1
import Derived.KernelRfl
namespace Go.Den
set_option maxRecDepth 100000
variable{c:Caller Prop FT}{k:KV}{f:FT}{h:H}
theorem e6_0(J:J6)(n_1:Int):zqe c k q6 u6 (f6 J) d6 Go.Proofs.Tryz.f6 .root (fset f 1 (.int .i64 n_1)) h=s6_0 c k J (f 0) n_1 h:=by kernel_rfl
theorem e6_1(J:J6)(n_5:Int):zqe c k q6 u6 (f6 J) d6 Go.Proofs.Tryz.f6 (.l (.r (.l (.r (.r .root))))) (fset f 5 (.int .i64 n_5)) h=s6_1 c k J (f 0) n_5 h:=by kernel_rfl
theorem w6(hc:zqco c){n:Nat}{a:List AV}(hg:f6 (r6 c k n) 0 (finit a) h):zqs 6 a h k:=
 zqw hc q6 Go.Proofs.Tryz.func6 rfl (by kernel_rfl) (by kernel_rfl) k u6 (fun n=>f6 (r6 c k n)) (fun L _ _ hl=>match L,hl with
  |0,hl=>zqnI hl fun _ hl=>hl
  |1,hl=>zqnI hl fun _ hl=>hl
  |_+2,hl=>hl) (fun n=>⟨
  fun f h hl=>by
    refine zqrI 1 hl fun _ hl=>?_;exact Eq.mpr (e6_0 ..) hl,
  fun f h hl=>by
    refine zqrI 5 hl fun _ hl=>?_;exact Eq.mpr (e6_1 ..) hl,
  trivial⟩) rfl hg

theorem e7_0(J:J7):zqe c k q7 u7 (f7 J) d7 Go.Proofs.Tryz.f7 .root f h=s7_0 c k J  h:=by kernel_rfl
theorem w7(hc:zqco c){n:Nat}{a:List AV}(hg:f7 (r7 c k n) 0 (finit a) h):zqs 7 a h k:=
 zqw hc q7 Go.Proofs.Tryz.func7 rfl (by kernel_rfl) (by kernel_rfl) k u7 (fun n=>f7 (r7 c k n)) (fun L _ _ hl=>match L,hl with
  |0,hl=>hl
  |_+1,hl=>hl) (fun n=>⟨
  fun f h hl=>Eq.mpr (e7_0 ..) hl,
  trivial⟩) rfl hg

theorem e10_0(J:J10):zqe c k q10 u10 (f10 J) d10 Go.Proofs.Tryz.f10 .root f h=s10_0 c k J (f 0) (f 1) h:=by kernel_rfl
theorem w10(hc:zqco c){n:Nat}{a:List AV}(hg:f10 (r10 c k n) 0 (finit a) h):zqs 10 a h k:=
 zqw hc q10 Go.Proofs.Tryz.func10 rfl (by kernel_rfl) (by kernel_rfl) k u10 (fun n=>f10 (r10 c k n)) (fun L _ _ hl=>match L,hl with
  |0,hl=>hl
  |_+1,hl=>hl) (fun n=>⟨
  fun f h hl=>Eq.mpr (e10_0 ..) hl,
  trivial⟩) rfl hg

theorem e18_0(J:J18)(n_1:Int):zqe c k q18 u18 (f18 J) d18 Go.Proofs.Tryz.f18 .root (fset f 1 (.int .i64 n_1)) h=s18_0 c k J (f 0) n_1 h:=by kernel_rfl
theorem e18_1(J:J18)(n_1:Int)(n_5:Int)(n_6:Int):zqe c k q18 u18 (f18 J) d18 Go.Proofs.Tryz.f18 (.l (.r (.l (.r (.r .root))))) (fset (fset (fset f 1 (.int .i64 n_1)) 5 (.int .i64 n_5)) 6 (.int .i64 n_6)) h=s18_1 c k J (f 0) n_1 n_5 n_6 h:=by kernel_rfl
theorem w18(hc:zqco c){n:Nat}{a:List AV}(hg:f18 (r18 c k n) 0 (finit a) h):zqs 18 a h k:=
 zqw hc q18 Go.Proofs.Tryz.func18 rfl (by kernel_rfl) (by kernel_rfl) k u18 (fun n=>f18 (r18 c k n)) (fun L _ _ hl=>match L,hl with
  |0,hl=>zqnI hl fun _ hl=>hl
  |1,hl=>zqnI hl fun _ hl=>zqnI hl fun _ hl=>zqnI hl fun _ hl=>hl
  |_+2,hl=>hl) (fun n=>⟨
  fun f h hl=>by
    refine zqrI 1 hl fun _ hl=>?_;exact Eq.mpr (e18_0 ..) hl,
  fun f h hl=>by
    refine zqrI 1 hl fun _ hl=>?_;refine zqrI 5 hl fun _ hl=>?_;refine zqrI 6 hl fun _ hl=>?_;exact Eq.mpr (e18_1 ..) hl,
  trivial⟩) rfl hg

theorem e25_0(J:J25):zqe c k q25 u25 (f25 J) d25 Go.Proofs.Tryz.f25 .root f h=s25_0 c k J (f 0) h:=by kernel_rfl
theorem w25(hc:zqco c){n:Nat}{a:List AV}(hg:f25 (r25 c k n) 0 (finit a) h):zqs 25 a h k:=
 zqw hc q25 Go.Proofs.Tryz.func25 rfl (by kernel_rfl) (by kernel_rfl) k u25 (fun n=>f25 (r25 c k n)) (fun L _ _ hl=>match L,hl with
  |0,hl=>hl
  |_+1,hl=>hl) (fun n=>⟨
  fun f h hl=>Eq.mpr (e25_0 ..) hl,
  trivial⟩) rfl hg

theorem w28(hc:zqco c){m:Nat}{a:List AV}(hg:runJ env c q28 u28 d28 (retA env Go.Proofs.Tryz.f28.results.toList k) m 0 (finit a) h):zqs 28 a h k:=fnI_ok mixed envOk hc q28 Go.Proofs.Tryz.func28 rfl (by kernel_rfl) (by kernel_rfl) (by kernel_rfl) (by simp[u28]) hg
theorem e36_0(J:J36)(l_0:Nat)(c_0:Nat):zqe c k q36 u36 (f36 J) d36 Go.Proofs.Tryz.f36 .root (fset f 0 (.str l_0 c_0)) h=s36_0 c k J l_0 c_0 h:=by kernel_rfl
theorem w36(hc:zqco c){n:Nat}{a:List AV}(hg:f36 (r36 c k n) 0 (finit a) h):zqs 36 a h k:=
 zqw hc q36 Go.Proofs.Tryz.func36 rfl (by kernel_rfl) (by kernel_rfl) k u36 (fun n=>f36 (r36 c k n)) (fun L _ _ hl=>match L,hl with
  |0,hl=>zqnS hl fun _ _ hl=>hl
  |_+1,hl=>hl) (fun n=>⟨
  fun f h hl=>by
    refine zqrS 0 hl fun _ _ hl=>?_;exact Eq.mpr (e36_0 ..) hl,
  trivial⟩) rfl hg

theorem e39_0(J:J39)(l_1:Nat)(c_1:Nat)(l_2:Nat)(c_2:Nat):zqe c k q39 u39 (f39 J) d39 Go.Proofs.Tryz.f39 .root (fset (fset f 1 (.str l_1 c_1)) 2 (.str l_2 c_2)) h=s39_0 c k J (f 0) l_1 c_1 l_2 c_2 h:=by kernel_rfl
theorem e39_1(J:J39)(l_1:Nat)(c_1:Nat)(l_2:Nat)(c_2:Nat)(n_6:Int):zqe c k q39 u39 (f39 J) d39 Go.Proofs.Tryz.f39 (.r (.r (.r .root))) (fset (fset (fset f 1 (.str l_1 c_1)) 2 (.str l_2 c_2)) 6 (.int .i64 n_6)) h=s39_1 c k J (f 0) l_1 c_1 l_2 c_2 n_6 (f 8) h:=by kernel_rfl
theorem w39(hc:zqco c){n:Nat}{a:List AV}(hg:f39 (r39 c k n) 0 (finit a) h):zqs 39 a h k:=
 zqw hc q39 Go.Proofs.Tryz.func39 rfl (by kernel_rfl) (by kernel_rfl) k u39 (fun n=>f39 (r39 c k n)) (fun L _ _ hl=>match L,hl with
  |0,hl=>zqnS hl fun _ _ hl=>zqnS hl fun _ _ hl=>hl
  |1,hl=>zqnS hl fun _ _ hl=>zqnS hl fun _ _ hl=>zqnI hl fun _ hl=>hl
  |_+2,hl=>hl) (fun n=>⟨
  fun f h hl=>by
    refine zqrS 1 hl fun _ _ hl=>?_;refine zqrS 2 hl fun _ _ hl=>?_;exact Eq.mpr (e39_0 ..) hl,
  fun f h hl=>by
    refine zqrS 1 hl fun _ _ hl=>?_;refine zqrS 2 hl fun _ _ hl=>?_;refine zqrI 6 hl fun _ hl=>?_;exact Eq.mpr (e39_1 ..) hl,
  trivial⟩) rfl hg

theorem w46(hc:zqco c){m:Nat}{a:List AV}(hg:runJ env c q46 u46 d46 (retA env Go.Proofs.Tryz.f46.results.toList k) m 0 (finit a) h):zqs 46 a h k:=fnI_ok mixed envOk hc q46 Go.Proofs.Tryz.func46 rfl (by kernel_rfl) (by kernel_rfl) (by kernel_rfl) (by simp[u46]) hg
theorem w50(hc:zqco c){m:Nat}{a:List AV}(hg:runJ env c q50 u50 d50 (retA env Go.Proofs.Tryz.f50.results.toList k) m 0 (finit a) h):zqs 50 a h k:=fnI_ok mixed envOk hc q50 Go.Proofs.Tryz.func50 rfl (by kernel_rfl) (by kernel_rfl) (by kernel_rfl) (by simp[u50]) hg
theorem e56_0(J:J56)(l_0:Nat)(c_0:Nat):zqe c k q56 u56 (f56 J) d56 Go.Proofs.Tryz.f56 .root (fset f 0 (.str l_0 c_0)) h=s56_0 c k J l_0 c_0 h:=by kernel_rfl
theorem e56_1(J:J56)(l_0:Nat)(c_0:Nat)(n_3:Int):zqe c k q56 u56 (f56 J) d56 Go.Proofs.Tryz.f56 (.l (.r (.l (.r .root)))) (fset (fset f 0 (.str l_0 c_0)) 3 (.int .i64 n_3)) h=s56_1 c k J l_0 c_0 n_3 h:=by kernel_rfl
theorem w56(hc:zqco c){n:Nat}{a:List AV}(hg:f56 (r56 c k n) 0 (finit a) h):zqs 56 a h k:=
 zqw hc q56 Go.Proofs.Tryz.func56 rfl (by kernel_rfl) (by kernel_rfl) k u56 (fun n=>f56 (r56 c k n)) (fun L _ _ hl=>match L,hl with
  |0,hl=>zqnS hl fun _ _ hl=>hl
  |1,hl=>zqnS hl fun _ _ hl=>zqnI hl fun _ hl=>hl
  |_+2,hl=>hl) (fun n=>⟨
  fun f h hl=>by
    refine zqrS 0 hl fun _ _ hl=>?_;exact Eq.mpr (e56_0 ..) hl,
  fun f h hl=>by
    refine zqrS 0 hl fun _ _ hl=>?_;refine zqrI 3 hl fun _ hl=>?_;exact Eq.mpr (e56_1 ..) hl,
  trivial⟩) rfl hg

theorem e60_0(J:J60):zqe c k q60 u60 (f60 J) d60 Go.Proofs.Tryz.f60 .root f h=s60_0 c k J (f 0) h:=by kernel_rfl
theorem w60(hc:zqco c){n:Nat}{a:List AV}(hg:f60 (r60 c k n) 0 (finit a) h):zqs 60 a h k:=
 zqw hc q60 Go.Proofs.Tryz.func60 rfl (by kernel_rfl) (by kernel_rfl) k u60 (fun n=>f60 (r60 c k n)) (fun L _ _ hl=>match L,hl with
  |0,hl=>hl
  |_+1,hl=>hl) (fun n=>⟨
  fun f h hl=>Eq.mpr (e60_0 ..) hl,
  trivial⟩) rfl hg

theorem e62_0(J:J62)(l_1:Nat)(c_1:Nat):zqe c k q62 u62 (f62 J) d62 Go.Proofs.Tryz.f62 .root (fset f 1 (.str l_1 c_1)) h=s62_0 c k J (f 0) l_1 c_1 h:=by kernel_rfl
theorem e62_1(J:J62)(l_1:Nat)(c_1:Nat):zqe c k q62 u62 (f62 J) d62 Go.Proofs.Tryz.f62 (.r .root) (fset f 1 (.str l_1 c_1)) h=s62_1 c k J (f 0) l_1 c_1 h:=by kernel_rfl
theorem w62(hc:zqco c){n:Nat}{a:List AV}(hg:f62 (r62 c k n) 0 (finit a) h):zqs 62 a h k:=
 zqw hc q62 Go.Proofs.Tryz.func62 rfl (by kernel_rfl) (by kernel_rfl) k u62 (fun n=>f62 (r62 c k n)) (fun L _ _ hl=>match L,hl with
  |0,hl=>zqnS hl fun _ _ hl=>hl
  |1,hl=>zqnS hl fun _ _ hl=>hl
  |_+2,hl=>hl) (fun n=>⟨
  fun f h hl=>by
    refine zqrS 1 hl fun _ _ hl=>?_;exact Eq.mpr (e62_0 ..) hl,
  fun f h hl=>by
    refine zqrS 1 hl fun _ _ hl=>?_;exact Eq.mpr (e62_1 ..) hl,
  trivial⟩) rfl hg

theorem e67_0(J:J67):zqe c k q67 u67 (f67 J) d67 Go.Proofs.Tryz.f67 .root f h=s67_0 c k J (f 0) (f 1) h:=by kernel_rfl
theorem w67(hc:zqco c){n:Nat}{a:List AV}(hg:f67 (r67 c k n) 0 (finit a) h):zqs 67 a h k:=
 zqw hc q67 Go.Proofs.Tryz.func67 rfl (by kernel_rfl) (by kernel_rfl) k u67 (fun n=>f67 (r67 c k n)) (fun L _ _ hl=>match L,hl with
  |0,hl=>hl
  |_+1,hl=>hl) (fun n=>⟨
  fun f h hl=>Eq.mpr (e67_0 ..) hl,
  trivial⟩) rfl hg

theorem e68_0(J:J68)(l_0:Nat)(c_0:Nat):zqe c k q68 u68 (f68 J) d68 Go.Proofs.Tryz.f68 .root (fset f 0 (.str l_0 c_0)) h=s68_0 c k J l_0 c_0 (f 1) h:=by kernel_rfl
theorem w68(hc:zqco c){n:Nat}{a:List AV}(hg:f68 (r68 c k n) 0 (finit a) h):zqs 68 a h k:=
 zqw hc q68 Go.Proofs.Tryz.func68 rfl (by kernel_rfl) (by kernel_rfl) k u68 (fun n=>f68 (r68 c k n)) (fun L _ _ hl=>match L,hl with
  |0,hl=>zqnS hl fun _ _ hl=>hl
  |_+1,hl=>hl) (fun n=>⟨
  fun f h hl=>by
    refine zqrS 0 hl fun _ _ hl=>?_;exact Eq.mpr (e68_0 ..) hl,
  trivial⟩) rfl hg

theorem w70(hc:zqco c){m:Nat}{a:List AV}(hg:runJ env c q70 u70 d70 (retA env Go.Proofs.Tryz.f70.results.toList k) m 0 (finit a) h):zqs 70 a h k:=fnI_ok mixed envOk hc q70 Go.Proofs.Tryz.func70 rfl (by kernel_rfl) (by kernel_rfl) (by kernel_rfl) (by simp[u70]) hg
theorem w74(hc:zqco c){m:Nat}{a:List AV}(hg:runJ env c q74 u74 d74 (retA env Go.Proofs.Tryz.f74.results.toList k) m 0 (finit a) h):zqs 74 a h k:=fnI_ok mixed envOk hc q74 Go.Proofs.Tryz.func74 rfl (by kernel_rfl) (by kernel_rfl) (by kernel_rfl) (by simp[u74]) hg
theorem w78(hc:zqco c){m:Nat}{a:List AV}(hg:runJ env c q78 u78 d78 (retA env Go.Proofs.Tryz.f78.results.toList k) m 0 (finit a) h):zqs 78 a h k:=fnI_ok mixed envOk hc q78 Go.Proofs.Tryz.func78 rfl (by kernel_rfl) (by kernel_rfl) (by kernel_rfl) (by simp[u78]) hg
theorem e81_0(J:J81)(l_0:Nat)(c_0:Nat)(l_1:Nat)(c_1:Nat)(n_2:Int):zqe c k q81 u81 (f81 J) d81 Go.Proofs.Tryz.f81 .root (fset (fset (fset f 0 (.str l_0 c_0)) 1 (.str l_1 c_1)) 2 (.int .i64 n_2)) h=s81_0 c k J l_0 c_0 l_1 c_1 n_2 h:=by kernel_rfl
theorem w81(hc:zqco c){n:Nat}{a:List AV}(hg:f81 (r81 c k n) 0 (finit a) h):zqs 81 a h k:=
 zqw hc q81 Go.Proofs.Tryz.func81 rfl (by kernel_rfl) (by kernel_rfl) k u81 (fun n=>f81 (r81 c k n)) (fun L _ _ hl=>match L,hl with
  |0,hl=>zqnS hl fun _ _ hl=>zqnS hl fun _ _ hl=>zqnI hl fun _ hl=>hl
  |_+1,hl=>hl) (fun n=>⟨
  fun f h hl=>by
    refine zqrS 0 hl fun _ _ hl=>?_;refine zqrS 1 hl fun _ _ hl=>?_;refine zqrI 2 hl fun _ hl=>?_;exact Eq.mpr (e81_0 ..) hl,
  trivial⟩) rfl hg

theorem e85_0(J:J85)(n_1:Int):zqe c k q85 u85 (f85 J) d85 Go.Proofs.Tryz.f85 .root (fset f 1 (.int .i64 n_1)) h=s85_0 c k J (f 0) n_1 h:=by kernel_rfl
theorem w85(hc:zqco c){n:Nat}{a:List AV}(hg:f85 (r85 c k n) 0 (finit a) h):zqs 85 a h k:=
 zqw hc q85 Go.Proofs.Tryz.func85 rfl (by kernel_rfl) (by kernel_rfl) k u85 (fun n=>f85 (r85 c k n)) (fun L _ _ hl=>match L,hl with
  |0,hl=>zqnI hl fun _ hl=>hl
  |_+1,hl=>hl) (fun n=>⟨
  fun f h hl=>by
    refine zqrI 1 hl fun _ hl=>?_;exact Eq.mpr (e85_0 ..) hl,
  trivial⟩) rfl hg

theorem w90(hc:zqco c){m:Nat}{a:List AV}(hg:runJ env c q90 u90 d90 (retA env Go.Proofs.Tryz.f90.results.toList k) m 0 (finit a) h):zqs 90 a h k:=fnI_ok mixed envOk hc q90 Go.Proofs.Tryz.func90 rfl (by kernel_rfl) (by kernel_rfl) (by kernel_rfl) (by simp[u90]) hg
theorem w94(hc:zqco c){m:Nat}{a:List AV}(hg:runJ env c q94 u94 d94 (retA env Go.Proofs.Tryz.f94.results.toList k) m 0 (finit a) h):zqs 94 a h k:=fnI_ok mixed envOk hc q94 Go.Proofs.Tryz.func94 rfl (by kernel_rfl) (by kernel_rfl) (by kernel_rfl) (by simp[u94]) hg
theorem w98(hc:zqco c){m:Nat}{a:List AV}(hg:runJ env c q98 u98 d98 (retA env Go.Proofs.Tryz.f98.results.toList k) m 0 (finit a) h):zqs 98 a h k:=fnI_ok mixed envOk hc q98 Go.Proofs.Tryz.func98 rfl (by kernel_rfl) (by kernel_rfl) (by kernel_rfl) (by simp[u98]) hg
theorem w104(hc:zqco c){m:Nat}{a:List AV}(hg:runJ env c q104 u104 d104 (retA env Go.Proofs.Tryz.f104.results.toList k) m 0 (finit a) h):zqs 104 a h k:=fnI_ok mixed envOk hc q104 Go.Proofs.Tryz.func104 rfl (by kernel_rfl) (by kernel_rfl) (by kernel_rfl) (by simp[u104]) hg
theorem e107_0(J:J107)(l_0:Nat)(c_0:Nat)(l_1:Nat)(c_1:Nat):zqe c k q107 u107 (f107 J) d107 Go.Proofs.Tryz.f107 .root (fset (fset f 0 (.str l_0 c_0)) 1 (.str l_1 c_1)) h=s107_0 c k J l_0 c_0 l_1 c_1 h:=by kernel_rfl
theorem w107(hc:zqco c){n:Nat}{a:List AV}(hg:f107 (r107 c k n) 0 (finit a) h):zqs 107 a h k:=
 zqw hc q107 Go.Proofs.Tryz.func107 rfl (by kernel_rfl) (by kernel_rfl) k u107 (fun n=>f107 (r107 c k n)) (fun L _ _ hl=>match L,hl with
  |0,hl=>zqnS hl fun _ _ hl=>zqnS hl fun _ _ hl=>hl
  |_+1,hl=>hl) (fun n=>⟨
  fun f h hl=>by
    refine zqrS 0 hl fun _ _ hl=>?_;refine zqrS 1 hl fun _ _ hl=>?_;exact Eq.mpr (e107_0 ..) hl,
  trivial⟩) rfl hg

theorem w115(hc:zqco c){m:Nat}{a:List AV}(hg:runJ env c q115 u115 d115 (retA env Go.Proofs.Tryz.f115.results.toList k) m 0 (finit a) h):zqs 115 a h k:=fnI_ok mixed envOk hc q115 Go.Proofs.Tryz.func115 rfl (by kernel_rfl) (by kernel_rfl) (by kernel_rfl) (by simp[u115]) hg
theorem w120(hc:zqco c){m:Nat}{a:List AV}(hg:runJ env c q120 u120 d120 (retA env Go.Proofs.Tryz.f120.results.toList k) m 0 (finit a) h):zqs 120 a h k:=fnI_ok mixed envOk hc q120 Go.Proofs.Tryz.func120 rfl (by kernel_rfl) (by kernel_rfl) (by kernel_rfl) (by simp[u120]) hg
theorem w124(hc:zqco c){m:Nat}{a:List AV}(hg:runJ env c q124 u124 d124 (retA env Go.Proofs.Tryz.f124.results.toList k) m 0 (finit a) h):zqs 124 a h k:=fnI_ok mixed envOk hc q124 Go.Proofs.Tryz.func124 rfl (by kernel_rfl) (by kernel_rfl) (by kernel_rfl) (by simp[u124]) hg
theorem w128(hc:zqco c){m:Nat}{a:List AV}(hg:runJ env c q128 u128 d128 (retA env Go.Proofs.Tryz.f128.results.toList k) m 0 (finit a) h):zqs 128 a h k:=fnI_ok mixed envOk hc q128 Go.Proofs.Tryz.func128 rfl (by kernel_rfl) (by kernel_rfl) (by kernel_rfl) (by simp[u128]) hg
theorem w132(hc:zqco c){m:Nat}{a:List AV}(hg:runJ env c q132 u132 d132 (retA env Go.Proofs.Tryz.f132.results.toList k) m 0 (finit a) h):zqs 132 a h k:=fnI_ok mixed envOk hc q132 Go.Proofs.Tryz.func132 rfl (by kernel_rfl) (by kernel_rfl) (by kernel_rfl) (by simp[u132]) hg
theorem w136(hc:zqco c){m:Nat}{a:List AV}(hg:runJ env c q136 u136 d136 (retA env Go.Proofs.Tryz.f136.results.toList k) m 0 (finit a) h):zqs 136 a h k:=fnI_ok mixed envOk hc q136 Go.Proofs.Tryz.func136 rfl (by kernel_rfl) (by kernel_rfl) (by kernel_rfl) (by simp[u136]) hg
theorem w140(hc:zqco c){m:Nat}{a:List AV}(hg:runJ env c q140 u140 d140 (retA env Go.Proofs.Tryz.f140.results.toList k) m 0 (finit a) h):zqs 140 a h k:=fnI_ok mixed envOk hc q140 Go.Proofs.Tryz.func140 rfl (by kernel_rfl) (by kernel_rfl) (by kernel_rfl) (by simp[u140]) hg
theorem w144(hc:zqco c){m:Nat}{a:List AV}(hg:runJ env c q144 u144 d144 (retA env Go.Proofs.Tryz.f144.results.toList k) m 0 (finit a) h):zqs 144 a h k:=fnI_ok mixed envOk hc q144 Go.Proofs.Tryz.func144 rfl (by kernel_rfl) (by kernel_rfl) (by kernel_rfl) (by simp[u144]) hg
theorem w148(hc:zqco c){m:Nat}{a:List AV}(hg:runJ env c q148 u148 d148 (retA env Go.Proofs.Tryz.f148.results.toList k) m 0 (finit a) h):zqs 148 a h k:=fnI_ok mixed envOk hc q148 Go.Proofs.Tryz.func148 rfl (by kernel_rfl) (by kernel_rfl) (by kernel_rfl) (by simp[u148]) hg
theorem w152(hc:zqco c){m:Nat}{a:List AV}(hg:runJ env c q152 u152 d152 (retA env Go.Proofs.Tryz.f152.results.toList k) m 0 (finit a) h):zqs 152 a h k:=fnI_ok mixed envOk hc q152 Go.Proofs.Tryz.func152 rfl (by kernel_rfl) (by kernel_rfl) (by kernel_rfl) (by simp[u152]) hg
theorem e153_0(J:J153)(l_0:Nat)(c_0:Nat)(l_1:Nat)(c_1:Nat):zqe c k q153 u153 (f153 J) d153 Go.Proofs.Tryz.f153 .root (fset (fset f 0 (.str l_0 c_0)) 1 (.str l_1 c_1)) h=s153_0 c k J l_0 c_0 l_1 c_1 h:=by kernel_rfl
theorem e153_1(J:J153)(l_0:Nat)(c_0:Nat)(l_1:Nat)(c_1:Nat)(n_5:Int)(n_6:Int)(n_7:Int)(n_8:Int)(n_9:Int)(n_10:Int):zqe c k q153 u153 (f153 J) d153 Go.Proofs.Tryz.f153 (.l (.l (.r (.r (.r (.r (.r (.r (.r (.r .root)))))))))) (fset (fset (fset (fset (fset (fset (fset (fset f 0 (.str l_0 c_0)) 1 (.str l_1 c_1)) 5 (.int .i64 n_5)) 6 (.int .u8 n_6)) 7 (.int .u8 n_7)) 8 (.int .i64 n_8)) 9 (.int .i64 n_9)) 10 (.int .i64 n_10)) h=s153_1 c k J l_0 c_0 l_1 c_1 n_5 n_6 n_7 n_8 n_9 n_10 h:=by kernel_rfl
theorem e153_2(J:J153)(l_0:Nat)(c_0:Nat)(l_1:Nat)(c_1:Nat)(n_5:Int)(n_6:Int)(n_7:Int)(n_8:Int)(n_9:Int)(n_10:Int):zqe c k q153 u153 (f153 J) d153 Go.Proofs.Tryz.f153 (.r (.l (.r (.l (.l (.l (.r (.r (.r (.r (.r (.r (.r (.r .root)))))))))))))) (fset (fset (fset (fset (fset (fset (fset (fset f 0 (.str l_0 c_0)) 1 (.str l_1 c_1)) 5 (.int .i64 n_5)) 6 (.int .u8 n_6)) 7 (.int .u8 n_7)) 8 (.int .i64 n_8)) 9 (.int .i64 n_9)) 10 (.int .i64 n_10)) h=s153_2 c k J l_0 c_0 l_1 c_1 n_5 n_6 n_7 n_8 n_9 n_10 h:=by kernel_rfl
theorem w153(hc:zqco c){n:Nat}{a:List AV}(hg:f153 (r153 c k n) 0 (finit a) h):zqs 153 a h k:=
 zqw hc q153 Go.Proofs.Tryz.func153 rfl (by kernel_rfl) (by kernel_rfl) k u153 (fun n=>f153 (r153 c k n)) (fun L _ _ hl=>match L,hl with
  |0,hl=>zqnS hl fun _ _ hl=>zqnS hl fun _ _ hl=>hl
  |1,hl=>zqnS hl fun _ _ hl=>zqnS hl fun _ _ hl=>zqnI hl fun _ hl=>zqnI hl fun _ hl=>zqnI hl fun _ hl=>zqnI hl fun _ hl=>zqnI hl fun _ hl=>zqnI hl fun _ hl=>hl
  |2,hl=>zqnS hl fun _ _ hl=>zqnS hl fun _ _ hl=>zqnI hl fun _ hl=>zqnI hl fun _ hl=>zqnI hl fun _ hl=>zqnI hl fun _ hl=>zqnI hl fun _ hl=>zqnI hl fun _ hl=>hl
  |_+3,hl=>hl) (fun n=>⟨
  fun f h hl=>by
    refine zqrS 0 hl fun _ _ hl=>?_;refine zqrS 1 hl fun _ _ hl=>?_;exact Eq.mpr (e153_0 ..) hl,
  fun f h hl=>by
    refine zqrS 0 hl fun _ _ hl=>?_;refine zqrS 1 hl fun _ _ hl=>?_;refine zqrI 5 hl fun _ hl=>?_;refine zqrI 6 hl fun _ hl=>?_;refine zqrI 7 hl fun _ hl=>?_;refine zqrI 8 hl fun _ hl=>?_;refine zqrI 9 hl fun _ hl=>?_;refine zqrI 10 hl fun _ hl=>?_;exact Eq.mpr (e153_1 ..) hl,
  fun f h hl=>by
    refine zqrS 0 hl fun _ _ hl=>?_;refine zqrS 1 hl fun _ _ hl=>?_;refine zqrI 5 hl fun _ hl=>?_;refine zqrI 6 hl fun _ hl=>?_;refine zqrI 7 hl fun _ hl=>?_;refine zqrI 8 hl fun _ hl=>?_;refine zqrI 9 hl fun _ hl=>?_;refine zqrI 10 hl fun _ hl=>?_;exact Eq.mpr (e153_2 ..) hl,
  trivial⟩) rfl hg

theorem w159(hc:zqco c){m:Nat}{a:List AV}(hg:runJ env c q159 u159 d159 (retA env Go.Proofs.Tryz.f159.results.toList k) m 0 (finit a) h):zqs 159 a h k:=fnI_ok mixed envOk hc q159 Go.Proofs.Tryz.func159 rfl (by kernel_rfl) (by kernel_rfl) (by kernel_rfl) (by simp[u159]) hg
theorem w163(hc:zqco c){m:Nat}{a:List AV}(hg:runJ env c q163 u163 d163 (retA env Go.Proofs.Tryz.f163.results.toList k) m 0 (finit a) h):zqs 163 a h k:=fnI_ok mixed envOk hc q163 Go.Proofs.Tryz.func163 rfl (by kernel_rfl) (by kernel_rfl) (by kernel_rfl) (by simp[u163]) hg
theorem w167(hc:zqco c){m:Nat}{a:List AV}(hg:runJ env c q167 u167 d167 (retA env Go.Proofs.Tryz.f167.results.toList k) m 0 (finit a) h):zqs 167 a h k:=fnI_ok mixed envOk hc q167 Go.Proofs.Tryz.func167 rfl (by kernel_rfl) (by kernel_rfl) (by kernel_rfl) (by simp[u167]) hg
theorem w172(hc:zqco c){m:Nat}{a:List AV}(hg:runJ env c q172 u172 d172 (retA env Go.Proofs.Tryz.f172.results.toList k) m 0 (finit a) h):zqs 172 a h k:=fnI_ok mixed envOk hc q172 Go.Proofs.Tryz.func172 rfl (by kernel_rfl) (by kernel_rfl) (by kernel_rfl) (by simp[u172]) hg
theorem w176(hc:zqco c){m:Nat}{a:List AV}(hg:runJ env c q176 u176 d176 (retA env Go.Proofs.Tryz.f176.results.toList k) m 0 (finit a) h):zqs 176 a h k:=fnI_ok mixed envOk hc q176 Go.Proofs.Tryz.func176 rfl (by kernel_rfl) (by kernel_rfl) (by kernel_rfl) (by simp[u176]) hg
theorem w180(hc:zqco c){m:Nat}{a:List AV}(hg:runJ env c q180 u180 d180 (retA env Go.Proofs.Tryz.f180.results.toList k) m 0 (finit a) h):zqs 180 a h k:=fnI_ok mixed envOk hc q180 Go.Proofs.Tryz.func180 rfl (by kernel_rfl) (by kernel_rfl) (by kernel_rfl) (by simp[u180]) hg
theorem w185(hc:zqco c){m:Nat}{a:List AV}(hg:runJ env c q185 u185 d185 (retA env Go.Proofs.Tryz.f185.results.toList k) m 0 (finit a) h):zqs 185 a h k:=fnI_ok mixed envOk hc q185 Go.Proofs.Tryz.func185 rfl (by kernel_rfl) (by kernel_rfl) (by kernel_rfl) (by simp[u185]) hg
theorem w189(hc:zqco c){m:Nat}{a:List AV}(hg:runJ env c q189 u189 d189 (retA env Go.Proofs.Tryz.f189.results.toList k) m 0 (finit a) h):zqs 189 a h k:=fnI_ok mixed envOk hc q189 Go.Proofs.Tryz.func189 rfl (by kernel_rfl) (by kernel_rfl) (by kernel_rfl) (by simp[u189]) hg
theorem w193(hc:zqco c){m:Nat}{a:List AV}(hg:runJ env c q193 u193 d193 (retA env Go.Proofs.Tryz.f193.results.toList k) m 0 (finit a) h):zqs 193 a h k:=fnI_ok mixed envOk hc q193 Go.Proofs.Tryz.func193 rfl (by kernel_rfl) (by kernel_rfl) (by kernel_rfl) (by simp[u193]) hg
theorem e196_0(J:J196)(l_0:Nat)(c_0:Nat)(n_1:Int):zqe c k q196 u196 (f196 J) d196 Go.Proofs.Tryz.f196 .root (fset (fset f 0 (.str l_0 c_0)) 1 (.int .u8 n_1)) h=s196_0 c k J l_0 c_0 n_1 h:=by kernel_rfl
theorem w196(hc:zqco c){n:Nat}{a:List AV}(hg:f196 (r196 c k n) 0 (finit a) h):zqs 196 a h k:=
 zqw hc q196 Go.Proofs.Tryz.func196 rfl (by kernel_rfl) (by kernel_rfl) k u196 (fun n=>f196 (r196 c k n)) (fun L _ _ hl=>match L,hl with
  |0,hl=>zqnS hl fun _ _ hl=>zqnI hl fun _ hl=>hl
  |_+1,hl=>hl) (fun n=>⟨
  fun f h hl=>by
    refine zqrS 0 hl fun _ _ hl=>?_;refine zqrI 1 hl fun _ hl=>?_;exact Eq.mpr (e196_0 ..) hl,
  trivial⟩) rfl hg

theorem w199(hc:zqco c){m:Nat}{a:List AV}(hg:runJ env c q199 u199 d199 (retA env Go.Proofs.Tryz.f199.results.toList k) m 0 (finit a) h):zqs 199 a h k:=fnI_ok mixed envOk hc q199 Go.Proofs.Tryz.func199 rfl (by kernel_rfl) (by kernel_rfl) (by kernel_rfl) (by simp[u199]) hg
theorem w204(hc:zqco c){m:Nat}{a:List AV}(hg:runJ env c q204 u204 d204 (retA env Go.Proofs.Tryz.f204.results.toList k) m 0 (finit a) h):zqs 204 a h k:=fnI_ok mixed envOk hc q204 Go.Proofs.Tryz.func204 rfl (by kernel_rfl) (by kernel_rfl) (by kernel_rfl) (by simp[u204]) hg
theorem w208(hc:zqco c){m:Nat}{a:List AV}(hg:runJ env c q208 u208 d208 (retA env Go.Proofs.Tryz.f208.results.toList k) m 0 (finit a) h):zqs 208 a h k:=fnI_ok mixed envOk hc q208 Go.Proofs.Tryz.func208 rfl (by kernel_rfl) (by kernel_rfl) (by kernel_rfl) (by simp[u208]) hg
theorem w212(hc:zqco c){m:Nat}{a:List AV}(hg:runJ env c q212 u212 d212 (retA env Go.Proofs.Tryz.f212.results.toList k) m 0 (finit a) h):zqs 212 a h k:=fnI_ok mixed envOk hc q212 Go.Proofs.Tryz.func212 rfl (by kernel_rfl) (by kernel_rfl) (by kernel_rfl) (by simp[u212]) hg
theorem w216(hc:zqco c){m:Nat}{a:List AV}(hg:runJ env c q216 u216 d216 (retA env Go.Proofs.Tryz.f216.results.toList k) m 0 (finit a) h):zqs 216 a h k:=fnI_ok mixed envOk hc q216 Go.Proofs.Tryz.func216 rfl (by kernel_rfl) (by kernel_rfl) (by kernel_rfl) (by simp[u216]) hg
theorem w220(hc:zqco c){m:Nat}{a:List AV}(hg:runJ env c q220 u220 d220 (retA env Go.Proofs.Tryz.f220.results.toList k) m 0 (finit a) h):zqs 220 a h k:=fnI_ok mixed envOk hc q220 Go.Proofs.Tryz.func220 rfl (by kernel_rfl) (by kernel_rfl) (by kernel_rfl) (by simp[u220]) hg
theorem w224(hc:zqco c){m:Nat}{a:List AV}(hg:runJ env c q224 u224 d224 (retA env Go.Proofs.Tryz.f224.results.toList k) m 0 (finit a) h):zqs 224 a h k:=fnI_ok mixed envOk hc q224 Go.Proofs.Tryz.func224 rfl (by kernel_rfl) (by kernel_rfl) (by kernel_rfl) (by simp[u224]) hg
theorem w229(hc:zqco c){m:Nat}{a:List AV}(hg:runJ env c q229 u229 d229 (retA env Go.Proofs.Tryz.f229.results.toList k) m 0 (finit a) h):zqs 229 a h k:=fnI_ok mixed envOk hc q229 Go.Proofs.Tryz.func229 rfl (by kernel_rfl) (by kernel_rfl) (by kernel_rfl) (by simp[u229]) hg
theorem w236(hc:zqco c){m:Nat}{a:List AV}(hg:runJ env c q236 u236 d236 (retA env Go.Proofs.Tryz.f236.results.toList k) m 0 (finit a) h):zqs 236 a h k:=fnI_ok mixed envOk hc q236 Go.Proofs.Tryz.func236 rfl (by kernel_rfl) (by kernel_rfl) (by kernel_rfl) (by simp[u236]) hg
theorem w240(hc:zqco c){m:Nat}{a:List AV}(hg:runJ env c q240 u240 d240 (retA env Go.Proofs.Tryz.f240.results.toList k) m 0 (finit a) h):zqs 240 a h k:=fnI_ok mixed envOk hc q240 Go.Proofs.Tryz.func240 rfl (by kernel_rfl) (by kernel_rfl) (by kernel_rfl) (by simp[u240]) hg
theorem w244(hc:zqco c){m:Nat}{a:List AV}(hg:runJ env c q244 u244 d244 (retA env Go.Proofs.Tryz.f244.results.toList k) m 0 (finit a) h):zqs 244 a h k:=fnI_ok mixed envOk hc q244 Go.Proofs.Tryz.func244 rfl (by kernel_rfl) (by kernel_rfl) (by kernel_rfl) (by simp[u244]) hg
theorem w250(hc:zqco c){m:Nat}{a:List AV}(hg:runJ env c q250 u250 d250 (retA env Go.Proofs.Tryz.f250.results.toList k) m 0 (finit a) h):zqs 250 a h k:=fnI_ok mixed envOk hc q250 Go.Proofs.Tryz.func250 rfl (by kernel_rfl) (by kernel_rfl) (by kernel_rfl) (by simp[u250]) hg
theorem w255(hc:zqco c){m:Nat}{a:List AV}(hg:runJ env c q255 u255 d255 (retA env Go.Proofs.Tryz.f255.results.toList k) m 0 (finit a) h):zqs 255 a h k:=fnI_ok mixed envOk hc q255 Go.Proofs.Tryz.func255 rfl (by kernel_rfl) (by kernel_rfl) (by kernel_rfl) (by simp[u255]) hg
theorem w260(hc:zqco c){m:Nat}{a:List AV}(hg:runJ env c q260 u260 d260 (retA env Go.Proofs.Tryz.f260.results.toList k) m 0 (finit a) h):zqs 260 a h k:=fnI_ok mixed envOk hc q260 Go.Proofs.Tryz.func260 rfl (by kernel_rfl) (by kernel_rfl) (by kernel_rfl) (by simp[u260]) hg
theorem w264(hc:zqco c){m:Nat}{a:List AV}(hg:runJ env c q264 u264 d264 (retA env Go.Proofs.Tryz.f264.results.toList k) m 0 (finit a) h):zqs 264 a h k:=fnI_ok mixed envOk hc q264 Go.Proofs.Tryz.func264 rfl (by kernel_rfl) (by kernel_rfl) (by kernel_rfl) (by simp[u264]) hg
theorem w269(hc:zqco c){m:Nat}{a:List AV}(hg:runJ env c q269 u269 d269 (retA env Go.Proofs.Tryz.f269.results.toList k) m 0 (finit a) h):zqs 269 a h k:=fnI_ok mixed envOk hc q269 Go.Proofs.Tryz.func269 rfl (by kernel_rfl) (by kernel_rfl) (by kernel_rfl) (by simp[u269]) hg
theorem w273(hc:zqco c){m:Nat}{a:List AV}(hg:runJ env c q273 u273 d273 (retA env Go.Proofs.Tryz.f273.results.toList k) m 0 (finit a) h):zqs 273 a h k:=fnI_ok mixed envOk hc q273 Go.Proofs.Tryz.func273 rfl (by kernel_rfl) (by kernel_rfl) (by kernel_rfl) (by simp[u273]) hg
theorem w277(hc:zqco c){m:Nat}{a:List AV}(hg:runJ env c q277 u277 d277 (retA env Go.Proofs.Tryz.f277.results.toList k) m 0 (finit a) h):zqs 277 a h k:=fnI_ok mixed envOk hc q277 Go.Proofs.Tryz.func277 rfl (by kernel_rfl) (by kernel_rfl) (by kernel_rfl) (by simp[u277]) hg
theorem w288(hc:zqco c){m:Nat}{a:List AV}(hg:runJ env c q288 u288 d288 (retA env Go.Proofs.Tryz.f288.results.toList k) m 0 (finit a) h):zqs 288 a h k:=fnI_ok mixed envOk hc q288 Go.Proofs.Tryz.func288 rfl (by kernel_rfl) (by kernel_rfl) (by kernel_rfl) (by simp[u288]) hg
theorem w292(hc:zqco c){m:Nat}{a:List AV}(hg:runJ env c q292 u292 d292 (retA env Go.Proofs.Tryz.f292.results.toList k) m 0 (finit a) h):zqs 292 a h k:=fnI_ok mixed envOk hc q292 Go.Proofs.Tryz.func292 rfl (by kernel_rfl) (by kernel_rfl) (by kernel_rfl) (by simp[u292]) hg
theorem w296(hc:zqco c){m:Nat}{a:List AV}(hg:runJ env c q296 u296 d296 (retA env Go.Proofs.Tryz.f296.results.toList k) m 0 (finit a) h):zqs 296 a h k:=fnI_ok mixed envOk hc q296 Go.Proofs.Tryz.func296 rfl (by kernel_rfl) (by kernel_rfl) (by kernel_rfl) (by simp[u296]) hg
theorem w300(hc:zqco c){m:Nat}{a:List AV}(hg:runJ env c q300 u300 d300 (retA env Go.Proofs.Tryz.f300.results.toList k) m 0 (finit a) h):zqs 300 a h k:=fnI_ok mixed envOk hc q300 Go.Proofs.Tryz.func300 rfl (by kernel_rfl) (by kernel_rfl) (by kernel_rfl) (by simp[u300]) hg
theorem e301_0(J:J301)(l_0:Nat)(c_0:Nat):zqe c k q301 u301 (f301 J) d301 Go.Proofs.Tryz.f301 .root (fset f 0 (.str l_0 c_0)) h=s301_0 c k J l_0 c_0 (f 1) h:=by kernel_rfl
theorem e301_1(J:J301)(l_0:Nat)(c_0:Nat):zqe c k q301 u301 (f301 J) d301 Go.Proofs.Tryz.f301 (.l (.l (.r .root))) (fset f 0 (.str l_0 c_0)) h=s301_1 c k J l_0 c_0 (f 1) h:=by kernel_rfl
theorem w301(hc:zqco c){n:Nat}{a:List AV}(hg:f301 (r301 c k n) 0 (finit a) h):zqs 301 a h k:=
 zqw hc q301 Go.Proofs.Tryz.func301 rfl (by kernel_rfl) (by kernel_rfl) k u301 (fun n=>f301 (r301 c k n)) (fun L _ _ hl=>match L,hl with
  |0,hl=>zqnS hl fun _ _ hl=>hl
  |1,hl=>zqnS hl fun _ _ hl=>hl
  |_+2,hl=>hl) (fun n=>⟨
  fun f h hl=>by
    refine zqrS 0 hl fun _ _ hl=>?_;exact Eq.mpr (e301_0 ..) hl,
  fun f h hl=>by
    refine zqrS 0 hl fun _ _ hl=>?_;exact Eq.mpr (e301_1 ..) hl,
  trivial⟩) rfl hg

theorem w306(hc:zqco c){m:Nat}{a:List AV}(hg:runJ env c q306 u306 d306 (retA env Go.Proofs.Tryz.f306.results.toList k) m 0 (finit a) h):zqs 306 a h k:=fnI_ok mixed envOk hc q306 Go.Proofs.Tryz.func306 rfl (by kernel_rfl) (by kernel_rfl) (by kernel_rfl) (by simp[u306]) hg
theorem w311(hc:zqco c){m:Nat}{a:List AV}(hg:runJ env c q311 u311 d311 (retA env Go.Proofs.Tryz.f311.results.toList k) m 0 (finit a) h):zqs 311 a h k:=fnI_ok mixed envOk hc q311 Go.Proofs.Tryz.func311 rfl (by kernel_rfl) (by kernel_rfl) (by kernel_rfl) (by simp[u311]) hg
theorem w324(hc:zqco c){m:Nat}{a:List AV}(hg:runJ env c q324 u324 d324 (retA env Go.Proofs.Tryz.f324.results.toList k) m 0 (finit a) h):zqs 324 a h k:=fnI_ok mixed envOk hc q324 Go.Proofs.Tryz.func324 rfl (by kernel_rfl) (by kernel_rfl) (by kernel_rfl) (by simp[u324]) hg
theorem w328(hc:zqco c){m:Nat}{a:List AV}(hg:runJ env c q328 u328 d328 (retA env Go.Proofs.Tryz.f328.results.toList k) m 0 (finit a) h):zqs 328 a h k:=fnI_ok mixed envOk hc q328 Go.Proofs.Tryz.func328 rfl (by kernel_rfl) (by kernel_rfl) (by kernel_rfl) (by simp[u328]) hg
theorem w333(hc:zqco c){m:Nat}{a:List AV}(hg:runJ env c q333 u333 d333 (retA env Go.Proofs.Tryz.f333.results.toList k) m 0 (finit a) h):zqs 333 a h k:=fnI_ok mixed envOk hc q333 Go.Proofs.Tryz.func333 rfl (by kernel_rfl) (by kernel_rfl) (by kernel_rfl) (by simp[u333]) hg
theorem e337_0(J:J337)(l_0:Nat)(c_0:Nat)(l_1:Nat)(c_1:Nat):zqe c k q337 u337 (f337 J) d337 Go.Proofs.Tryz.f337 .root (fset (fset f 0 (.str l_0 c_0)) 1 (.str l_1 c_1)) h=s337_0 c k J l_0 c_0 l_1 c_1 h:=by kernel_rfl
theorem w337(hc:zqco c){n:Nat}{a:List AV}(hg:f337 (r337 c k n) 0 (finit a) h):zqs 337 a h k:=
 zqw hc q337 Go.Proofs.Tryz.func337 rfl (by kernel_rfl) (by kernel_rfl) k u337 (fun n=>f337 (r337 c k n)) (fun L _ _ hl=>match L,hl with
  |0,hl=>zqnS hl fun _ _ hl=>zqnS hl fun _ _ hl=>hl
  |_+1,hl=>hl) (fun n=>⟨
  fun f h hl=>by
    refine zqrS 0 hl fun _ _ hl=>?_;refine zqrS 1 hl fun _ _ hl=>?_;exact Eq.mpr (e337_0 ..) hl,
  trivial⟩) rfl hg

theorem w338(hc:zqco c){m:Nat}{a:List AV}(hg:runJ env c q338 u338 d338 (retA env Go.Proofs.Tryz.f338.results.toList k) m 0 (finit a) h):zqs 338 a h k:=fnI_ok mixed envOk hc q338 Go.Proofs.Tryz.func338 rfl (by kernel_rfl) (by kernel_rfl) (by kernel_rfl) (by simp[u338]) hg
theorem w344(hc:zqco c){m:Nat}{a:List AV}(hg:runJ env c q344 u344 d344 (retA env Go.Proofs.Tryz.f344.results.toList k) m 0 (finit a) h):zqs 344 a h k:=fnI_ok mixed envOk hc q344 Go.Proofs.Tryz.func344 rfl (by kernel_rfl) (by kernel_rfl) (by kernel_rfl) (by simp[u344]) hg
theorem w348(hc:zqco c){m:Nat}{a:List AV}(hg:runJ env c q348 u348 d348 (retA env Go.Proofs.Tryz.f348.results.toList k) m 0 (finit a) h):zqs 348 a h k:=fnI_ok mixed envOk hc q348 Go.Proofs.Tryz.func348 rfl (by kernel_rfl) (by kernel_rfl) (by kernel_rfl) (by simp[u348]) hg
theorem w352(hc:zqco c){m:Nat}{a:List AV}(hg:runJ env c q352 u352 d352 (retA env Go.Proofs.Tryz.f352.results.toList k) m 0 (finit a) h):zqs 352 a h k:=fnI_ok mixed envOk hc q352 Go.Proofs.Tryz.func352 rfl (by kernel_rfl) (by kernel_rfl) (by kernel_rfl) (by simp[u352]) hg
theorem w357(hc:zqco c){m:Nat}{a:List AV}(hg:runJ env c q357 u357 d357 (retA env Go.Proofs.Tryz.f357.results.toList k) m 0 (finit a) h):zqs 357 a h k:=fnI_ok mixed envOk hc q357 Go.Proofs.Tryz.func357 rfl (by kernel_rfl) (by kernel_rfl) (by kernel_rfl) (by simp[u357]) hg
theorem w362(hc:zqco c){m:Nat}{a:List AV}(hg:runJ env c q362 u362 d362 (retA env Go.Proofs.Tryz.f362.results.toList k) m 0 (finit a) h):zqs 362 a h k:=fnI_ok mixed envOk hc q362 Go.Proofs.Tryz.func362 rfl (by kernel_rfl) (by kernel_rfl) (by kernel_rfl) (by simp[u362]) hg
theorem w366(hc:zqco c){m:Nat}{a:List AV}(hg:runJ env c q366 u366 d366 (retA env Go.Proofs.Tryz.f366.results.toList k) m 0 (finit a) h):zqs 366 a h k:=fnI_ok mixed envOk hc q366 Go.Proofs.Tryz.func366 rfl (by kernel_rfl) (by kernel_rfl) (by kernel_rfl) (by simp[u366]) hg
end Go.Den
