/-
  A part of the proof: the pieces are what the program does.
-/
import Derived.Test.YtpjkiikmjddpiaaGreatDoorRunA1
import Derived.KernelRfl
namespace Go.Den
set_option maxRecDepth 100000
variable{c:Caller Prop FT}{k:KV}{f:FT}{h:H}
theorem e13_0(J:J13):zqe c k q13 u13 (f13 J) d13 Go.Proofs.Tryz.f13 .root f h=s13_0 c k J (f 0) h:=by kernel_rfl
theorem w13(hc:zqco c){n:Nat}{a:List AV}(hg:f13 (r13 c k n) 0 (finit a) h):zqs 13 a h k:=
 zqw hc q13 Go.Proofs.Tryz.func13 rfl (by kernel_rfl) (by kernel_rfl) k u13 (fun n=>f13 (r13 c k n)) (fun L _ _ hl=>match L,hl with
  |0,hl=>hl
  |_+1,hl=>hl) (fun n=>⟨
  fun f h hl=>Eq.mpr (e13_0 ..) hl,
  trivial⟩) rfl hg

theorem w16(hc:zqco c){m:Nat}{a:List AV}(hg:runJ env c q16 u16 d16 (retA env Go.Proofs.Tryz.f16.results.toList k) m 0 (finit a) h):zqs 16 a h k:=fnI_ok mixed envOk hc q16 Go.Proofs.Tryz.func16 rfl (by kernel_rfl) (by kernel_rfl) (by kernel_rfl) (by simp[u16]) hg
theorem e17_0(J:J17)(l_0:Nat)(c_0:Nat)(n_1:Int)(n_2:Int):zqe c k q17 u17 (f17 J) d17 Go.Proofs.Tryz.f17 .root (fset (fset (fset f 0 (.str l_0 c_0)) 1 (.int .i64 n_1)) 2 (.int .i64 n_2)) h=s17_0 c k J l_0 c_0 n_1 n_2 h:=by kernel_rfl
theorem e17_1(J:J17)(n_1:Int)(n_2:Int)(n_9:Int):zqe c k q17 u17 (f17 J) d17 Go.Proofs.Tryz.f17 (.l (.r (.l (.r (.r (.r .root)))))) (fset (fset (fset f 1 (.int .i64 n_1)) 2 (.int .i64 n_2)) 9 (.int .i64 n_9)) h=s17_1 c k J n_1 n_2 (f 7) (f 8) n_9 h:=by kernel_rfl
theorem e17_2(J:J17)(n_1:Int)(n_2:Int)(n_9:Int):zqe c k q17 u17 (f17 J) d17 Go.Proofs.Tryz.f17 (.r (.r (.l (.l (.r (.l (.r (.r (.r .root))))))))) (fset (fset (fset f 1 (.int .i64 n_1)) 2 (.int .i64 n_2)) 9 (.int .i64 n_9)) h=s17_2 c k J n_1 n_2 (f 7) (f 8) n_9 h:=by kernel_rfl
theorem w17(hc:zqco c){n:Nat}{a:List AV}(hg:f17 (r17 c k n) 0 (finit a) h):zqs 17 a h k:=
 zqw hc q17 Go.Proofs.Tryz.func17 rfl (by kernel_rfl) (by kernel_rfl) k u17 (fun n=>f17 (r17 c k n)) (fun L _ _ hl=>match L,hl with
  |0,hl=>zqnS hl fun _ _ hl=>zqnI hl fun _ hl=>zqnI hl fun _ hl=>hl
  |1,hl=>zqnI hl fun _ hl=>zqnI hl fun _ hl=>zqnI hl fun _ hl=>hl
  |2,hl=>zqnI hl fun _ hl=>zqnI hl fun _ hl=>zqnI hl fun _ hl=>hl
  |_+3,hl=>hl) (fun n=>⟨
  fun f h hl=>by
    refine zqrS 0 hl fun _ _ hl=>?_;refine zqrI 1 hl fun _ hl=>?_;refine zqrI 2 hl fun _ hl=>?_;exact Eq.mpr (e17_0 ..) hl,
  fun f h hl=>by
    refine zqrI 1 hl fun _ hl=>?_;refine zqrI 2 hl fun _ hl=>?_;refine zqrI 9 hl fun _ hl=>?_;exact Eq.mpr (e17_1 ..) hl,
  fun f h hl=>by
    refine zqrI 1 hl fun _ hl=>?_;refine zqrI 2 hl fun _ hl=>?_;refine zqrI 9 hl fun _ hl=>?_;exact Eq.mpr (e17_2 ..) hl,
  trivial⟩) rfl hg

theorem e19_0(J:J19):zqe c k q19 u19 (f19 J) d19 Go.Proofs.Tryz.f19 .root f h=s19_0 c k J (f 0) h:=by kernel_rfl
theorem e19_1(J:J19)(n_3:Int):zqe c k q19 u19 (f19 J) d19 Go.Proofs.Tryz.f19 (.l (.r (.l (.r (.r .root))))) (fset f 3 (.int .i64 n_3)) h=s19_1 c k J (f 0) n_3 h:=by kernel_rfl
theorem w19(hc:zqco c){n:Nat}{a:List AV}(hg:f19 (r19 c k n) 0 (finit a) h):zqs 19 a h k:=
 zqw hc q19 Go.Proofs.Tryz.func19 rfl (by kernel_rfl) (by kernel_rfl) k u19 (fun n=>f19 (r19 c k n)) (fun L _ _ hl=>match L,hl with
  |0,hl=>hl
  |1,hl=>zqnI hl fun _ hl=>hl
  |_+2,hl=>hl) (fun n=>⟨
  fun f h hl=>Eq.mpr (e19_0 ..) hl,
  fun f h hl=>by
    refine zqrI 3 hl fun _ hl=>?_;exact Eq.mpr (e19_1 ..) hl,
  trivial⟩) rfl hg

theorem e23_0(J:J23):zqe c k q23 u23 (f23 J) d23 Go.Proofs.Tryz.f23 .root f h=s23_0 c k J (f 0) (f 1) h:=by kernel_rfl
theorem w23(hc:zqco c){n:Nat}{a:List AV}(hg:f23 (r23 c k n) 0 (finit a) h):zqs 23 a h k:=
 zqw hc q23 Go.Proofs.Tryz.func23 rfl (by kernel_rfl) (by kernel_rfl) k u23 (fun n=>f23 (r23 c k n)) (fun L _ _ hl=>match L,hl with
  |0,hl=>hl
  |_+1,hl=>hl) (fun n=>⟨
  fun f h hl=>Eq.mpr (e23_0 ..) hl,
  trivial⟩) rfl hg

theorem e24_0(J:J24)(l_1:Nat)(c_1:Nat):zqe c k q24 u24 (f24 J) d24 Go.Proofs.Tryz.f24 .root (fset f 1 (.str l_1 c_1)) h=s24_0 c k J (f 0) l_1 c_1 h:=by kernel_rfl
theorem w24(hc:zqco c){n:Nat}{a:List AV}(hg:f24 (r24 c k n) 0 (finit a) h):zqs 24 a h k:=
 zqw hc q24 Go.Proofs.Tryz.func24 rfl (by kernel_rfl) (by kernel_rfl) k u24 (fun n=>f24 (r24 c k n)) (fun L _ _ hl=>match L,hl with
  |0,hl=>zqnS hl fun _ _ hl=>hl
  |_+1,hl=>hl) (fun n=>⟨
  fun f h hl=>by
    refine zqrS 1 hl fun _ _ hl=>?_;exact Eq.mpr (e24_0 ..) hl,
  trivial⟩) rfl hg

theorem e29_0(J:J29):zqe c k q29 u29 (f29 J) d29 Go.Proofs.Tryz.f29 .root f h=s29_0 c k J (f 0) h:=by kernel_rfl
theorem e29_1(J:J29)(n_4:Int):zqe c k q29 u29 (f29 J) d29 Go.Proofs.Tryz.f29 (.l (.r (.l (.r (.r .root))))) (fset f 4 (.int .i64 n_4)) h=s29_1 c k J (f 0) (f 3) n_4 h:=by kernel_rfl
theorem e29_2(J:J29)(n_4:Int):zqe c k q29 u29 (f29 J) d29 Go.Proofs.Tryz.f29 (.r (.r (.l (.l (.r (.l (.r (.r .root)))))))) (fset f 4 (.int .i64 n_4)) h=s29_2 c k J (f 0) (f 3) n_4 h:=by kernel_rfl
theorem w29(hc:zqco c){n:Nat}{a:List AV}(hg:f29 (r29 c k n) 0 (finit a) h):zqs 29 a h k:=
 zqw hc q29 Go.Proofs.Tryz.func29 rfl (by kernel_rfl) (by kernel_rfl) k u29 (fun n=>f29 (r29 c k n)) (fun L _ _ hl=>match L,hl with
  |0,hl=>hl
  |1,hl=>zqnI hl fun _ hl=>hl
  |2,hl=>zqnI hl fun _ hl=>hl
  |_+3,hl=>hl) (fun n=>⟨
  fun f h hl=>Eq.mpr (e29_0 ..) hl,
  fun f h hl=>by
    refine zqrI 4 hl fun _ hl=>?_;exact Eq.mpr (e29_1 ..) hl,
  fun f h hl=>by
    refine zqrI 4 hl fun _ hl=>?_;exact Eq.mpr (e29_2 ..) hl,
  trivial⟩) rfl hg

theorem w32(hc:zqco c){m:Nat}{a:List AV}(hg:runJ env c q32 u32 d32 (retA env Go.Proofs.Tryz.f32.results.toList k) m 0 (finit a) h):zqs 32 a h k:=fnI_ok mixed envOk hc q32 Go.Proofs.Tryz.func32 rfl (by kernel_rfl) (by kernel_rfl) (by kernel_rfl) (by simp[u32]) hg
theorem e38_0(J:J38)(l_1:Nat)(c_1:Nat):zqe c k q38 u38 (f38 J) d38 Go.Proofs.Tryz.f38 .root (fset f 1 (.str l_1 c_1)) h=s38_0 c k J (f 0) l_1 c_1 h:=by kernel_rfl
theorem e38_1(J:J38)(l_1:Nat)(c_1:Nat)(n_6:Int):zqe c k q38 u38 (f38 J) d38 Go.Proofs.Tryz.f38 (.l (.l (.r (.r .root)))) (fset (fset f 1 (.str l_1 c_1)) 6 (.int .i64 n_6)) h=s38_1 c k J (f 0) l_1 c_1 n_6 h:=by kernel_rfl
theorem w38(hc:zqco c){n:Nat}{a:List AV}(hg:f38 (r38 c k n) 0 (finit a) h):zqs 38 a h k:=
 zqw hc q38 Go.Proofs.Tryz.func38 rfl (by kernel_rfl) (by kernel_rfl) k u38 (fun n=>f38 (r38 c k n)) (fun L _ _ hl=>match L,hl with
  |0,hl=>zqnS hl fun _ _ hl=>hl
  |1,hl=>zqnS hl fun _ _ hl=>zqnI hl fun _ hl=>hl
  |_+2,hl=>hl) (fun n=>⟨
  fun f h hl=>by
    refine zqrS 1 hl fun _ _ hl=>?_;exact Eq.mpr (e38_0 ..) hl,
  fun f h hl=>by
    refine zqrS 1 hl fun _ _ hl=>?_;refine zqrI 6 hl fun _ hl=>?_;exact Eq.mpr (e38_1 ..) hl,
  trivial⟩) rfl hg

theorem e41_0(J:J41):zqe c k q41 u41 (f41 J) d41 Go.Proofs.Tryz.f41 .root f h=s41_0 c k J (f 0) h:=by kernel_rfl
theorem w41(hc:zqco c){n:Nat}{a:List AV}(hg:f41 (r41 c k n) 0 (finit a) h):zqs 41 a h k:=
 zqw hc q41 Go.Proofs.Tryz.func41 rfl (by kernel_rfl) (by kernel_rfl) k u41 (fun n=>f41 (r41 c k n)) (fun L _ _ hl=>match L,hl with
  |0,hl=>hl
  |_+1,hl=>hl) (fun n=>⟨
  fun f h hl=>Eq.mpr (e41_0 ..) hl,
  trivial⟩) rfl hg

theorem w47(hc:zqco c){m:Nat}{a:List AV}(hg:runJ env c q47 u47 d47 (retA env Go.Proofs.Tryz.f47.results.toList k) m 0 (finit a) h):zqs 47 a h k:=fnI_ok mixed envOk hc q47 Go.Proofs.Tryz.func47 rfl (by kernel_rfl) (by kernel_rfl) (by kernel_rfl) (by simp[u47]) hg
theorem w51(hc:zqco c){m:Nat}{a:List AV}(hg:runJ env c q51 u51 d51 (retA env Go.Proofs.Tryz.f51.results.toList k) m 0 (finit a) h):zqs 51 a h k:=fnI_ok mixed envOk hc q51 Go.Proofs.Tryz.func51 rfl (by kernel_rfl) (by kernel_rfl) (by kernel_rfl) (by simp[u51]) hg
theorem e54_0(J:J54)(n_0:Int):zqe c k q54 u54 (f54 J) d54 Go.Proofs.Tryz.f54 .root (fset f 0 (.int .u8 n_0)) h=s54_0 c k J n_0 h:=by kernel_rfl
theorem e54_1(J:J54)(n_0:Int)(n_4:Int):zqe c k q54 u54 (f54 J) d54 Go.Proofs.Tryz.f54 (.l (.r (.l (.r .root)))) (fset (fset f 0 (.int .u8 n_0)) 4 (.int .i64 n_4)) h=s54_1 c k J n_0 n_4 h:=by kernel_rfl
theorem w54(hc:zqco c){n:Nat}{a:List AV}(hg:f54 (r54 c k n) 0 (finit a) h):zqs 54 a h k:=
 zqw hc q54 Go.Proofs.Tryz.func54 rfl (by kernel_rfl) (by kernel_rfl) k u54 (fun n=>f54 (r54 c k n)) (fun L _ _ hl=>match L,hl with
  |0,hl=>zqnI hl fun _ hl=>hl
  |1,hl=>zqnI hl fun _ hl=>zqnI hl fun _ hl=>hl
  |_+2,hl=>hl) (fun n=>⟨
  fun f h hl=>by
    refine zqrI 0 hl fun _ hl=>?_;exact Eq.mpr (e54_0 ..) hl,
  fun f h hl=>by
    refine zqrI 0 hl fun _ hl=>?_;refine zqrI 4 hl fun _ hl=>?_;exact Eq.mpr (e54_1 ..) hl,
  trivial⟩) rfl hg

theorem e55_0(J:J55)(l_0:Nat)(c_0:Nat):zqe c k q55 u55 (f55 J) d55 Go.Proofs.Tryz.f55 .root (fset f 0 (.str l_0 c_0)) h=s55_0 c k J l_0 c_0 h:=by kernel_rfl
theorem e55_1(J:J55)(l_0:Nat)(c_0:Nat)(n_4:Int)(n_5:Int):zqe c k q55 u55 (f55 J) d55 Go.Proofs.Tryz.f55 (.l (.r (.l (.r (.r (.r .root)))))) (fset (fset (fset f 0 (.str l_0 c_0)) 4 (.int .i64 n_4)) 5 (.int .i64 n_5)) h=s55_1 c k J l_0 c_0 (f 3) n_4 n_5 h:=by kernel_rfl
theorem e55_2(J:J55)(l_0:Nat)(c_0:Nat)(n_4:Int)(n_5:Int):zqe c k q55 u55 (f55 J) d55 Go.Proofs.Tryz.f55 (.r (.r (.l (.l (.r (.l (.r (.r (.r .root))))))))) (fset (fset (fset f 0 (.str l_0 c_0)) 4 (.int .i64 n_4)) 5 (.int .i64 n_5)) h=s55_2 c k J l_0 c_0 (f 3) n_4 n_5 h:=by kernel_rfl
theorem w55(hc:zqco c){n:Nat}{a:List AV}(hg:f55 (r55 c k n) 0 (finit a) h):zqs 55 a h k:=
 zqw hc q55 Go.Proofs.Tryz.func55 rfl (by kernel_rfl) (by kernel_rfl) k u55 (fun n=>f55 (r55 c k n)) (fun L _ _ hl=>match L,hl with
  |0,hl=>zqnS hl fun _ _ hl=>hl
  |1,hl=>zqnS hl fun _ _ hl=>zqnI hl fun _ hl=>zqnI hl fun _ hl=>hl
  |2,hl=>zqnS hl fun _ _ hl=>zqnI hl fun _ hl=>zqnI hl fun _ hl=>hl
  |_+3,hl=>hl) (fun n=>⟨
  fun f h hl=>by
    refine zqrS 0 hl fun _ _ hl=>?_;exact Eq.mpr (e55_0 ..) hl,
  fun f h hl=>by
    refine zqrS 0 hl fun _ _ hl=>?_;refine zqrI 4 hl fun _ hl=>?_;refine zqrI 5 hl fun _ hl=>?_;exact Eq.mpr (e55_1 ..) hl,
  fun f h hl=>by
    refine zqrS 0 hl fun _ _ hl=>?_;refine zqrI 4 hl fun _ hl=>?_;refine zqrI 5 hl fun _ hl=>?_;exact Eq.mpr (e55_2 ..) hl,
  trivial⟩) rfl hg

theorem e57_0(J:J57)(l_0:Nat)(c_0:Nat)(l_1:Nat)(c_1:Nat):zqe c k q57 u57 (f57 J) d57 Go.Proofs.Tryz.f57 .root (fset (fset f 0 (.str l_0 c_0)) 1 (.str l_1 c_1)) h=s57_0 c k J l_0 c_0 l_1 c_1 h:=by kernel_rfl
theorem w57(hc:zqco c){n:Nat}{a:List AV}(hg:f57 (r57 c k n) 0 (finit a) h):zqs 57 a h k:=
 zqw hc q57 Go.Proofs.Tryz.func57 rfl (by kernel_rfl) (by kernel_rfl) k u57 (fun n=>f57 (r57 c k n)) (fun L _ _ hl=>match L,hl with
  |0,hl=>zqnS hl fun _ _ hl=>zqnS hl fun _ _ hl=>hl
  |_+1,hl=>hl) (fun n=>⟨
  fun f h hl=>by
    refine zqrS 0 hl fun _ _ hl=>?_;refine zqrS 1 hl fun _ _ hl=>?_;exact Eq.mpr (e57_0 ..) hl,
  trivial⟩) rfl hg

theorem e59_0(J:J59):zqe c k q59 u59 (f59 J) d59 Go.Proofs.Tryz.f59 .root f h=s59_0 c k J (f 0) (f 1) h:=by kernel_rfl
theorem e59_1(J:J59)(n_7:Int)(n_8:Int):zqe c k q59 u59 (f59 J) d59 Go.Proofs.Tryz.f59 (.l (.r (.l (.r .root)))) (fset (fset f 7 (.int .i64 n_7)) 8 (.int .i64 n_8)) h=s59_1 c k J (f 0) (f 1) n_7 n_8 h:=by kernel_rfl
theorem w59(hc:zqco c){n:Nat}{a:List AV}(hg:f59 (r59 c k n) 0 (finit a) h):zqs 59 a h k:=
 zqw hc q59 Go.Proofs.Tryz.func59 rfl (by kernel_rfl) (by kernel_rfl) k u59 (fun n=>f59 (r59 c k n)) (fun L _ _ hl=>match L,hl with
  |0,hl=>hl
  |1,hl=>zqnI hl fun _ hl=>zqnI hl fun _ hl=>hl
  |_+2,hl=>hl) (fun n=>⟨
  fun f h hl=>Eq.mpr (e59_0 ..) hl,
  fun f h hl=>by
    refine zqrI 7 hl fun _ hl=>?_;refine zqrI 8 hl fun _ hl=>?_;exact Eq.mpr (e59_1 ..) hl,
  trivial⟩) rfl hg

theorem e61_0(J:J61)(l_0:Nat)(c_0:Nat):zqe c k q61 u61 (f61 J) d61 Go.Proofs.Tryz.f61 .root (fset f 0 (.str l_0 c_0)) h=s61_0 c k J l_0 c_0 h:=by kernel_rfl
theorem w61(hc:zqco c){n:Nat}{a:List AV}(hg:f61 (r61 c k n) 0 (finit a) h):zqs 61 a h k:=
 zqw hc q61 Go.Proofs.Tryz.func61 rfl (by kernel_rfl) (by kernel_rfl) k u61 (fun n=>f61 (r61 c k n)) (fun L _ _ hl=>match L,hl with
  |0,hl=>zqnS hl fun _ _ hl=>hl
  |_+1,hl=>hl) (fun n=>⟨
  fun f h hl=>by
    refine zqrS 0 hl fun _ _ hl=>?_;exact Eq.mpr (e61_0 ..) hl,
  trivial⟩) rfl hg

theorem e65_0(J:J65)(n_1:Int):zqe c k q65 u65 (f65 J) d65 Go.Proofs.Tryz.f65 .root (fset f 1 (.int .u8 n_1)) h=s65_0 c k J (f 0) n_1 h:=by kernel_rfl
theorem w65(hc:zqco c){n:Nat}{a:List AV}(hg:f65 (r65 c k n) 0 (finit a) h):zqs 65 a h k:=
 zqw hc q65 Go.Proofs.Tryz.func65 rfl (by kernel_rfl) (by kernel_rfl) k u65 (fun n=>f65 (r65 c k n)) (fun L _ _ hl=>match L,hl with
  |0,hl=>zqnI hl fun _ hl=>hl
  |_+1,hl=>hl) (fun n=>⟨
  fun f h hl=>by
    refine zqrI 1 hl fun _ hl=>?_;exact Eq.mpr (e65_0 ..) hl,
  trivial⟩) rfl hg

theorem e69_0(J:J69)(l_1:Nat)(c_1:Nat):zqe c k q69 u69 (f69 J) d69 Go.Proofs.Tryz.f69 .root (fset f 1 (.str l_1 c_1)) h=s69_0 c k J (f 0) l_1 c_1 h:=by kernel_rfl
theorem w69(hc:zqco c){n:Nat}{a:List AV}(hg:f69 (r69 c k n) 0 (finit a) h):zqs 69 a h k:=
 zqw hc q69 Go.Proofs.Tryz.func69 rfl (by kernel_rfl) (by kernel_rfl) k u69 (fun n=>f69 (r69 c k n)) (fun L _ _ hl=>match L,hl with
  |0,hl=>zqnS hl fun _ _ hl=>hl
  |_+1,hl=>hl) (fun n=>⟨
  fun f h hl=>by
    refine zqrS 1 hl fun _ _ hl=>?_;exact Eq.mpr (e69_0 ..) hl,
  trivial⟩) rfl hg

theorem w71(hc:zqco c){m:Nat}{a:List AV}(hg:runJ env c q71 u71 d71 (retA env Go.Proofs.Tryz.f71.results.toList k) m 0 (finit a) h):zqs 71 a h k:=fnI_ok mixed envOk hc q71 Go.Proofs.Tryz.func71 rfl (by kernel_rfl) (by kernel_rfl) (by kernel_rfl) (by simp[u71]) hg
theorem w75(hc:zqco c){m:Nat}{a:List AV}(hg:runJ env c q75 u75 d75 (retA env Go.Proofs.Tryz.f75.results.toList k) m 0 (finit a) h):zqs 75 a h k:=fnI_ok mixed envOk hc q75 Go.Proofs.Tryz.func75 rfl (by kernel_rfl) (by kernel_rfl) (by kernel_rfl) (by simp[u75]) hg
theorem w79(hc:zqco c){m:Nat}{a:List AV}(hg:runJ env c q79 u79 d79 (retA env Go.Proofs.Tryz.f79.results.toList k) m 0 (finit a) h):zqs 79 a h k:=fnI_ok mixed envOk hc q79 Go.Proofs.Tryz.func79 rfl (by kernel_rfl) (by kernel_rfl) (by kernel_rfl) (by simp[u79]) hg
theorem e87_0(J:J87):zqe c k q87 u87 (f87 J) d87 Go.Proofs.Tryz.f87 .root f h=s87_0 c k J (f 0) h:=by kernel_rfl
theorem w87(hc:zqco c){n:Nat}{a:List AV}(hg:f87 (r87 c k n) 0 (finit a) h):zqs 87 a h k:=
 zqw hc q87 Go.Proofs.Tryz.func87 rfl (by kernel_rfl) (by kernel_rfl) k u87 (fun n=>f87 (r87 c k n)) (fun L _ _ hl=>match L,hl with
  |0,hl=>hl
  |_+1,hl=>hl) (fun n=>⟨
  fun f h hl=>Eq.mpr (e87_0 ..) hl,
  trivial⟩) rfl hg

theorem w91(hc:zqco c){m:Nat}{a:List AV}(hg:runJ env c q91 u91 d91 (retA env Go.Proofs.Tryz.f91.results.toList k) m 0 (finit a) h):zqs 91 a h k:=fnI_ok mixed envOk hc q91 Go.Proofs.Tryz.func91 rfl (by kernel_rfl) (by kernel_rfl) (by kernel_rfl) (by simp[u91]) hg
theorem w95(hc:zqco c){m:Nat}{a:List AV}(hg:runJ env c q95 u95 d95 (retA env Go.Proofs.Tryz.f95.results.toList k) m 0 (finit a) h):zqs 95 a h k:=fnI_ok mixed envOk hc q95 Go.Proofs.Tryz.func95 rfl (by kernel_rfl) (by kernel_rfl) (by kernel_rfl) (by simp[u95]) hg
theorem w99(hc:zqco c){m:Nat}{a:List AV}(hg:runJ env c q99 u99 d99 (retA env Go.Proofs.Tryz.f99.results.toList k) m 0 (finit a) h):zqs 99 a h k:=fnI_ok mixed envOk hc q99 Go.Proofs.Tryz.func99 rfl (by kernel_rfl) (by kernel_rfl) (by kernel_rfl) (by simp[u99]) hg
theorem w101(hc:zqco c){m:Nat}{a:List AV}(hg:runJ env c q101 u101 d101 (retA env Go.Proofs.Tryz.f101.results.toList k) m 0 (finit a) h):zqs 101 a h k:=fnI_ok mixed envOk hc q101 Go.Proofs.Tryz.func101 rfl (by kernel_rfl) (by kernel_rfl) (by kernel_rfl) (by simp[u101]) hg
theorem w106(hc:zqco c){m:Nat}{a:List AV}(hg:runJ env c q106 u106 d106 (retA env Go.Proofs.Tryz.f106.results.toList k) m 0 (finit a) h):zqs 106 a h k:=fnI_ok mixed envOk hc q106 Go.Proofs.Tryz.func106 rfl (by kernel_rfl) (by kernel_rfl) (by kernel_rfl) (by simp[u106]) hg
theorem w116(hc:zqco c){m:Nat}{a:List AV}(hg:runJ env c q116 u116 d116 (retA env Go.Proofs.Tryz.f116.results.toList k) m 0 (finit a) h):zqs 116 a h k:=fnI_ok mixed envOk hc q116 Go.Proofs.Tryz.func116 rfl (by kernel_rfl) (by kernel_rfl) (by kernel_rfl) (by simp[u116]) hg
theorem w121(hc:zqco c){m:Nat}{a:List AV}(hg:runJ env c q121 u121 d121 (retA env Go.Proofs.Tryz.f121.results.toList k) m 0 (finit a) h):zqs 121 a h k:=fnI_ok mixed envOk hc q121 Go.Proofs.Tryz.func121 rfl (by kernel_rfl) (by kernel_rfl) (by kernel_rfl) (by simp[u121]) hg
theorem w125(hc:zqco c){m:Nat}{a:List AV}(hg:runJ env c q125 u125 d125 (retA env Go.Proofs.Tryz.f125.results.toList k) m 0 (finit a) h):zqs 125 a h k:=fnI_ok mixed envOk hc q125 Go.Proofs.Tryz.func125 rfl (by kernel_rfl) (by kernel_rfl) (by kernel_rfl) (by simp[u125]) hg
theorem w129(hc:zqco c){m:Nat}{a:List AV}(hg:runJ env c q129 u129 d129 (retA env Go.Proofs.Tryz.f129.results.toList k) m 0 (finit a) h):zqs 129 a h k:=fnI_ok mixed envOk hc q129 Go.Proofs.Tryz.func129 rfl (by kernel_rfl) (by kernel_rfl) (by kernel_rfl) (by simp[u129]) hg
theorem w133(hc:zqco c){m:Nat}{a:List AV}(hg:runJ env c q133 u133 d133 (retA env Go.Proofs.Tryz.f133.results.toList k) m 0 (finit a) h):zqs 133 a h k:=fnI_ok mixed envOk hc q133 Go.Proofs.Tryz.func133 rfl (by kernel_rfl) (by kernel_rfl) (by kernel_rfl) (by simp[u133]) hg
theorem w137(hc:zqco c){m:Nat}{a:List AV}(hg:runJ env c q137 u137 d137 (retA env Go.Proofs.Tryz.f137.results.toList k) m 0 (finit a) h):zqs 137 a h k:=fnI_ok mixed envOk hc q137 Go.Proofs.Tryz.func137 rfl (by kernel_rfl) (by kernel_rfl) (by kernel_rfl) (by simp[u137]) hg
theorem w141(hc:zqco c){m:Nat}{a:List AV}(hg:runJ env c q141 u141 d141 (retA env Go.Proofs.Tryz.f141.results.toList k) m 0 (finit a) h):zqs 141 a h k:=fnI_ok mixed envOk hc q141 Go.Proofs.Tryz.func141 rfl (by kernel_rfl) (by kernel_rfl) (by kernel_rfl) (by simp[u141]) hg
theorem w145(hc:zqco c){m:Nat}{a:List AV}(hg:runJ env c q145 u145 d145 (retA env Go.Proofs.Tryz.f145.results.toList k) m 0 (finit a) h):zqs 145 a h k:=fnI_ok mixed envOk hc q145 Go.Proofs.Tryz.func145 rfl (by kernel_rfl) (by kernel_rfl) (by kernel_rfl) (by simp[u145]) hg
theorem w149(hc:zqco c){m:Nat}{a:List AV}(hg:runJ env c q149 u149 d149 (retA env Go.Proofs.Tryz.f149.results.toList k) m 0 (finit a) h):zqs 149 a h k:=fnI_ok mixed envOk hc q149 Go.Proofs.Tryz.func149 rfl (by kernel_rfl) (by kernel_rfl) (by kernel_rfl) (by simp[u149]) hg
theorem w156(hc:zqco c){m:Nat}{a:List AV}(hg:runJ env c q156 u156 d156 (retA env Go.Proofs.Tryz.f156.results.toList k) m 0 (finit a) h):zqs 156 a h k:=fnI_ok mixed envOk hc q156 Go.Proofs.Tryz.func156 rfl (by kernel_rfl) (by kernel_rfl) (by kernel_rfl) (by simp[u156]) hg
theorem w160(hc:zqco c){m:Nat}{a:List AV}(hg:runJ env c q160 u160 d160 (retA env Go.Proofs.Tryz.f160.results.toList k) m 0 (finit a) h):zqs 160 a h k:=fnI_ok mixed envOk hc q160 Go.Proofs.Tryz.func160 rfl (by kernel_rfl) (by kernel_rfl) (by kernel_rfl) (by simp[u160]) hg
theorem w164(hc:zqco c){m:Nat}{a:List AV}(hg:runJ env c q164 u164 d164 (retA env Go.Proofs.Tryz.f164.results.toList k) m 0 (finit a) h):zqs 164 a h k:=fnI_ok mixed envOk hc q164 Go.Proofs.Tryz.func164 rfl (by kernel_rfl) (by kernel_rfl) (by kernel_rfl) (by simp[u164]) hg
theorem w169(hc:zqco c){m:Nat}{a:List AV}(hg:runJ env c q169 u169 d169 (retA env Go.Proofs.Tryz.f169.results.toList k) m 0 (finit a) h):zqs 169 a h k:=fnI_ok mixed envOk hc q169 Go.Proofs.Tryz.func169 rfl (by kernel_rfl) (by kernel_rfl) (by kernel_rfl) (by simp[u169]) hg
theorem w173(hc:zqco c){m:Nat}{a:List AV}(hg:runJ env c q173 u173 d173 (retA env Go.Proofs.Tryz.f173.results.toList k) m 0 (finit a) h):zqs 173 a h k:=fnI_ok mixed envOk hc q173 Go.Proofs.Tryz.func173 rfl (by kernel_rfl) (by kernel_rfl) (by kernel_rfl) (by simp[u173]) hg
theorem w177(hc:zqco c){m:Nat}{a:List AV}(hg:runJ env c q177 u177 d177 (retA env Go.Proofs.Tryz.f177.results.toList k) m 0 (finit a) h):zqs 177 a h k:=fnI_ok mixed envOk hc q177 Go.Proofs.Tryz.func177 rfl (by kernel_rfl) (by kernel_rfl) (by kernel_rfl) (by simp[u177]) hg
theorem w181(hc:zqco c){m:Nat}{a:List AV}(hg:runJ env c q181 u181 d181 (retA env Go.Proofs.Tryz.f181.results.toList k) m 0 (finit a) h):zqs 181 a h k:=fnI_ok mixed envOk hc q181 Go.Proofs.Tryz.func181 rfl (by kernel_rfl) (by kernel_rfl) (by kernel_rfl) (by simp[u181]) hg
theorem w186(hc:zqco c){m:Nat}{a:List AV}(hg:runJ env c q186 u186 d186 (retA env Go.Proofs.Tryz.f186.results.toList k) m 0 (finit a) h):zqs 186 a h k:=fnI_ok mixed envOk hc q186 Go.Proofs.Tryz.func186 rfl (by kernel_rfl) (by kernel_rfl) (by kernel_rfl) (by simp[u186]) hg
theorem w190(hc:zqco c){m:Nat}{a:List AV}(hg:runJ env c q190 u190 d190 (retA env Go.Proofs.Tryz.f190.results.toList k) m 0 (finit a) h):zqs 190 a h k:=fnI_ok mixed envOk hc q190 Go.Proofs.Tryz.func190 rfl (by kernel_rfl) (by kernel_rfl) (by kernel_rfl) (by simp[u190]) hg
theorem w194(hc:zqco c){m:Nat}{a:List AV}(hg:runJ env c q194 u194 d194 (retA env Go.Proofs.Tryz.f194.results.toList k) m 0 (finit a) h):zqs 194 a h k:=fnI_ok mixed envOk hc q194 Go.Proofs.Tryz.func194 rfl (by kernel_rfl) (by kernel_rfl) (by kernel_rfl) (by simp[u194]) hg
theorem w200(hc:zqco c){m:Nat}{a:List AV}(hg:runJ env c q200 u200 d200 (retA env Go.Proofs.Tryz.f200.results.toList k) m 0 (finit a) h):zqs 200 a h k:=fnI_ok mixed envOk hc q200 Go.Proofs.Tryz.func200 rfl (by kernel_rfl) (by kernel_rfl) (by kernel_rfl) (by simp[u200]) hg
theorem w205(hc:zqco c){m:Nat}{a:List AV}(hg:runJ env c q205 u205 d205 (retA env Go.Proofs.Tryz.f205.results.toList k) m 0 (finit a) h):zqs 205 a h k:=fnI_ok mixed envOk hc q205 Go.Proofs.Tryz.func205 rfl (by kernel_rfl) (by kernel_rfl) (by kernel_rfl) (by simp[u205]) hg
theorem w209(hc:zqco c){m:Nat}{a:List AV}(hg:runJ env c q209 u209 d209 (retA env Go.Proofs.Tryz.f209.results.toList k) m 0 (finit a) h):zqs 209 a h k:=fnI_ok mixed envOk hc q209 Go.Proofs.Tryz.func209 rfl (by kernel_rfl) (by kernel_rfl) (by kernel_rfl) (by simp[u209]) hg
theorem w213(hc:zqco c){m:Nat}{a:List AV}(hg:runJ env c q213 u213 d213 (retA env Go.Proofs.Tryz.f213.results.toList k) m 0 (finit a) h):zqs 213 a h k:=fnI_ok mixed envOk hc q213 Go.Proofs.Tryz.func213 rfl (by kernel_rfl) (by kernel_rfl) (by kernel_rfl) (by simp[u213]) hg
theorem w217(hc:zqco c){m:Nat}{a:List AV}(hg:runJ env c q217 u217 d217 (retA env Go.Proofs.Tryz.f217.results.toList k) m 0 (finit a) h):zqs 217 a h k:=fnI_ok mixed envOk hc q217 Go.Proofs.Tryz.func217 rfl (by kernel_rfl) (by kernel_rfl) (by kernel_rfl) (by simp[u217]) hg
theorem w221(hc:zqco c){m:Nat}{a:List AV}(hg:runJ env c q221 u221 d221 (retA env Go.Proofs.Tryz.f221.results.toList k) m 0 (finit a) h):zqs 221 a h k:=fnI_ok mixed envOk hc q221 Go.Proofs.Tryz.func221 rfl (by kernel_rfl) (by kernel_rfl) (by kernel_rfl) (by simp[u221]) hg
theorem w225(hc:zqco c){m:Nat}{a:List AV}(hg:runJ env c q225 u225 d225 (retA env Go.Proofs.Tryz.f225.results.toList k) m 0 (finit a) h):zqs 225 a h k:=fnI_ok mixed envOk hc q225 Go.Proofs.Tryz.func225 rfl (by kernel_rfl) (by kernel_rfl) (by kernel_rfl) (by simp[u225]) hg
theorem w231(hc:zqco c){m:Nat}{a:List AV}(hg:runJ env c q231 u231 d231 (retA env Go.Proofs.Tryz.f231.results.toList k) m 0 (finit a) h):zqs 231 a h k:=fnI_ok mixed envOk hc q231 Go.Proofs.Tryz.func231 rfl (by kernel_rfl) (by kernel_rfl) (by kernel_rfl) (by simp[u231]) hg
theorem e232_0(J:J232):zqe c k q232 u232 (f232 J) d232 Go.Proofs.Tryz.f232 .root f h=s232_0 c k J (f 0) h:=by kernel_rfl
theorem w232(hc:zqco c){n:Nat}{a:List AV}(hg:f232 (r232 c k n) 0 (finit a) h):zqs 232 a h k:=
 zqw hc q232 Go.Proofs.Tryz.func232 rfl (by kernel_rfl) (by kernel_rfl) k u232 (fun n=>f232 (r232 c k n)) (fun L _ _ hl=>match L,hl with
  |0,hl=>hl
  |_+1,hl=>hl) (fun n=>⟨
  fun f h hl=>Eq.mpr (e232_0 ..) hl,
  trivial⟩) rfl hg
theorem wd232(hc:zqco c){n:Nat}{a:List AV}(hg:f232 (r232 c k n) 0 (finit a) h):zqsd 232 a h k:=
 zqwd hc q232 Go.Proofs.Tryz.func232 rfl (by kernel_rfl) (by kernel_rfl) k u232 (fun n=>f232 (r232 c k n)) (fun L _ _ hl=>match L,hl with
  |0,hl=>hl
  |_+1,hl=>hl) (fun n=>⟨
  fun f h hl=>Eq.mpr (e232_0 ..) hl,
  trivial⟩) rfl hg

theorem w237(hc:zqco c){m:Nat}{a:List AV}(hg:runJ env c q237 u237 d237 (retA env Go.Proofs.Tryz.f237.results.toList k) m 0 (finit a) h):zqs 237 a h k:=fnI_ok mixed envOk hc q237 Go.Proofs.Tryz.func237 rfl (by kernel_rfl) (by kernel_rfl) (by kernel_rfl) (by simp[u237]) hg
theorem w241(hc:zqco c){m:Nat}{a:List AV}(hg:runJ env c q241 u241 d241 (retA env Go.Proofs.Tryz.f241.results.toList k) m 0 (finit a) h):zqs 241 a h k:=fnI_ok mixed envOk hc q241 Go.Proofs.Tryz.func241 rfl (by kernel_rfl) (by kernel_rfl) (by kernel_rfl) (by simp[u241]) hg
theorem w245(hc:zqco c){m:Nat}{a:List AV}(hg:runJ env c q245 u245 d245 (retA env Go.Proofs.Tryz.f245.results.toList k) m 0 (finit a) h):zqs 245 a h k:=fnI_ok mixed envOk hc q245 Go.Proofs.Tryz.func245 rfl (by kernel_rfl) (by kernel_rfl) (by kernel_rfl) (by simp[u245]) hg
theorem w251(hc:zqco c){m:Nat}{a:List AV}(hg:runJ env c q251 u251 d251 (retA env Go.Proofs.Tryz.f251.results.toList k) m 0 (finit a) h):zqs 251 a h k:=fnI_ok mixed envOk hc q251 Go.Proofs.Tryz.func251 rfl (by kernel_rfl) (by kernel_rfl) (by kernel_rfl) (by simp[u251]) hg
theorem w256(hc:zqco c){m:Nat}{a:List AV}(hg:runJ env c q256 u256 d256 (retA env Go.Proofs.Tryz.f256.results.toList k) m 0 (finit a) h):zqs 256 a h k:=fnI_ok mixed envOk hc q256 Go.Proofs.Tryz.func256 rfl (by kernel_rfl) (by kernel_rfl) (by kernel_rfl) (by simp[u256]) hg
theorem w261(hc:zqco c){m:Nat}{a:List AV}(hg:runJ env c q261 u261 d261 (retA env Go.Proofs.Tryz.f261.results.toList k) m 0 (finit a) h):zqs 261 a h k:=fnI_ok mixed envOk hc q261 Go.Proofs.Tryz.func261 rfl (by kernel_rfl) (by kernel_rfl) (by kernel_rfl) (by simp[u261]) hg
theorem w266(hc:zqco c){m:Nat}{a:List AV}(hg:runJ env c q266 u266 d266 (retA env Go.Proofs.Tryz.f266.results.toList k) m 0 (finit a) h):zqs 266 a h k:=fnI_ok mixed envOk hc q266 Go.Proofs.Tryz.func266 rfl (by kernel_rfl) (by kernel_rfl) (by kernel_rfl) (by simp[u266]) hg
theorem w270(hc:zqco c){m:Nat}{a:List AV}(hg:runJ env c q270 u270 d270 (retA env Go.Proofs.Tryz.f270.results.toList k) m 0 (finit a) h):zqs 270 a h k:=fnI_ok mixed envOk hc q270 Go.Proofs.Tryz.func270 rfl (by kernel_rfl) (by kernel_rfl) (by kernel_rfl) (by simp[u270]) hg
theorem w274(hc:zqco c){m:Nat}{a:List AV}(hg:runJ env c q274 u274 d274 (retA env Go.Proofs.Tryz.f274.results.toList k) m 0 (finit a) h):zqs 274 a h k:=fnI_ok mixed envOk hc q274 Go.Proofs.Tryz.func274 rfl (by kernel_rfl) (by kernel_rfl) (by kernel_rfl) (by simp[u274]) hg
theorem w278(hc:zqco c){m:Nat}{a:List AV}(hg:runJ env c q278 u278 d278 (retA env Go.Proofs.Tryz.f278.results.toList k) m 0 (finit a) h):zqs 278 a h k:=fnI_ok mixed envOk hc q278 Go.Proofs.Tryz.func278 rfl (by kernel_rfl) (by kernel_rfl) (by kernel_rfl) (by simp[u278]) hg
theorem w289(hc:zqco c){m:Nat}{a:List AV}(hg:runJ env c q289 u289 d289 (retA env Go.Proofs.Tryz.f289.results.toList k) m 0 (finit a) h):zqs 289 a h k:=fnI_ok mixed envOk hc q289 Go.Proofs.Tryz.func289 rfl (by kernel_rfl) (by kernel_rfl) (by kernel_rfl) (by simp[u289]) hg
theorem w293(hc:zqco c){m:Nat}{a:List AV}(hg:runJ env c q293 u293 d293 (retA env Go.Proofs.Tryz.f293.results.toList k) m 0 (finit a) h):zqs 293 a h k:=fnI_ok mixed envOk hc q293 Go.Proofs.Tryz.func293 rfl (by kernel_rfl) (by kernel_rfl) (by kernel_rfl) (by simp[u293]) hg
theorem w297(hc:zqco c){m:Nat}{a:List AV}(hg:runJ env c q297 u297 d297 (retA env Go.Proofs.Tryz.f297.results.toList k) m 0 (finit a) h):zqs 297 a h k:=fnI_ok mixed envOk hc q297 Go.Proofs.Tryz.func297 rfl (by kernel_rfl) (by kernel_rfl) (by kernel_rfl) (by simp[u297]) hg
theorem e302_0(J:J302)(l_0:Nat)(c_0:Nat):zqe c k q302 u302 (f302 J) d302 Go.Proofs.Tryz.f302 .root (fset f 0 (.str l_0 c_0)) h=s302_0 c k J l_0 c_0 (f 1) h:=by kernel_rfl
theorem e302_1(J:J302)(l_0:Nat)(c_0:Nat):zqe c k q302 u302 (f302 J) d302 Go.Proofs.Tryz.f302 (.l (.l (.r .root))) (fset f 0 (.str l_0 c_0)) h=s302_1 c k J l_0 c_0 (f 1) h:=by kernel_rfl
theorem w302(hc:zqco c){n:Nat}{a:List AV}(hg:f302 (r302 c k n) 0 (finit a) h):zqs 302 a h k:=
 zqw hc q302 Go.Proofs.Tryz.func302 rfl (by kernel_rfl) (by kernel_rfl) k u302 (fun n=>f302 (r302 c k n)) (fun L _ _ hl=>match L,hl with
  |0,hl=>zqnS hl fun _ _ hl=>hl
  |1,hl=>zqnS hl fun _ _ hl=>hl
  |_+2,hl=>hl) (fun n=>⟨
  fun f h hl=>by
    refine zqrS 0 hl fun _ _ hl=>?_;exact Eq.mpr (e302_0 ..) hl,
  fun f h hl=>by
    refine zqrS 0 hl fun _ _ hl=>?_;exact Eq.mpr (e302_1 ..) hl,
  trivial⟩) rfl hg

theorem w303(hc:zqco c){m:Nat}{a:List AV}(hg:runJ env c q303 u303 d303 (retA env Go.Proofs.Tryz.f303.results.toList k) m 0 (finit a) h):zqs 303 a h k:=fnI_ok mixed envOk hc q303 Go.Proofs.Tryz.func303 rfl (by kernel_rfl) (by kernel_rfl) (by kernel_rfl) (by simp[u303]) hg
theorem e307_0(J:J307)(l_0:Nat)(c_0:Nat)(l_1:Nat)(c_1:Nat):zqe c k q307 u307 (f307 J) d307 Go.Proofs.Tryz.f307 .root (fset (fset f 0 (.str l_0 c_0)) 1 (.str l_1 c_1)) h=s307_0 c k J l_0 c_0 l_1 c_1 h:=by kernel_rfl
theorem w307(hc:zqco c){n:Nat}{a:List AV}(hg:f307 (r307 c k n) 0 (finit a) h):zqs 307 a h k:=
 zqw hc q307 Go.Proofs.Tryz.func307 rfl (by kernel_rfl) (by kernel_rfl) k u307 (fun n=>f307 (r307 c k n)) (fun L _ _ hl=>match L,hl with
  |0,hl=>zqnS hl fun _ _ hl=>zqnS hl fun _ _ hl=>hl
  |_+1,hl=>hl) (fun n=>⟨
  fun f h hl=>by
    refine zqrS 0 hl fun _ _ hl=>?_;refine zqrS 1 hl fun _ _ hl=>?_;exact Eq.mpr (e307_0 ..) hl,
  trivial⟩) rfl hg

theorem w308(hc:zqco c){m:Nat}{a:List AV}(hg:runJ env c q308 u308 d308 (retA env Go.Proofs.Tryz.f308.results.toList k) m 0 (finit a) h):zqs 308 a h k:=fnI_ok mixed envOk hc q308 Go.Proofs.Tryz.func308 rfl (by kernel_rfl) (by kernel_rfl) (by kernel_rfl) (by simp[u308]) hg
theorem w321(hc:zqco c){m:Nat}{a:List AV}(hg:runJ env c q321 u321 d321 (retA env Go.Proofs.Tryz.f321.results.toList k) m 0 (finit a) h):zqs 321 a h k:=fnI_ok mixed envOk hc q321 Go.Proofs.Tryz.func321 rfl (by kernel_rfl) (by kernel_rfl) (by kernel_rfl) (by simp[u321]) hg
theorem w325(hc:zqco c){m:Nat}{a:List AV}(hg:runJ env c q325 u325 d325 (retA env Go.Proofs.Tryz.f325.results.toList k) m 0 (finit a) h):zqs 325 a h k:=fnI_ok mixed envOk hc q325 Go.Proofs.Tryz.func325 rfl (by kernel_rfl) (by kernel_rfl) (by kernel_rfl) (by simp[u325]) hg
theorem w330(hc:zqco c){m:Nat}{a:List AV}(hg:runJ env c q330 u330 d330 (retA env Go.Proofs.Tryz.f330.results.toList k) m 0 (finit a) h):zqs 330 a h k:=fnI_ok mixed envOk hc q330 Go.Proofs.Tryz.func330 rfl (by kernel_rfl) (by kernel_rfl) (by kernel_rfl) (by simp[u330]) hg
theorem w334(hc:zqco c){m:Nat}{a:List AV}(hg:runJ env c q334 u334 d334 (retA env Go.Proofs.Tryz.f334.results.toList k) m 0 (finit a) h):zqs 334 a h k:=fnI_ok mixed envOk hc q334 Go.Proofs.Tryz.func334 rfl (by kernel_rfl) (by kernel_rfl) (by kernel_rfl) (by simp[u334]) hg
theorem w339(hc:zqco c){m:Nat}{a:List AV}(hg:runJ env c q339 u339 d339 (retA env Go.Proofs.Tryz.f339.results.toList k) m 0 (finit a) h):zqs 339 a h k:=fnI_ok mixed envOk hc q339 Go.Proofs.Tryz.func339 rfl (by kernel_rfl) (by kernel_rfl) (by kernel_rfl) (by simp[u339]) hg
theorem w345(hc:zqco c){m:Nat}{a:List AV}(hg:runJ env c q345 u345 d345 (retA env Go.Proofs.Tryz.f345.results.toList k) m 0 (finit a) h):zqs 345 a h k:=fnI_ok mixed envOk hc q345 Go.Proofs.Tryz.func345 rfl (by kernel_rfl) (by kernel_rfl) (by kernel_rfl) (by simp[u345]) hg
theorem w349(hc:zqco c){m:Nat}{a:List AV}(hg:runJ env c q349 u349 d349 (retA env Go.Proofs.Tryz.f349.results.toList k) m 0 (finit a) h):zqs 349 a h k:=fnI_ok mixed envOk hc q349 Go.Proofs.Tryz.func349 rfl (by kernel_rfl) (by kernel_rfl) (by kernel_rfl) (by simp[u349]) hg
theorem w353(hc:zqco c){m:Nat}{a:List AV}(hg:runJ env c q353 u353 d353 (retA env Go.Proofs.Tryz.f353.results.toList k) m 0 (finit a) h):zqs 353 a h k:=fnI_ok mixed envOk hc q353 Go.Proofs.Tryz.func353 rfl (by kernel_rfl) (by kernel_rfl) (by kernel_rfl) (by simp[u353]) hg
theorem w358(hc:zqco c){m:Nat}{a:List AV}(hg:runJ env c q358 u358 d358 (retA env Go.Proofs.Tryz.f358.results.toList k) m 0 (finit a) h):zqs 358 a h k:=fnI_ok mixed envOk hc q358 Go.Proofs.Tryz.func358 rfl (by kernel_rfl) (by kernel_rfl) (by kernel_rfl) (by simp[u358]) hg
theorem w363(hc:zqco c){m:Nat}{a:List AV}(hg:runJ env c q363 u363 d363 (retA env Go.Proofs.Tryz.f363.results.toList k) m 0 (finit a) h):zqs 363 a h k:=fnI_ok mixed envOk hc q363 Go.Proofs.Tryz.func363 rfl (by kernel_rfl) (by kernel_rfl) (by kernel_rfl) (by simp[u363]) hg
end Go.Den
