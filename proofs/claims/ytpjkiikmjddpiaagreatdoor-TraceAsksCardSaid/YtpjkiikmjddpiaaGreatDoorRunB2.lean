/-
  A part of the proof: the pieces are what the program does.
-/
import Derived.Test.YtpjkiikmjddpiaaGreatDoorRunA1
import Derived.KernelRfl
namespace Go.Den
set_option maxRecDepth 100000
variable{c:Caller Prop FT}{k:KV}{f:FT}{h:H}
theorem e4_0(J:J4)(l_0:Nat)(c_0:Nat):zqe c k q4 u4 (f4 J) d4 Go.Proofs.Tryz.f4 .root (fset f 0 (.str l_0 c_0)) h=s4_0 c k J l_0 c_0 h:=by kernel_rfl
theorem e4_1(J:J4)(l_0:Nat)(c_0:Nat)(n_3:Int):zqe c k q4 u4 (f4 J) d4 Go.Proofs.Tryz.f4 (.l (.r (.l (.r (.r .root))))) (fset (fset f 0 (.str l_0 c_0)) 3 (.int .i64 n_3)) h=s4_1 c k J l_0 c_0 n_3 h:=by kernel_rfl
theorem e4_2(J:J4)(l_0:Nat)(c_0:Nat)(n_8:Int)(n_9:Int):zqe c k q4 u4 (f4 J) d4 Go.Proofs.Tryz.f4 (.l (.r (.l (.r (.r (.r (.r (.r (.r (.r .root)))))))))) (fset (fset (fset f 0 (.str l_0 c_0)) 8 (.int .i64 n_8)) 9 (.int .i64 n_9)) h=s4_2 c k J l_0 c_0 (f 7) n_8 n_9 h:=by kernel_rfl
theorem e4_3(J:J4)(l_0:Nat)(c_0:Nat)(n_8:Int)(n_9:Int):zqe c k q4 u4 (f4 J) d4 Go.Proofs.Tryz.f4 (.l (.l (.r (.l (.l (.r (.l (.l (.r (.l (.r (.r (.r (.r (.r (.r (.r .root))))))))))))))))) (fset (fset (fset f 0 (.str l_0 c_0)) 8 (.int .i64 n_8)) 9 (.int .i64 n_9)) h=s4_3 c k J l_0 c_0 (f 7) n_8 n_9 (f 10) h:=by kernel_rfl
theorem e4_4(J:J4)(l_0:Nat)(c_0:Nat)(n_8:Int)(n_9:Int):zqe c k q4 u4 (f4 J) d4 Go.Proofs.Tryz.f4 (.r (.r (.l (.l (.r (.l (.r (.r (.r (.r (.r (.r (.r .root))))))))))))) (fset (fset (fset f 0 (.str l_0 c_0)) 8 (.int .i64 n_8)) 9 (.int .i64 n_9)) h=s4_4 c k J l_0 c_0 (f 7) n_8 n_9 h:=by kernel_rfl
theorem w4(hc:zqco c){n:Nat}{a:List AV}(hg:f4 (r4 c k n) 0 (finit a) h):zqs 4 a h k:=
 zqw hc q4 Go.Proofs.Tryz.func4 rfl (by kernel_rfl) (by kernel_rfl) k u4 (fun n=>f4 (r4 c k n)) (fun L _ _ hl=>match L,hl with
  |0,hl=>zqnS hl fun _ _ hl=>hl
  |1,hl=>zqnS hl fun _ _ hl=>zqnI hl fun _ hl=>hl
  |2,hl=>zqnS hl fun _ _ hl=>zqnI hl fun _ hl=>zqnI hl fun _ hl=>hl
  |3,hl=>zqnS hl fun _ _ hl=>zqnI hl fun _ hl=>zqnI hl fun _ hl=>hl
  |4,hl=>zqnS hl fun _ _ hl=>zqnI hl fun _ hl=>zqnI hl fun _ hl=>hl
  |_+5,hl=>hl) (fun n=>⟨
  fun f h hl=>by
    refine zqrS 0 hl fun _ _ hl=>?_;exact Eq.mpr (e4_0 ..) hl,
  fun f h hl=>by
    refine zqrS 0 hl fun _ _ hl=>?_;refine zqrI 3 hl fun _ hl=>?_;exact Eq.mpr (e4_1 ..) hl,
  fun f h hl=>by
    refine zqrS 0 hl fun _ _ hl=>?_;refine zqrI 8 hl fun _ hl=>?_;refine zqrI 9 hl fun _ hl=>?_;exact Eq.mpr (e4_2 ..) hl,
  fun f h hl=>by
    refine zqrS 0 hl fun _ _ hl=>?_;refine zqrI 8 hl fun _ hl=>?_;refine zqrI 9 hl fun _ hl=>?_;exact Eq.mpr (e4_3 ..) hl,
  fun f h hl=>by
    refine zqrS 0 hl fun _ _ hl=>?_;refine zqrI 8 hl fun _ hl=>?_;refine zqrI 9 hl fun _ hl=>?_;exact Eq.mpr (e4_4 ..) hl,
  trivial⟩) rfl hg

theorem e5_0(J:J5):zqe c k q5 u5 (f5 J) d5 Go.Proofs.Tryz.f5 .root f h=s5_0 c k J (f 0) (f 1) h:=by kernel_rfl
theorem e5_1(J:J5)(n_5:Int)(n_6:Int):zqe c k q5 u5 (f5 J) d5 Go.Proofs.Tryz.f5 (.l (.r (.l (.r (.r .root))))) (fset (fset f 5 (.int .i64 n_5)) 6 (.int .i64 n_6)) h=s5_1 c k J (f 0) (f 1) n_5 n_6 h:=by kernel_rfl
theorem w5(hc:zqco c){n:Nat}{a:List AV}(hg:f5 (r5 c k n) 0 (finit a) h):zqs 5 a h k:=
 zqw hc q5 Go.Proofs.Tryz.func5 rfl (by kernel_rfl) (by kernel_rfl) k u5 (fun n=>f5 (r5 c k n)) (fun L _ _ hl=>match L,hl with
  |0,hl=>hl
  |1,hl=>zqnI hl fun _ hl=>zqnI hl fun _ hl=>hl
  |_+2,hl=>hl) (fun n=>⟨
  fun f h hl=>Eq.mpr (e5_0 ..) hl,
  fun f h hl=>by
    refine zqrI 5 hl fun _ hl=>?_;refine zqrI 6 hl fun _ hl=>?_;exact Eq.mpr (e5_1 ..) hl,
  trivial⟩) rfl hg

theorem e11_0(J:J11):zqe c k q11 u11 (f11 J) d11 Go.Proofs.Tryz.f11 .root f h=s11_0 c k J (f 0) (f 1) h:=by kernel_rfl
theorem e11_1(J:J11)(n_37:Int)(n_38:Int):zqe c k q11 u11 (f11 J) d11 Go.Proofs.Tryz.f11 (.l (.r (.l (.r (.r (.r .root)))))) (fset (fset f 37 (.int .i64 n_37)) 38 (.int .i64 n_38)) h=s11_1 c k J (f 0) (f 36) n_37 n_38 h:=by kernel_rfl
theorem w11(hc:zqco c){n:Nat}{a:List AV}(hg:f11 (r11 c k n) 0 (finit a) h):zqs 11 a h k:=
 zqw hc q11 Go.Proofs.Tryz.func11 rfl (by kernel_rfl) (by kernel_rfl) k u11 (fun n=>f11 (r11 c k n)) (fun L _ _ hl=>match L,hl with
  |0,hl=>hl
  |1,hl=>zqnI hl fun _ hl=>zqnI hl fun _ hl=>hl
  |_+2,hl=>hl) (fun n=>⟨
  fun f h hl=>Eq.mpr (e11_0 ..) hl,
  fun f h hl=>by
    refine zqrI 37 hl fun _ hl=>?_;refine zqrI 38 hl fun _ hl=>?_;exact Eq.mpr (e11_1 ..) hl,
  trivial⟩) rfl hg

theorem e14_0(J:J14):zqe c k q14 u14 (f14 J) d14 Go.Proofs.Tryz.f14 .root f h=s14_0 c k J (f 0) (f 1) h:=by kernel_rfl
theorem e14_1(J:J14)(n_5:Int):zqe c k q14 u14 (f14 J) d14 Go.Proofs.Tryz.f14 (.l (.r (.l (.r (.r .root))))) (fset f 5 (.int .i64 n_5)) h=s14_1 c k J (f 0) (f 1) n_5 h:=by kernel_rfl
theorem w14(hc:zqco c){n:Nat}{a:List AV}(hg:f14 (r14 c k n) 0 (finit a) h):zqs 14 a h k:=
 zqw hc q14 Go.Proofs.Tryz.func14 rfl (by kernel_rfl) (by kernel_rfl) k u14 (fun n=>f14 (r14 c k n)) (fun L _ _ hl=>match L,hl with
  |0,hl=>hl
  |1,hl=>zqnI hl fun _ hl=>hl
  |_+2,hl=>hl) (fun n=>⟨
  fun f h hl=>Eq.mpr (e14_0 ..) hl,
  fun f h hl=>by
    refine zqrI 5 hl fun _ hl=>?_;exact Eq.mpr (e14_1 ..) hl,
  trivial⟩) rfl hg

theorem e21_0(J:J21)(l_1:Nat)(c_1:Nat)(l_2:Nat)(c_2:Nat):zqe c k q21 u21 (f21 J) d21 Go.Proofs.Tryz.f21 .root (fset (fset f 1 (.str l_1 c_1)) 2 (.str l_2 c_2)) h=s21_0 c k J (f 0) l_1 c_1 l_2 c_2 h:=by kernel_rfl
theorem w21(hc:zqco c){n:Nat}{a:List AV}(hg:f21 (r21 c k n) 0 (finit a) h):zqs 21 a h k:=
 zqw hc q21 Go.Proofs.Tryz.func21 rfl (by kernel_rfl) (by kernel_rfl) k u21 (fun n=>f21 (r21 c k n)) (fun L _ _ hl=>match L,hl with
  |0,hl=>zqnS hl fun _ _ hl=>zqnS hl fun _ _ hl=>hl
  |_+1,hl=>hl) (fun n=>⟨
  fun f h hl=>by
    refine zqrS 1 hl fun _ _ hl=>?_;refine zqrS 2 hl fun _ _ hl=>?_;exact Eq.mpr (e21_0 ..) hl,
  trivial⟩) rfl hg

theorem w26(hc:zqco c){m:Nat}{a:List AV}(hg:runJ env c q26 u26 d26 (retA env Go.Proofs.Tryz.f26.results.toList k) m 0 (finit a) h):zqs 26 a h k:=fnI_ok mixed envOk hc q26 Go.Proofs.Tryz.func26 rfl (by kernel_rfl) (by kernel_rfl) (by kernel_rfl) (by simp[u26]) hg
theorem e33_0(J:J33)(l_0:Nat)(c_0:Nat):zqe c k q33 u33 (f33 J) d33 Go.Proofs.Tryz.f33 .root (fset f 0 (.str l_0 c_0)) h=s33_0 c k J l_0 c_0 h:=by kernel_rfl
theorem w33(hc:zqco c){n:Nat}{a:List AV}(hg:f33 (r33 c k n) 0 (finit a) h):zqs 33 a h k:=
 zqw hc q33 Go.Proofs.Tryz.func33 rfl (by kernel_rfl) (by kernel_rfl) k u33 (fun n=>f33 (r33 c k n)) (fun L _ _ hl=>match L,hl with
  |0,hl=>zqnS hl fun _ _ hl=>hl
  |_+1,hl=>hl) (fun n=>⟨
  fun f h hl=>by
    refine zqrS 0 hl fun _ _ hl=>?_;exact Eq.mpr (e33_0 ..) hl,
  trivial⟩) rfl hg

theorem e35_0(J:J35):zqe c k q35 u35 (f35 J) d35 Go.Proofs.Tryz.f35 .root f h=s35_0 c k J (f 0) h:=by kernel_rfl
theorem w35(hc:zqco c){n:Nat}{a:List AV}(hg:f35 (r35 c k n) 0 (finit a) h):zqs 35 a h k:=
 zqw hc q35 Go.Proofs.Tryz.func35 rfl (by kernel_rfl) (by kernel_rfl) k u35 (fun n=>f35 (r35 c k n)) (fun L _ _ hl=>match L,hl with
  |0,hl=>hl
  |_+1,hl=>hl) (fun n=>⟨
  fun f h hl=>Eq.mpr (e35_0 ..) hl,
  trivial⟩) rfl hg

theorem e40_0(J:J40)(l_1:Nat)(c_1:Nat):zqe c k q40 u40 (f40 J) d40 Go.Proofs.Tryz.f40 .root (fset f 1 (.str l_1 c_1)) h=s40_0 c k J (f 0) l_1 c_1 h:=by kernel_rfl
theorem w40(hc:zqco c){n:Nat}{a:List AV}(hg:f40 (r40 c k n) 0 (finit a) h):zqs 40 a h k:=
 zqw hc q40 Go.Proofs.Tryz.func40 rfl (by kernel_rfl) (by kernel_rfl) k u40 (fun n=>f40 (r40 c k n)) (fun L _ _ hl=>match L,hl with
  |0,hl=>zqnS hl fun _ _ hl=>hl
  |_+1,hl=>hl) (fun n=>⟨
  fun f h hl=>by
    refine zqrS 1 hl fun _ _ hl=>?_;exact Eq.mpr (e40_0 ..) hl,
  trivial⟩) rfl hg

theorem e42_0(J:J42)(l_0:Nat)(c_0:Nat)(n_1:Int)(n_2:Int):zqe c k q42 u42 (f42 J) d42 Go.Proofs.Tryz.f42 .root (fset (fset (fset f 0 (.str l_0 c_0)) 1 (.int .i64 n_1)) 2 (.int .i64 n_2)) h=s42_0 c k J l_0 c_0 n_1 n_2 h:=by kernel_rfl
theorem e42_1(J:J42)(n_1:Int)(n_2:Int)(n_12:Int)(n_13:Int):zqe c k q42 u42 (f42 J) d42 Go.Proofs.Tryz.f42 (.l (.r (.l (.r (.r .root))))) (fset (fset (fset (fset f 1 (.int .i64 n_1)) 2 (.int .i64 n_2)) 12 (.int .i64 n_12)) 13 (.int .i64 n_13)) h=s42_1 c k J n_1 n_2 (f 7) (f 11) n_12 n_13 h:=by kernel_rfl
theorem w42(hc:zqco c){n:Nat}{a:List AV}(hg:f42 (r42 c k n) 0 (finit a) h):zqs 42 a h k:=
 zqw hc q42 Go.Proofs.Tryz.func42 rfl (by kernel_rfl) (by kernel_rfl) k u42 (fun n=>f42 (r42 c k n)) (fun L _ _ hl=>match L,hl with
  |0,hl=>zqnS hl fun _ _ hl=>zqnI hl fun _ hl=>zqnI hl fun _ hl=>hl
  |1,hl=>zqnI hl fun _ hl=>zqnI hl fun _ hl=>zqnI hl fun _ hl=>zqnI hl fun _ hl=>hl
  |_+2,hl=>hl) (fun n=>⟨
  fun f h hl=>by
    refine zqrS 0 hl fun _ _ hl=>?_;refine zqrI 1 hl fun _ hl=>?_;refine zqrI 2 hl fun _ hl=>?_;exact Eq.mpr (e42_0 ..) hl,
  fun f h hl=>by
    refine zqrI 1 hl fun _ hl=>?_;refine zqrI 2 hl fun _ hl=>?_;refine zqrI 12 hl fun _ hl=>?_;refine zqrI 13 hl fun _ hl=>?_;exact Eq.mpr (e42_1 ..) hl,
  trivial⟩) rfl hg

theorem w44(hc:zqco c){m:Nat}{a:List AV}(hg:runJ env c q44 u44 d44 (retA env Go.Proofs.Tryz.f44.results.toList k) m 0 (finit a) h):zqs 44 a h k:=fnI_ok mixed envOk hc q44 Go.Proofs.Tryz.func44 rfl (by kernel_rfl) (by kernel_rfl) (by kernel_rfl) (by simp[u44]) hg
theorem w48(hc:zqco c){m:Nat}{a:List AV}(hg:runJ env c q48 u48 d48 (retA env Go.Proofs.Tryz.f48.results.toList k) m 0 (finit a) h):zqs 48 a h k:=fnI_ok mixed envOk hc q48 Go.Proofs.Tryz.func48 rfl (by kernel_rfl) (by kernel_rfl) (by kernel_rfl) (by simp[u48]) hg
theorem w52(hc:zqco c){m:Nat}{a:List AV}(hg:runJ env c q52 u52 d52 (retA env Go.Proofs.Tryz.f52.results.toList k) m 0 (finit a) h):zqs 52 a h k:=fnI_ok mixed envOk hc q52 Go.Proofs.Tryz.func52 rfl (by kernel_rfl) (by kernel_rfl) (by kernel_rfl) (by simp[u52]) hg
theorem e63_0(J:J63)(l_1:Nat)(c_1:Nat):zqe c k q63 u63 (f63 J) d63 Go.Proofs.Tryz.f63 .root (fset f 1 (.str l_1 c_1)) h=s63_0 c k J (f 0) l_1 c_1 h:=by kernel_rfl
theorem e63_1(J:J63)(l_1:Nat)(c_1:Nat)(n_4:Int):zqe c k q63 u63 (f63 J) d63 Go.Proofs.Tryz.f63 (.l (.r (.l .root))) (fset (fset f 1 (.str l_1 c_1)) 4 (.int .i64 n_4)) h=s63_1 c k J (f 0) l_1 c_1 n_4 h:=by kernel_rfl
theorem w63(hc:zqco c){n:Nat}{a:List AV}(hg:f63 (r63 c k n) 0 (finit a) h):zqs 63 a h k:=
 zqw hc q63 Go.Proofs.Tryz.func63 rfl (by kernel_rfl) (by kernel_rfl) k u63 (fun n=>f63 (r63 c k n)) (fun L _ _ hl=>match L,hl with
  |0,hl=>zqnS hl fun _ _ hl=>hl
  |1,hl=>zqnS hl fun _ _ hl=>zqnI hl fun _ hl=>hl
  |_+2,hl=>hl) (fun n=>⟨
  fun f h hl=>by
    refine zqrS 1 hl fun _ _ hl=>?_;exact Eq.mpr (e63_0 ..) hl,
  fun f h hl=>by
    refine zqrS 1 hl fun _ _ hl=>?_;refine zqrI 4 hl fun _ hl=>?_;exact Eq.mpr (e63_1 ..) hl,
  trivial⟩) rfl hg

theorem e66_0(J:J66):zqe c k q66 u66 (f66 J) d66 Go.Proofs.Tryz.f66 .root f h=s66_0 c k J (f 0) h:=by kernel_rfl
theorem w66(hc:zqco c){n:Nat}{a:List AV}(hg:f66 (r66 c k n) 0 (finit a) h):zqs 66 a h k:=
 zqw hc q66 Go.Proofs.Tryz.func66 rfl (by kernel_rfl) (by kernel_rfl) k u66 (fun n=>f66 (r66 c k n)) (fun L _ _ hl=>match L,hl with
  |0,hl=>hl
  |_+1,hl=>hl) (fun n=>⟨
  fun f h hl=>Eq.mpr (e66_0 ..) hl,
  trivial⟩) rfl hg

theorem w72(hc:zqco c){m:Nat}{a:List AV}(hg:runJ env c q72 u72 d72 (retA env Go.Proofs.Tryz.f72.results.toList k) m 0 (finit a) h):zqs 72 a h k:=fnI_ok mixed envOk hc q72 Go.Proofs.Tryz.func72 rfl (by kernel_rfl) (by kernel_rfl) (by kernel_rfl) (by simp[u72]) hg
theorem w76(hc:zqco c){m:Nat}{a:List AV}(hg:runJ env c q76 u76 d76 (retA env Go.Proofs.Tryz.f76.results.toList k) m 0 (finit a) h):zqs 76 a h k:=fnI_ok mixed envOk hc q76 Go.Proofs.Tryz.func76 rfl (by kernel_rfl) (by kernel_rfl) (by kernel_rfl) (by simp[u76]) hg
theorem w80(hc:zqco c){m:Nat}{a:List AV}(hg:runJ env c q80 u80 d80 (retA env Go.Proofs.Tryz.f80.results.toList k) m 0 (finit a) h):zqs 80 a h k:=fnI_ok mixed envOk hc q80 Go.Proofs.Tryz.func80 rfl (by kernel_rfl) (by kernel_rfl) (by kernel_rfl) (by simp[u80]) hg
theorem e84_0(J:J84):zqe c k q84 u84 (f84 J) d84 Go.Proofs.Tryz.f84 .root f h=s84_0 c k J (f 0) (f 1) h:=by kernel_rfl
theorem w84(hc:zqco c){n:Nat}{a:List AV}(hg:f84 (r84 c k n) 0 (finit a) h):zqs 84 a h k:=
 zqw hc q84 Go.Proofs.Tryz.func84 rfl (by kernel_rfl) (by kernel_rfl) k u84 (fun n=>f84 (r84 c k n)) (fun L _ _ hl=>match L,hl with
  |0,hl=>hl
  |_+1,hl=>hl) (fun n=>⟨
  fun f h hl=>Eq.mpr (e84_0 ..) hl,
  trivial⟩) rfl hg

theorem e86_0(J:J86)(l_0:Nat)(c_0:Nat)(n_1:Int):zqe c k q86 u86 (f86 J) d86 Go.Proofs.Tryz.f86 .root (fset (fset f 0 (.str l_0 c_0)) 1 (.int .i64 n_1)) h=s86_0 c k J l_0 c_0 n_1 h:=by kernel_rfl
theorem e86_1(J:J86)(l_0:Nat)(c_0:Nat)(n_1:Int):zqe c k q86 u86 (f86 J) d86 Go.Proofs.Tryz.f86 (.r (.r .root)) (fset (fset f 0 (.str l_0 c_0)) 1 (.int .i64 n_1)) h=s86_1 c k J l_0 c_0 n_1 (f 4) h:=by kernel_rfl
theorem w86(hc:zqco c){n:Nat}{a:List AV}(hg:f86 (r86 c k n) 0 (finit a) h):zqs 86 a h k:=
 zqw hc q86 Go.Proofs.Tryz.func86 rfl (by kernel_rfl) (by kernel_rfl) k u86 (fun n=>f86 (r86 c k n)) (fun L _ _ hl=>match L,hl with
  |0,hl=>zqnS hl fun _ _ hl=>zqnI hl fun _ hl=>hl
  |1,hl=>zqnS hl fun _ _ hl=>zqnI hl fun _ hl=>hl
  |_+2,hl=>hl) (fun n=>⟨
  fun f h hl=>by
    refine zqrS 0 hl fun _ _ hl=>?_;refine zqrI 1 hl fun _ hl=>?_;exact Eq.mpr (e86_0 ..) hl,
  fun f h hl=>by
    refine zqrS 0 hl fun _ _ hl=>?_;refine zqrI 1 hl fun _ hl=>?_;exact Eq.mpr (e86_1 ..) hl,
  trivial⟩) rfl hg

theorem w92(hc:zqco c){m:Nat}{a:List AV}(hg:runJ env c q92 u92 d92 (retA env Go.Proofs.Tryz.f92.results.toList k) m 0 (finit a) h):zqs 92 a h k:=fnI_ok mixed envOk hc q92 Go.Proofs.Tryz.func92 rfl (by kernel_rfl) (by kernel_rfl) (by kernel_rfl) (by simp[u92]) hg
theorem w96(hc:zqco c){m:Nat}{a:List AV}(hg:runJ env c q96 u96 d96 (retA env Go.Proofs.Tryz.f96.results.toList k) m 0 (finit a) h):zqs 96 a h k:=fnI_ok mixed envOk hc q96 Go.Proofs.Tryz.func96 rfl (by kernel_rfl) (by kernel_rfl) (by kernel_rfl) (by simp[u96]) hg
theorem w100(hc:zqco c){m:Nat}{a:List AV}(hg:runJ env c q100 u100 d100 (retA env Go.Proofs.Tryz.f100.results.toList k) m 0 (finit a) h):zqs 100 a h k:=fnI_ok mixed envOk hc q100 Go.Proofs.Tryz.func100 rfl (by kernel_rfl) (by kernel_rfl) (by kernel_rfl) (by simp[u100]) hg
theorem w102(hc:zqco c){m:Nat}{a:List AV}(hg:runJ env c q102 u102 d102 (retA env Go.Proofs.Tryz.f102.results.toList k) m 0 (finit a) h):zqs 102 a h k:=fnI_ok mixed envOk hc q102 Go.Proofs.Tryz.func102 rfl (by kernel_rfl) (by kernel_rfl) (by kernel_rfl) (by simp[u102]) hg
theorem e105_0(J:J105):zqe c k q105 u105 (f105 J) d105 Go.Proofs.Tryz.f105 .root f h=s105_0 c k J (f 0) (f 1) (f 2) (f 3) h:=by kernel_rfl
theorem e105_1(J:J105):zqe c k q105 u105 (f105 J) d105 Go.Proofs.Tryz.f105 (.l (.l (.l (.r (.l .root))))) f h=s105_1 c k J (f 0) (f 2) h:=by kernel_rfl
theorem e105_2(J:J105):zqe c k q105 u105 (f105 J) d105 Go.Proofs.Tryz.f105 (.l (.l (.r .root))) f h=s105_2 c k J (f 0) (f 1) (f 2) (f 3) h:=by kernel_rfl
theorem w105(hc:zqco c){n:Nat}{a:List AV}(hg:f105 (r105 c k n) 0 (finit a) h):zqs 105 a h k:=
 zqw hc q105 Go.Proofs.Tryz.func105 rfl (by kernel_rfl) (by kernel_rfl) k u105 (fun n=>f105 (r105 c k n)) (fun L _ _ hl=>match L,hl with
  |0,hl=>hl
  |1,hl=>hl
  |2,hl=>hl
  |_+3,hl=>hl) (fun n=>⟨
  fun f h hl=>Eq.mpr (e105_0 ..) hl,
  fun f h hl=>Eq.mpr (e105_1 ..) hl,
  fun f h hl=>Eq.mpr (e105_2 ..) hl,
  trivial⟩) rfl hg

theorem e108_0(J:J108):zqe c k q108 u108 (f108 J) d108 Go.Proofs.Tryz.f108 .root f h=s108_0 c k J (f 0) h:=by kernel_rfl
theorem w108(hc:zqco c){n:Nat}{a:List AV}(hg:f108 (r108 c k n) 0 (finit a) h):zqs 108 a h k:=
 zqw hc q108 Go.Proofs.Tryz.func108 rfl (by kernel_rfl) (by kernel_rfl) k u108 (fun n=>f108 (r108 c k n)) (fun L _ _ hl=>match L,hl with
  |0,hl=>hl
  |_+1,hl=>hl) (fun n=>⟨
  fun f h hl=>Eq.mpr (e108_0 ..) hl,
  trivial⟩) rfl hg

theorem e110_0(J:J110)(l_0:Nat)(c_0:Nat)(l_1:Nat)(c_1:Nat):zqe c k q110 u110 (f110 J) d110 Go.Proofs.Tryz.f110 .root (fset (fset f 0 (.str l_0 c_0)) 1 (.str l_1 c_1)) h=s110_0 c k J l_0 c_0 l_1 c_1 h:=by kernel_rfl
theorem w110(hc:zqco c){n:Nat}{a:List AV}(hg:f110 (r110 c k n) 0 (finit a) h):zqs 110 a h k:=
 zqw hc q110 Go.Proofs.Tryz.func110 rfl (by kernel_rfl) (by kernel_rfl) k u110 (fun n=>f110 (r110 c k n)) (fun L _ _ hl=>match L,hl with
  |0,hl=>zqnS hl fun _ _ hl=>zqnS hl fun _ _ hl=>hl
  |_+1,hl=>hl) (fun n=>⟨
  fun f h hl=>by
    refine zqrS 0 hl fun _ _ hl=>?_;refine zqrS 1 hl fun _ _ hl=>?_;exact Eq.mpr (e110_0 ..) hl,
  trivial⟩) rfl hg

theorem e111_0(J:J111)(n_0:Int):zqe c k q111 u111 (f111 J) d111 Go.Proofs.Tryz.f111 .root (fset f 0 (.int .u8 n_0)) h=s111_0 c k J n_0 h:=by kernel_rfl
theorem w111(hc:zqco c){n:Nat}{a:List AV}(hg:f111 (r111 c k n) 0 (finit a) h):zqs 111 a h k:=
 zqw hc q111 Go.Proofs.Tryz.func111 rfl (by kernel_rfl) (by kernel_rfl) k u111 (fun n=>f111 (r111 c k n)) (fun L _ _ hl=>match L,hl with
  |0,hl=>zqnI hl fun _ hl=>hl
  |_+1,hl=>hl) (fun n=>⟨
  fun f h hl=>by
    refine zqrI 0 hl fun _ hl=>?_;exact Eq.mpr (e111_0 ..) hl,
  trivial⟩) rfl hg

theorem w113(hc:zqco c){m:Nat}{a:List AV}(hg:runJ env c q113 u113 d113 (retA env Go.Proofs.Tryz.f113.results.toList k) m 0 (finit a) h):zqs 113 a h k:=fnI_ok mixed envOk hc q113 Go.Proofs.Tryz.func113 rfl (by kernel_rfl) (by kernel_rfl) (by kernel_rfl) (by simp[u113]) hg
theorem w117(hc:zqco c){m:Nat}{a:List AV}(hg:runJ env c q117 u117 d117 (retA env Go.Proofs.Tryz.f117.results.toList k) m 0 (finit a) h):zqs 117 a h k:=fnI_ok mixed envOk hc q117 Go.Proofs.Tryz.func117 rfl (by kernel_rfl) (by kernel_rfl) (by kernel_rfl) (by simp[u117]) hg
theorem w122(hc:zqco c){m:Nat}{a:List AV}(hg:runJ env c q122 u122 d122 (retA env Go.Proofs.Tryz.f122.results.toList k) m 0 (finit a) h):zqs 122 a h k:=fnI_ok mixed envOk hc q122 Go.Proofs.Tryz.func122 rfl (by kernel_rfl) (by kernel_rfl) (by kernel_rfl) (by simp[u122]) hg
theorem w126(hc:zqco c){m:Nat}{a:List AV}(hg:runJ env c q126 u126 d126 (retA env Go.Proofs.Tryz.f126.results.toList k) m 0 (finit a) h):zqs 126 a h k:=fnI_ok mixed envOk hc q126 Go.Proofs.Tryz.func126 rfl (by kernel_rfl) (by kernel_rfl) (by kernel_rfl) (by simp[u126]) hg
theorem w130(hc:zqco c){m:Nat}{a:List AV}(hg:runJ env c q130 u130 d130 (retA env Go.Proofs.Tryz.f130.results.toList k) m 0 (finit a) h):zqs 130 a h k:=fnI_ok mixed envOk hc q130 Go.Proofs.Tryz.func130 rfl (by kernel_rfl) (by kernel_rfl) (by kernel_rfl) (by simp[u130]) hg
theorem w134(hc:zqco c){m:Nat}{a:List AV}(hg:runJ env c q134 u134 d134 (retA env Go.Proofs.Tryz.f134.results.toList k) m 0 (finit a) h):zqs 134 a h k:=fnI_ok mixed envOk hc q134 Go.Proofs.Tryz.func134 rfl (by kernel_rfl) (by kernel_rfl) (by kernel_rfl) (by simp[u134]) hg
theorem w138(hc:zqco c){m:Nat}{a:List AV}(hg:runJ env c q138 u138 d138 (retA env Go.Proofs.Tryz.f138.results.toList k) m 0 (finit a) h):zqs 138 a h k:=fnI_ok mixed envOk hc q138 Go.Proofs.Tryz.func138 rfl (by kernel_rfl) (by kernel_rfl) (by kernel_rfl) (by simp[u138]) hg
theorem w142(hc:zqco c){m:Nat}{a:List AV}(hg:runJ env c q142 u142 d142 (retA env Go.Proofs.Tryz.f142.results.toList k) m 0 (finit a) h):zqs 142 a h k:=fnI_ok mixed envOk hc q142 Go.Proofs.Tryz.func142 rfl (by kernel_rfl) (by kernel_rfl) (by kernel_rfl) (by simp[u142]) hg
theorem w146(hc:zqco c){m:Nat}{a:List AV}(hg:runJ env c q146 u146 d146 (retA env Go.Proofs.Tryz.f146.results.toList k) m 0 (finit a) h):zqs 146 a h k:=fnI_ok mixed envOk hc q146 Go.Proofs.Tryz.func146 rfl (by kernel_rfl) (by kernel_rfl) (by kernel_rfl) (by simp[u146]) hg
theorem w150(hc:zqco c){m:Nat}{a:List AV}(hg:runJ env c q150 u150 d150 (retA env Go.Proofs.Tryz.f150.results.toList k) m 0 (finit a) h):zqs 150 a h k:=fnI_ok mixed envOk hc q150 Go.Proofs.Tryz.func150 rfl (by kernel_rfl) (by kernel_rfl) (by kernel_rfl) (by simp[u150]) hg
theorem e155_0(J:J155)(l_0:Nat)(c_0:Nat)(n_1:Int):zqe c k q155 u155 (f155 J) d155 Go.Proofs.Tryz.f155 .root (fset (fset f 0 (.str l_0 c_0)) 1 (.int .u8 n_1)) h=s155_0 c k J l_0 c_0 n_1 h:=by kernel_rfl
theorem w155(hc:zqco c){n:Nat}{a:List AV}(hg:f155 (r155 c k n) 0 (finit a) h):zqs 155 a h k:=
 zqw hc q155 Go.Proofs.Tryz.func155 rfl (by kernel_rfl) (by kernel_rfl) k u155 (fun n=>f155 (r155 c k n)) (fun L _ _ hl=>match L,hl with
  |0,hl=>zqnS hl fun _ _ hl=>zqnI hl fun _ hl=>hl
  |_+1,hl=>hl) (fun n=>⟨
  fun f h hl=>by
    refine zqrS 0 hl fun _ _ hl=>?_;refine zqrI 1 hl fun _ hl=>?_;exact Eq.mpr (e155_0 ..) hl,
  trivial⟩) rfl hg

theorem w157(hc:zqco c){m:Nat}{a:List AV}(hg:runJ env c q157 u157 d157 (retA env Go.Proofs.Tryz.f157.results.toList k) m 0 (finit a) h):zqs 157 a h k:=fnI_ok mixed envOk hc q157 Go.Proofs.Tryz.func157 rfl (by kernel_rfl) (by kernel_rfl) (by kernel_rfl) (by simp[u157]) hg
theorem w161(hc:zqco c){m:Nat}{a:List AV}(hg:runJ env c q161 u161 d161 (retA env Go.Proofs.Tryz.f161.results.toList k) m 0 (finit a) h):zqs 161 a h k:=fnI_ok mixed envOk hc q161 Go.Proofs.Tryz.func161 rfl (by kernel_rfl) (by kernel_rfl) (by kernel_rfl) (by simp[u161]) hg
theorem w165(hc:zqco c){m:Nat}{a:List AV}(hg:runJ env c q165 u165 d165 (retA env Go.Proofs.Tryz.f165.results.toList k) m 0 (finit a) h):zqs 165 a h k:=fnI_ok mixed envOk hc q165 Go.Proofs.Tryz.func165 rfl (by kernel_rfl) (by kernel_rfl) (by kernel_rfl) (by simp[u165]) hg
theorem w170(hc:zqco c){m:Nat}{a:List AV}(hg:runJ env c q170 u170 d170 (retA env Go.Proofs.Tryz.f170.results.toList k) m 0 (finit a) h):zqs 170 a h k:=fnI_ok mixed envOk hc q170 Go.Proofs.Tryz.func170 rfl (by kernel_rfl) (by kernel_rfl) (by kernel_rfl) (by simp[u170]) hg
theorem w174(hc:zqco c){m:Nat}{a:List AV}(hg:runJ env c q174 u174 d174 (retA env Go.Proofs.Tryz.f174.results.toList k) m 0 (finit a) h):zqs 174 a h k:=fnI_ok mixed envOk hc q174 Go.Proofs.Tryz.func174 rfl (by kernel_rfl) (by kernel_rfl) (by kernel_rfl) (by simp[u174]) hg
theorem w178(hc:zqco c){m:Nat}{a:List AV}(hg:runJ env c q178 u178 d178 (retA env Go.Proofs.Tryz.f178.results.toList k) m 0 (finit a) h):zqs 178 a h k:=fnI_ok mixed envOk hc q178 Go.Proofs.Tryz.func178 rfl (by kernel_rfl) (by kernel_rfl) (by kernel_rfl) (by simp[u178]) hg
theorem w182(hc:zqco c){m:Nat}{a:List AV}(hg:runJ env c q182 u182 d182 (retA env Go.Proofs.Tryz.f182.results.toList k) m 0 (finit a) h):zqs 182 a h k:=fnI_ok mixed envOk hc q182 Go.Proofs.Tryz.func182 rfl (by kernel_rfl) (by kernel_rfl) (by kernel_rfl) (by simp[u182]) hg
theorem w187(hc:zqco c){m:Nat}{a:List AV}(hg:runJ env c q187 u187 d187 (retA env Go.Proofs.Tryz.f187.results.toList k) m 0 (finit a) h):zqs 187 a h k:=fnI_ok mixed envOk hc q187 Go.Proofs.Tryz.func187 rfl (by kernel_rfl) (by kernel_rfl) (by kernel_rfl) (by simp[u187]) hg
theorem w191(hc:zqco c){m:Nat}{a:List AV}(hg:runJ env c q191 u191 d191 (retA env Go.Proofs.Tryz.f191.results.toList k) m 0 (finit a) h):zqs 191 a h k:=fnI_ok mixed envOk hc q191 Go.Proofs.Tryz.func191 rfl (by kernel_rfl) (by kernel_rfl) (by kernel_rfl) (by simp[u191]) hg
theorem w195(hc:zqco c){m:Nat}{a:List AV}(hg:runJ env c q195 u195 d195 (retA env Go.Proofs.Tryz.f195.results.toList k) m 0 (finit a) h):zqs 195 a h k:=fnI_ok mixed envOk hc q195 Go.Proofs.Tryz.func195 rfl (by kernel_rfl) (by kernel_rfl) (by kernel_rfl) (by simp[u195]) hg
theorem w202(hc:zqco c){m:Nat}{a:List AV}(hg:runJ env c q202 u202 d202 (retA env Go.Proofs.Tryz.f202.results.toList k) m 0 (finit a) h):zqs 202 a h k:=fnI_ok mixed envOk hc q202 Go.Proofs.Tryz.func202 rfl (by kernel_rfl) (by kernel_rfl) (by kernel_rfl) (by simp[u202]) hg
theorem w206(hc:zqco c){m:Nat}{a:List AV}(hg:runJ env c q206 u206 d206 (retA env Go.Proofs.Tryz.f206.results.toList k) m 0 (finit a) h):zqs 206 a h k:=fnI_ok mixed envOk hc q206 Go.Proofs.Tryz.func206 rfl (by kernel_rfl) (by kernel_rfl) (by kernel_rfl) (by simp[u206]) hg
theorem w210(hc:zqco c){m:Nat}{a:List AV}(hg:runJ env c q210 u210 d210 (retA env Go.Proofs.Tryz.f210.results.toList k) m 0 (finit a) h):zqs 210 a h k:=fnI_ok mixed envOk hc q210 Go.Proofs.Tryz.func210 rfl (by kernel_rfl) (by kernel_rfl) (by kernel_rfl) (by simp[u210]) hg
theorem w214(hc:zqco c){m:Nat}{a:List AV}(hg:runJ env c q214 u214 d214 (retA env Go.Proofs.Tryz.f214.results.toList k) m 0 (finit a) h):zqs 214 a h k:=fnI_ok mixed envOk hc q214 Go.Proofs.Tryz.func214 rfl (by kernel_rfl) (by kernel_rfl) (by kernel_rfl) (by simp[u214]) hg
theorem w218(hc:zqco c){m:Nat}{a:List AV}(hg:runJ env c q218 u218 d218 (retA env Go.Proofs.Tryz.f218.results.toList k) m 0 (finit a) h):zqs 218 a h k:=fnI_ok mixed envOk hc q218 Go.Proofs.Tryz.func218 rfl (by kernel_rfl) (by kernel_rfl) (by kernel_rfl) (by simp[u218]) hg
theorem w222(hc:zqco c){m:Nat}{a:List AV}(hg:runJ env c q222 u222 d222 (retA env Go.Proofs.Tryz.f222.results.toList k) m 0 (finit a) h):zqs 222 a h k:=fnI_ok mixed envOk hc q222 Go.Proofs.Tryz.func222 rfl (by kernel_rfl) (by kernel_rfl) (by kernel_rfl) (by simp[u222]) hg
theorem w226(hc:zqco c){m:Nat}{a:List AV}(hg:runJ env c q226 u226 d226 (retA env Go.Proofs.Tryz.f226.results.toList k) m 0 (finit a) h):zqs 226 a h k:=fnI_ok mixed envOk hc q226 Go.Proofs.Tryz.func226 rfl (by kernel_rfl) (by kernel_rfl) (by kernel_rfl) (by simp[u226]) hg
theorem w234(hc:zqco c){m:Nat}{a:List AV}(hg:runJ env c q234 u234 d234 (retA env Go.Proofs.Tryz.f234.results.toList k) m 0 (finit a) h):zqs 234 a h k:=fnI_ok mixed envOk hc q234 Go.Proofs.Tryz.func234 rfl (by kernel_rfl) (by kernel_rfl) (by kernel_rfl) (by simp[u234]) hg
theorem w238(hc:zqco c){m:Nat}{a:List AV}(hg:runJ env c q238 u238 d238 (retA env Go.Proofs.Tryz.f238.results.toList k) m 0 (finit a) h):zqs 238 a h k:=fnI_ok mixed envOk hc q238 Go.Proofs.Tryz.func238 rfl (by kernel_rfl) (by kernel_rfl) (by kernel_rfl) (by simp[u238]) hg
theorem w242(hc:zqco c){m:Nat}{a:List AV}(hg:runJ env c q242 u242 d242 (retA env Go.Proofs.Tryz.f242.results.toList k) m 0 (finit a) h):zqs 242 a h k:=fnI_ok mixed envOk hc q242 Go.Proofs.Tryz.func242 rfl (by kernel_rfl) (by kernel_rfl) (by kernel_rfl) (by simp[u242]) hg
theorem w246(hc:zqco c){m:Nat}{a:List AV}(hg:runJ env c q246 u246 d246 (retA env Go.Proofs.Tryz.f246.results.toList k) m 0 (finit a) h):zqs 246 a h k:=fnI_ok mixed envOk hc q246 Go.Proofs.Tryz.func246 rfl (by kernel_rfl) (by kernel_rfl) (by kernel_rfl) (by simp[u246]) hg
theorem w252(hc:zqco c){m:Nat}{a:List AV}(hg:runJ env c q252 u252 d252 (retA env Go.Proofs.Tryz.f252.results.toList k) m 0 (finit a) h):zqs 252 a h k:=fnI_ok mixed envOk hc q252 Go.Proofs.Tryz.func252 rfl (by kernel_rfl) (by kernel_rfl) (by kernel_rfl) (by simp[u252]) hg
theorem w257(hc:zqco c){m:Nat}{a:List AV}(hg:runJ env c q257 u257 d257 (retA env Go.Proofs.Tryz.f257.results.toList k) m 0 (finit a) h):zqs 257 a h k:=fnI_ok mixed envOk hc q257 Go.Proofs.Tryz.func257 rfl (by kernel_rfl) (by kernel_rfl) (by kernel_rfl) (by simp[u257]) hg
theorem w262(hc:zqco c){m:Nat}{a:List AV}(hg:runJ env c q262 u262 d262 (retA env Go.Proofs.Tryz.f262.results.toList k) m 0 (finit a) h):zqs 262 a h k:=fnI_ok mixed envOk hc q262 Go.Proofs.Tryz.func262 rfl (by kernel_rfl) (by kernel_rfl) (by kernel_rfl) (by simp[u262]) hg
theorem w267(hc:zqco c){m:Nat}{a:List AV}(hg:runJ env c q267 u267 d267 (retA env Go.Proofs.Tryz.f267.results.toList k) m 0 (finit a) h):zqs 267 a h k:=fnI_ok mixed envOk hc q267 Go.Proofs.Tryz.func267 rfl (by kernel_rfl) (by kernel_rfl) (by kernel_rfl) (by simp[u267]) hg
theorem w271(hc:zqco c){m:Nat}{a:List AV}(hg:runJ env c q271 u271 d271 (retA env Go.Proofs.Tryz.f271.results.toList k) m 0 (finit a) h):zqs 271 a h k:=fnI_ok mixed envOk hc q271 Go.Proofs.Tryz.func271 rfl (by kernel_rfl) (by kernel_rfl) (by kernel_rfl) (by simp[u271]) hg
theorem w275(hc:zqco c){m:Nat}{a:List AV}(hg:runJ env c q275 u275 d275 (retA env Go.Proofs.Tryz.f275.results.toList k) m 0 (finit a) h):zqs 275 a h k:=fnI_ok mixed envOk hc q275 Go.Proofs.Tryz.func275 rfl (by kernel_rfl) (by kernel_rfl) (by kernel_rfl) (by simp[u275]) hg
theorem w279(hc:zqco c){m:Nat}{a:List AV}(hg:runJ env c q279 u279 d279 (retA env Go.Proofs.Tryz.f279.results.toList k) m 0 (finit a) h):zqs 279 a h k:=fnI_ok mixed envOk hc q279 Go.Proofs.Tryz.func279 rfl (by kernel_rfl) (by kernel_rfl) (by kernel_rfl) (by simp[u279]) hg
theorem w290(hc:zqco c){m:Nat}{a:List AV}(hg:runJ env c q290 u290 d290 (retA env Go.Proofs.Tryz.f290.results.toList k) m 0 (finit a) h):zqs 290 a h k:=fnI_ok mixed envOk hc q290 Go.Proofs.Tryz.func290 rfl (by kernel_rfl) (by kernel_rfl) (by kernel_rfl) (by simp[u290]) hg
theorem w294(hc:zqco c){m:Nat}{a:List AV}(hg:runJ env c q294 u294 d294 (retA env Go.Proofs.Tryz.f294.results.toList k) m 0 (finit a) h):zqs 294 a h k:=fnI_ok mixed envOk hc q294 Go.Proofs.Tryz.func294 rfl (by kernel_rfl) (by kernel_rfl) (by kernel_rfl) (by simp[u294]) hg
theorem w298(hc:zqco c){m:Nat}{a:List AV}(hg:runJ env c q298 u298 d298 (retA env Go.Proofs.Tryz.f298.results.toList k) m 0 (finit a) h):zqs 298 a h k:=fnI_ok mixed envOk hc q298 Go.Proofs.Tryz.func298 rfl (by kernel_rfl) (by kernel_rfl) (by kernel_rfl) (by simp[u298]) hg
theorem w304(hc:zqco c){m:Nat}{a:List AV}(hg:runJ env c q304 u304 d304 (retA env Go.Proofs.Tryz.f304.results.toList k) m 0 (finit a) h):zqs 304 a h k:=fnI_ok mixed envOk hc q304 Go.Proofs.Tryz.func304 rfl (by kernel_rfl) (by kernel_rfl) (by kernel_rfl) (by simp[u304]) hg
theorem w309(hc:zqco c){m:Nat}{a:List AV}(hg:runJ env c q309 u309 d309 (retA env Go.Proofs.Tryz.f309.results.toList k) m 0 (finit a) h):zqs 309 a h k:=fnI_ok mixed envOk hc q309 Go.Proofs.Tryz.func309 rfl (by kernel_rfl) (by kernel_rfl) (by kernel_rfl) (by simp[u309]) hg
theorem w322(hc:zqco c){m:Nat}{a:List AV}(hg:runJ env c q322 u322 d322 (retA env Go.Proofs.Tryz.f322.results.toList k) m 0 (finit a) h):zqs 322 a h k:=fnI_ok mixed envOk hc q322 Go.Proofs.Tryz.func322 rfl (by kernel_rfl) (by kernel_rfl) (by kernel_rfl) (by simp[u322]) hg
theorem w326(hc:zqco c){m:Nat}{a:List AV}(hg:runJ env c q326 u326 d326 (retA env Go.Proofs.Tryz.f326.results.toList k) m 0 (finit a) h):zqs 326 a h k:=fnI_ok mixed envOk hc q326 Go.Proofs.Tryz.func326 rfl (by kernel_rfl) (by kernel_rfl) (by kernel_rfl) (by simp[u326]) hg
theorem w331(hc:zqco c){m:Nat}{a:List AV}(hg:runJ env c q331 u331 d331 (retA env Go.Proofs.Tryz.f331.results.toList k) m 0 (finit a) h):zqs 331 a h k:=fnI_ok mixed envOk hc q331 Go.Proofs.Tryz.func331 rfl (by kernel_rfl) (by kernel_rfl) (by kernel_rfl) (by simp[u331]) hg
theorem w335(hc:zqco c){m:Nat}{a:List AV}(hg:runJ env c q335 u335 d335 (retA env Go.Proofs.Tryz.f335.results.toList k) m 0 (finit a) h):zqs 335 a h k:=fnI_ok mixed envOk hc q335 Go.Proofs.Tryz.func335 rfl (by kernel_rfl) (by kernel_rfl) (by kernel_rfl) (by simp[u335]) hg
theorem w340(hc:zqco c){m:Nat}{a:List AV}(hg:runJ env c q340 u340 d340 (retA env Go.Proofs.Tryz.f340.results.toList k) m 0 (finit a) h):zqs 340 a h k:=fnI_ok mixed envOk hc q340 Go.Proofs.Tryz.func340 rfl (by kernel_rfl) (by kernel_rfl) (by kernel_rfl) (by simp[u340]) hg
theorem w346(hc:zqco c){m:Nat}{a:List AV}(hg:runJ env c q346 u346 d346 (retA env Go.Proofs.Tryz.f346.results.toList k) m 0 (finit a) h):zqs 346 a h k:=fnI_ok mixed envOk hc q346 Go.Proofs.Tryz.func346 rfl (by kernel_rfl) (by kernel_rfl) (by kernel_rfl) (by simp[u346]) hg
theorem w350(hc:zqco c){m:Nat}{a:List AV}(hg:runJ env c q350 u350 d350 (retA env Go.Proofs.Tryz.f350.results.toList k) m 0 (finit a) h):zqs 350 a h k:=fnI_ok mixed envOk hc q350 Go.Proofs.Tryz.func350 rfl (by kernel_rfl) (by kernel_rfl) (by kernel_rfl) (by simp[u350]) hg
theorem w355(hc:zqco c){m:Nat}{a:List AV}(hg:runJ env c q355 u355 d355 (retA env Go.Proofs.Tryz.f355.results.toList k) m 0 (finit a) h):zqs 355 a h k:=fnI_ok mixed envOk hc q355 Go.Proofs.Tryz.func355 rfl (by kernel_rfl) (by kernel_rfl) (by kernel_rfl) (by simp[u355]) hg
theorem w360(hc:zqco c){m:Nat}{a:List AV}(hg:runJ env c q360 u360 d360 (retA env Go.Proofs.Tryz.f360.results.toList k) m 0 (finit a) h):zqs 360 a h k:=fnI_ok mixed envOk hc q360 Go.Proofs.Tryz.func360 rfl (by kernel_rfl) (by kernel_rfl) (by kernel_rfl) (by simp[u360]) hg
theorem w364(hc:zqco c){m:Nat}{a:List AV}(hg:runJ env c q364 u364 d364 (retA env Go.Proofs.Tryz.f364.results.toList k) m 0 (finit a) h):zqs 364 a h k:=fnI_ok mixed envOk hc q364 Go.Proofs.Tryz.func364 rfl (by kernel_rfl) (by kernel_rfl) (by kernel_rfl) (by simp[u364]) hg
end Go.Den
