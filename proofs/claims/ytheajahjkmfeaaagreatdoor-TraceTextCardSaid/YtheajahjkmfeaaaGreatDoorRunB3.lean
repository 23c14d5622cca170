/-
 Proof. the pieces are what the program Aja.
-/
import Derived.Test.YtheajahjkmfeaaaGreatDoorRunA1
import Derived.KernelRfl
namespace Go.Den
open Go.Proofs
set_option maxRecDepth 100000
variable{c:CF}{k:KV}{f:FT}{h:H}
theorem Bol(J:J3)(l_0 c_0:Nat):zqe c k q3 u3 (f3 J) d3 Tryz.f3 .root (Ao f 0 (.str l_0 c_0)) h=Az2 c k J l_0 c_0 h:=by kernel_rfl
theorem Bok(J:J3)(l_0 c_0:Nat)(n_3:Int):zqe c k q3 u3 (f3 J) d3 Tryz.f3 (.l (.r (.l (.r (.r .root))))) (Ao (Ao f 0 (.str l_0 c_0)) 3 (.int .i64 n_3)) h=Ath c k J l_0 c_0 n_3 h:=by kernel_rfl
theorem Boj(J:J3)(l_0 c_0:Nat)(n_8 n_9:Int):zqe c k q3 u3 (f3 J) d3 Tryz.f3 (.l (.r (.l (.r (.r (.r (.r (.r (.r (.r .root)))))))))) (Ao (Ao (Ao f 0 (.str l_0 c_0)) 8 (.int .i64 n_8)) 9 (.int .i64 n_9)) h=Atg c k J l_0 c_0 (f 7) n_8 n_9 h:=by kernel_rfl
theorem Boi(J:J3)(l_0 c_0:Nat)(n_8 n_9:Int):zqe c k q3 u3 (f3 J) d3 Tryz.f3 (.l (.l (.r (.l (.l (.r (.l (.l (.r (.l (.r (.r (.r (.r (.r (.r (.r .root))))))))))))))))) (Ao (Ao (Ao f 0 (.str l_0 c_0)) 8 (.int .i64 n_8)) 9 (.int .i64 n_9)) h=Atf c k J l_0 c_0 (f 7) n_8 n_9 (f 10) h:=by kernel_rfl
theorem Boh(J:J3)(l_0 c_0:Nat)(n_8 n_9:Int):zqe c k q3 u3 (f3 J) d3 Tryz.f3 (.r (.r (.l (.l (.r (.l (.r (.r (.r (.r (.r (.r (.r .root))))))))))))) (Ao (Ao (Ao f 0 (.str l_0 c_0)) 8 (.int .i64 n_8)) 9 (.int .i64 n_9)) h=Az1 c k J l_0 c_0 (f 7) n_8 n_9 h:=by kernel_rfl
theorem w3(hc:Bi c){n:Nat}{a:List AV}(hg:f3 (r3 c k n) 0 (Ab a) h):zqs 3 a h k:=
 zqw hc q3 Tryz.func3 rfl (by kernel_rfl) (by kernel_rfl) k u3 (fun n=>f3 (r3 c k n)) (fun L _ _ hl=>match L,hl with
  |0,hl=>Dl hl fun _ _ hl=>hl
  |1,hl=>Dl hl fun _ _ hl=>Bz hl fun _ hl=>hl
  |2,hl=>Dl hl fun _ _ hl=>Bz hl fun _ hl=>Bz hl fun _ hl=>hl
  |3,hl=>Dl hl fun _ _ hl=>Bz hl fun _ hl=>Bz hl fun _ hl=>hl
  |4,hl=>Dl hl fun _ _ hl=>Bz hl fun _ hl=>Bz hl fun _ hl=>hl
  |_+5,hl=>hl) (fun n=>⟨
  fun f h hl=>by
    refine Dk 0 hl fun _ _ hl=>?_;exact Eq.mpr (Bol ..) hl,
  fun f h hl=>by
    refine Dk 0 hl fun _ _ hl=>?_;refine By 3 hl fun _ hl=>?_;exact Eq.mpr (Bok ..) hl,
  fun f h hl=>by
    refine Dk 0 hl fun _ _ hl=>?_;refine By 8 hl fun _ hl=>?_;refine By 9 hl fun _ hl=>?_;exact Eq.mpr (Boj ..) hl,
  fun f h hl=>by
    refine Dk 0 hl fun _ _ hl=>?_;refine By 8 hl fun _ hl=>?_;refine By 9 hl fun _ hl=>?_;exact Eq.mpr (Boi ..) hl,
  fun f h hl=>by
    refine Dk 0 hl fun _ _ hl=>?_;refine By 8 hl fun _ hl=>?_;refine By 9 hl fun _ hl=>?_;exact Eq.mpr (Boh ..) hl,
  trivial⟩) rfl hg
theorem Bod(J:J7):zqe c k q7 u7 (f7 J) d7 Tryz.f7 .root f h=Azx c k J (f 0) (f 1) h:=by kernel_rfl
theorem Boc(J:J7)(n_10 n_11:Int):zqe c k q7 u7 (f7 J) d7 Tryz.f7 (.l (.r (.l (.r .root)))) (Ao (Ao f 10 (.int .i64 n_10)) 11 (.int .i64 n_11)) h=Azw c k J (f 3) (f 4) (f 9) n_10 n_11 h:=by kernel_rfl
theorem w7(hc:Bi c){n:Nat}{a:List AV}(hg:f7 (r7 c k n) 0 (Ab a) h):zqs 7 a h k:=
 zqw hc q7 Tryz.func7 rfl (by kernel_rfl) (by kernel_rfl) k u7 (fun n=>f7 (r7 c k n)) (fun L _ _ hl=>match L,hl with
  |0,hl=>hl
  |1,hl=>Bz hl fun _ hl=>Bz hl fun _ hl=>hl
  |_+2,hl=>hl) (fun n=>⟨
  fun f h hl=>Eq.mpr (Bod ..) hl,
  fun f h hl=>by
    refine By 10 hl fun _ hl=>?_;refine By 11 hl fun _ hl=>?_;exact Eq.mpr (Boc ..) hl,
  trivial⟩) rfl hg
theorem Bob(J:J8):zqe c k q8 u8 (f8 J) d8 Tryz.f8 .root f h=Azv c k J (f 0) (f 1) h:=by kernel_rfl
theorem Boa(J:J8)(n_5:Int):zqe c k q8 u8 (f8 J) d8 Tryz.f8 (.l (.r (.l (.r (.r .root))))) (Ao f 5 (.int .i64 n_5)) h=Azu c k J (f 0) (f 1) n_5 h:=by kernel_rfl
theorem w8(hc:Bi c){n:Nat}{a:List AV}(hg:f8 (r8 c k n) 0 (Ab a) h):zqs 8 a h k:=
 zqw hc q8 Tryz.func8 rfl (by kernel_rfl) (by kernel_rfl) k u8 (fun n=>f8 (r8 c k n)) (fun L _ _ hl=>match L,hl with
  |0,hl=>hl
  |1,hl=>Bz hl fun _ hl=>hl
  |_+2,hl=>hl) (fun n=>⟨
  fun f h hl=>Eq.mpr (Bob ..) hl,
  fun f h hl=>by
    refine By 5 hl fun _ hl=>?_;exact Eq.mpr (Boa ..) hl,
  trivial⟩) rfl hg
theorem Bi3(J:J12):zqe c k q12 u12 (f12 J) d12 Tryz.f12 .root f h=Ao4 c k J (f 0) h:=by kernel_rfl
theorem w12(hc:Bi c){n:Nat}{a:List AV}(hg:f12 (r12 c k n) 0 (Ab a) h):zqs 12 a h k:=
 zqw hc q12 Tryz.func12 rfl (by kernel_rfl) (by kernel_rfl) k u12 (fun n=>f12 (r12 c k n)) (fun L _ _ hl=>match L,hl with
  |0,hl=>hl
  |_+1,hl=>hl) (fun n=>⟨
  fun f h hl=>Eq.mpr (Bi3 ..) hl,
  trivial⟩) rfl hg
theorem Biu(J:J19):zqe c k q19 u19 (f19 J) d19 Tryz.f19 .root f h=Aow c k J (f 0) h:=by kernel_rfl
theorem Bit(J:J19)(n_4:Int):zqe c k q19 u19 (f19 J) d19 Tryz.f19 (.l (.r (.l (.r (.r .root))))) (Ao f 4 (.int .i64 n_4)) h=Ahq c k J (f 0) (f 3) n_4 h:=by kernel_rfl
theorem Bis(J:J19)(n_4:Int):zqe c k q19 u19 (f19 J) d19 Tryz.f19 (.r (.r (.l (.l (.r (.l (.r (.r .root)))))))) (Ao f 4 (.int .i64 n_4)) h=Ahp c k J (f 0) (f 3) n_4 h:=by kernel_rfl
theorem w19(hc:Bi c){n:Nat}{a:List AV}(hg:f19 (r19 c k n) 0 (Ab a) h):zqs 19 a h k:=
 zqw hc q19 Tryz.func19 rfl (by kernel_rfl) (by kernel_rfl) k u19 (fun n=>f19 (r19 c k n)) (fun L _ _ hl=>match L,hl with
  |0,hl=>hl
  |1,hl=>Bz hl fun _ hl=>hl
  |2,hl=>Bz hl fun _ hl=>hl
  |_+3,hl=>hl) (fun n=>⟨
  fun f h hl=>Eq.mpr (Biu ..) hl,
  fun f h hl=>by
    refine By 4 hl fun _ hl=>?_;exact Eq.mpr (Bit ..) hl,
  fun f h hl=>by
    refine By 4 hl fun _ hl=>?_;exact Eq.mpr (Bis ..) hl,
  trivial⟩) rfl hg
theorem w21(hc:Bi c){m:Nat}{a:List AV}(hg:Cv env c q21 u21 d21 (Cr env Tryz.f21.results.toList k) m 0 (Ab a) h):zqs 21 a h k:=Cw mixed Dn hc q21 Tryz.func21 rfl (by kernel_rfl) (by kernel_rfl) (by kernel_rfl) (by simp[u21]) hg
theorem Bil(J:J26):zqe c k q26 u26 (f26 J) d26 Tryz.f26 .root f h=Aop c k J (f 0) h:=by kernel_rfl
theorem w26(hc:Bi c){n:Nat}{a:List AV}(hg:f26 (r26 c k n) 0 (Ab a) h):zqs 26 a h k:=
 zqw hc q26 Tryz.func26 rfl (by kernel_rfl) (by kernel_rfl) k u26 (fun n=>f26 (r26 c k n)) (fun L _ _ hl=>match L,hl with
  |0,hl=>hl
  |_+1,hl=>hl) (fun n=>⟨
  fun f h hl=>Eq.mpr (Bil ..) hl,
  trivial⟩) rfl hg
theorem Bij(J:J28)(l_1 c_1:Nat)(n_3:Int):zqe c k q28 u28 (f28 J) d28 Tryz.f28 .root (Ao (Ao f 1 (.str l_1 c_1)) 3 (.int .i64 n_3)) h=Aon c k J (f 0) l_1 c_1 (f 2) n_3 h:=by kernel_rfl
theorem w28(hc:Bi c){n:Nat}{a:List AV}(hg:f28 (r28 c k n) 0 (Ab a) h):zqs 28 a h k:=
 zqw hc q28 Tryz.func28 rfl (by kernel_rfl) (by kernel_rfl) k u28 (fun n=>f28 (r28 c k n)) (fun L _ _ hl=>match L,hl with
  |0,hl=>Dl hl fun _ _ hl=>Bz hl fun _ hl=>hl
  |_+1,hl=>hl) (fun n=>⟨
  fun f h hl=>by
    refine Dk 1 hl fun _ _ hl=>?_;refine By 3 hl fun _ hl=>?_;exact Eq.mpr (Bij ..) hl,
  trivial⟩) rfl hg
theorem Bic(J:J32)(l_1 c_1:Nat):zqe c k q32 u32 (f32 J) d32 Tryz.f32 .root (Ao f 1 (.str l_1 c_1)) h=Aog c k J (f 0) l_1 c_1 h:=by kernel_rfl
theorem w32(hc:Bi c){n:Nat}{a:List AV}(hg:f32 (r32 c k n) 0 (Ab a) h):zqs 32 a h k:=
 zqw hc q32 Tryz.func32 rfl (by kernel_rfl) (by kernel_rfl) k u32 (fun n=>f32 (r32 c k n)) (fun L _ _ hl=>match L,hl with
  |0,hl=>Dl hl fun _ _ hl=>hl
  |_+1,hl=>hl) (fun n=>⟨
  fun f h hl=>by
    refine Dk 1 hl fun _ _ hl=>?_;exact Eq.mpr (Bic ..) hl,
  trivial⟩) rfl hg
theorem Bh5(J:J39)(l_0 c_0:Nat)(l_1 c_1:Nat):zqe c k q39 u39 (f39 J) d39 Tryz.f39 .root (Ao (Ao f 0 (.str l_0 c_0)) 1 (.str l_1 c_1)) h=An9 c k J l_0 c_0 l_1 c_1 h:=by kernel_rfl
theorem Bh4(J:J39)(l_1 c_1:Nat)(n_7:Int):zqe c k q39 u39 (f39 J) d39 Tryz.f39 (.l (.l (.r (.r (.r .root))))) (Ao (Ao f 1 (.str l_1 c_1)) 7 (.int .i64 n_7)) h=An8 c k J l_1 c_1 (f 4) (f 6) n_7 h:=by kernel_rfl
theorem Bh3(J:J39)(l_1 c_1:Nat):zqe c k q39 u39 (f39 J) d39 Tryz.f39 (.r (.r (.l (.r (.l (.l (.l (.r (.r (.r .root)))))))))) (Ao f 1 (.str l_1 c_1)) h=An7 c k J l_1 c_1 (f 4) (f 6) (f 8) h:=by kernel_rfl
theorem Bh2(J:J39):zqe c k q39 u39 (f39 J) d39 Tryz.f39 (.r (.r (.r (.r (.r .root))))) f h=An6 c k J (f 4) (f 6) h:=by kernel_rfl
theorem w39(hc:Bi c){n:Nat}{a:List AV}(hg:f39 (r39 c k n) 0 (Ab a) h):zqs 39 a h k:=
 zqw hc q39 Tryz.func39 rfl (by kernel_rfl) (by kernel_rfl) k u39 (fun n=>f39 (r39 c k n)) (fun L _ _ hl=>match L,hl with
  |0,hl=>Dl hl fun _ _ hl=>Dl hl fun _ _ hl=>hl
  |1,hl=>Dl hl fun _ _ hl=>Bz hl fun _ hl=>hl
  |2,hl=>Dl hl fun _ _ hl=>hl
  |3,hl=>hl
  |_+4,hl=>hl) (fun n=>⟨
  fun f h hl=>by
    refine Dk 0 hl fun _ _ hl=>?_;refine Dk 1 hl fun _ _ hl=>?_;exact Eq.mpr (Bh5 ..) hl,
  fun f h hl=>by
    refine Dk 1 hl fun _ _ hl=>?_;refine By 7 hl fun _ hl=>?_;exact Eq.mpr (Bh4 ..) hl,
  fun f h hl=>by
    refine Dk 1 hl fun _ _ hl=>?_;exact Eq.mpr (Bh3 ..) hl,
  fun f h hl=>Eq.mpr (Bh2 ..) hl,
  trivial⟩) rfl hg
theorem Bhv(J:J46):zqe c k q46 u46 (f46 J) d46 Tryz.f46 .root f h=Anz c k J (f 0) h:=by kernel_rfl
theorem w46(hc:Bi c){n:Nat}{a:List AV}(hg:f46 (r46 c k n) 0 (Ab a) h):zqs 46 a h k:=
 zqw hc q46 Tryz.func46 rfl (by kernel_rfl) (by kernel_rfl) k u46 (fun n=>f46 (r46 c k n)) (fun L _ _ hl=>match L,hl with
  |0,hl=>hl
  |_+1,hl=>hl) (fun n=>⟨
  fun f h hl=>Eq.mpr (Bhv ..) hl,
  trivial⟩) rfl hg
theorem Bhu(J:J47)(l_0 c_0:Nat)(l_1 c_1:Nat):zqe c k q47 u47 (f47 J) d47 Tryz.f47 .root (Ao (Ao f 0 (.str l_0 c_0)) 1 (.str l_1 c_1)) h=Anx c k J l_0 c_0 l_1 c_1 h:=by kernel_rfl
theorem w47(hc:Bi c){n:Nat}{a:List AV}(hg:f47 (r47 c k n) 0 (Ab a) h):zqs 47 a h k:=
 zqw hc q47 Tryz.func47 rfl (by kernel_rfl) (by kernel_rfl) k u47 (fun n=>f47 (r47 c k n)) (fun L _ _ hl=>match L,hl with
  |0,hl=>Dl hl fun _ _ hl=>Dl hl fun _ _ hl=>hl
  |_+1,hl=>hl) (fun n=>⟨
  fun f h hl=>by
    refine Dk 0 hl fun _ _ hl=>?_;refine Dk 1 hl fun _ _ hl=>?_;exact Eq.mpr (Bhu ..) hl,
  trivial⟩) rfl hg
theorem Bhn(J:J52)(l_1 c_1:Nat):zqe c k q52 u52 (f52 J) d52 Tryz.f52 .root (Ao f 1 (.str l_1 c_1)) h=Anq c k J (f 0) l_1 c_1 h:=by kernel_rfl
theorem Bhm(J:J52)(l_1 c_1:Nat):zqe c k q52 u52 (f52 J) d52 Tryz.f52 (.r .root) (Ao f 1 (.str l_1 c_1)) h=Anp c k J (f 0) l_1 c_1 h:=by kernel_rfl
theorem w52(hc:Bi c){n:Nat}{a:List AV}(hg:f52 (r52 c k n) 0 (Ab a) h):zqs 52 a h k:=
 zqw hc q52 Tryz.func52 rfl (by kernel_rfl) (by kernel_rfl) k u52 (fun n=>f52 (r52 c k n)) (fun L _ _ hl=>match L,hl with
  |0,hl=>Dl hl fun _ _ hl=>hl
  |1,hl=>Dl hl fun _ _ hl=>hl
  |_+2,hl=>hl) (fun n=>⟨
  fun f h hl=>by
    refine Dk 1 hl fun _ _ hl=>?_;exact Eq.mpr (Bhn ..) hl,
  fun f h hl=>by
    refine Dk 1 hl fun _ _ hl=>?_;exact Eq.mpr (Bhm ..) hl,
  trivial⟩) rfl hg
theorem Bg9(J:J62)(l_0 c_0:Nat):zqe c k q62 u62 (f62 J) d62 Tryz.f62 .root (Ao f 0 (.str l_0 c_0)) h=Ang c k J l_0 c_0 h:=by kernel_rfl
theorem w62(hc:Bi c){n:Nat}{a:List AV}(hg:f62 (r62 c k n) 0 (Ab a) h):zqs 62 a h k:=
 zqw hc q62 Tryz.func62 rfl (by kernel_rfl) (by kernel_rfl) k u62 (fun n=>f62 (r62 c k n)) (fun L _ _ hl=>match L,hl with
  |0,hl=>Dl hl fun _ _ hl=>hl
  |_+1,hl=>hl) (fun n=>⟨
  fun f h hl=>by
    refine Dk 0 hl fun _ _ hl=>?_;exact Eq.mpr (Bg9 ..) hl,
  trivial⟩) rfl hg
theorem Bg4(J:J65)(n_1:Int):zqe c k q65 u65 (f65 J) d65 Tryz.f65 .root (Ao f 1 (.int .i64 n_1)) h=Ana c k J (f 0) n_1 h:=by kernel_rfl
theorem w65(hc:Bi c){n:Nat}{a:List AV}(hg:f65 (r65 c k n) 0 (Ab a) h):zqs 65 a h k:=
 zqw hc q65 Tryz.func65 rfl (by kernel_rfl) (by kernel_rfl) k u65 (fun n=>f65 (r65 c k n)) (fun L _ _ hl=>match L,hl with
  |0,hl=>Bz hl fun _ hl=>hl
  |_+1,hl=>hl) (fun n=>⟨
  fun f h hl=>by
    refine By 1 hl fun _ hl=>?_;exact Eq.mpr (Bg4 ..) hl,
  trivial⟩) rfl hg
theorem Bg1(J:J67)(l_0 c_0:Nat):zqe c k q67 u67 (f67 J) d67 Tryz.f67 .root (Ao f 0 (.str l_0 c_0)) h=Ate c k J l_0 c_0 h:=by kernel_rfl
theorem Bg0(J:J67)(l_0 c_0:Nat)(n_3:Int):zqe c k q67 u67 (f67 J) d67 Tryz.f67 (.lab (.r .root) 0) (Ao (Ao f 0 (.str l_0 c_0)) 3 (.int .i64 n_3)) h=Acu c k J l_0 c_0 (f 2) n_3 h:=by kernel_rfl
theorem w67(hc:Bi c){n:Nat}{a:List AV}(hg:f67 (r67 c k n) 0 (Ab a) h):zqs 67 a h k:=
 zqw hc q67 Tryz.func67 rfl (by kernel_rfl) (by kernel_rfl) k u67 (fun n=>f67 (r67 c k n)) (fun L _ _ hl=>match L,hl with
  |0,hl=>Dl hl fun _ _ hl=>hl
  |1,hl=>Dl hl fun _ _ hl=>Bz hl fun _ hl=>hl
  |_+2,hl=>hl) (fun n=>⟨
  fun f h hl=>by
    refine Dk 0 hl fun _ _ hl=>?_;exact Eq.mpr (Bg1 ..) hl,
  fun f h hl=>by
    refine Dk 0 hl fun _ _ hl=>?_;refine By 3 hl fun _ hl=>?_;exact Eq.mpr (Bg0 ..) hl,
  trivial⟩) rfl hg
theorem Bgx(J:J70):zqe c k q70 u70 (f70 J) d70 Tryz.f70 .root f h=Am5 c k J (f 0) (f 1) h:=by kernel_rfl
theorem w70(hc:Bi c){n:Nat}{a:List AV}(hg:f70 (r70 c k n) 0 (Ab a) h):zqs 70 a h k:=
 zqw hc q70 Tryz.func70 rfl (by kernel_rfl) (by kernel_rfl) k u70 (fun n=>f70 (r70 c k n)) (fun L _ _ hl=>match L,hl with
  |0,hl=>hl
  |_+1,hl=>hl) (fun n=>⟨
  fun f h hl=>Eq.mpr (Bgx ..) hl,
  trivial⟩) rfl hg
theorem Bgu(J:J73)(l_0 c_0:Nat)(l_1 c_1:Nat)(n_2:Int):zqe c k q73 u73 (f73 J) d73 Tryz.f73 .root (Ao (Ao (Ao f 0 (.str l_0 c_0)) 1 (.str l_1 c_1)) 2 (.int .i64 n_2)) h=Am2 c k J l_0 c_0 l_1 c_1 n_2 h:=by kernel_rfl
theorem w73(hc:Bi c){n:Nat}{a:List AV}(hg:f73 (r73 c k n) 0 (Ab a) h):zqs 73 a h k:=
 zqw hc q73 Tryz.func73 rfl (by kernel_rfl) (by kernel_rfl) k u73 (fun n=>f73 (r73 c k n)) (fun L _ _ hl=>match L,hl with
  |0,hl=>Dl hl fun _ _ hl=>Dl hl fun _ _ hl=>Bz hl fun _ hl=>hl
  |_+1,hl=>hl) (fun n=>⟨
  fun f h hl=>by
    refine Dk 0 hl fun _ _ hl=>?_;refine Dk 1 hl fun _ _ hl=>?_;refine By 2 hl fun _ hl=>?_;exact Eq.mpr (Bgu ..) hl,
  trivial⟩) rfl hg
theorem Bgt(J:J74)(n_0:Int):zqe c k q74 u74 (f74 J) d74 Tryz.f74 .root (Ao f 0 (.int .u8 n_0)) h=Am1 c k J n_0 h:=by kernel_rfl
theorem w74(hc:Bi c){n:Nat}{a:List AV}(hg:f74 (r74 c k n) 0 (Ab a) h):zqs 74 a h k:=
 zqw hc q74 Tryz.func74 rfl (by kernel_rfl) (by kernel_rfl) k u74 (fun n=>f74 (r74 c k n)) (fun L _ _ hl=>match L,hl with
  |0,hl=>Bz hl fun _ hl=>hl
  |_+1,hl=>hl) (fun n=>⟨
  fun f h hl=>by
    refine By 0 hl fun _ hl=>?_;exact Eq.mpr (Bgt ..) hl,
  trivial⟩) rfl hg
theorem w80(hc:Bi c){m:Nat}{a:List AV}(hg:Cv env c q80 u80 d80 (Cr env Tryz.f80.results.toList k) m 0 (Ab a) h):zqs 80 a h k:=Cw mixed Dn hc q80 Tryz.func80 rfl (by kernel_rfl) (by kernel_rfl) (by kernel_rfl) (by simp[u80]) hg
theorem Bge(J:J89):zqe c k q89 u89 (f89 J) d89 Tryz.f89 .root f h=Amn c k J (f 0) (f 1) h:=by kernel_rfl
theorem Bgd(J:J89):zqe c k q89 u89 (f89 J) d89 Tryz.f89 (.r (.r .root)) f h=A20 c k J (f 3) (f 4) h:=by kernel_rfl
theorem w89(hc:Bi c){n:Nat}{a:List AV}(hg:f89 (r89 c k n) 0 (Ab a) h):zqs 89 a h k:=
 zqw hc q89 Tryz.func89 rfl (by kernel_rfl) (by kernel_rfl) k u89 (fun n=>f89 (r89 c k n)) (fun L _ _ hl=>match L,hl with
  |0,hl=>hl
  |1,hl=>hl
  |_+2,hl=>hl) (fun n=>⟨
  fun f h hl=>Eq.mpr (Bge ..) hl,
  fun f h hl=>Eq.mpr (Bgd ..) hl,
  trivial⟩) rfl hg
theorem w94(hc:Bi c){m:Nat}{a:List AV}(hg:Cv env c q94 u94 d94 (Cr env Tryz.f94.results.toList k) m 0 (Ab a) h):zqs 94 a h k:=Cw mixed Dn hc q94 Tryz.func94 rfl (by kernel_rfl) (by kernel_rfl) (by kernel_rfl) (by simp[u94]) hg
theorem Bf9(J:J96):zqe c k q96 u96 (f96 J) d96 Tryz.f96 .root f h=Amj c k J (f 0) h:=by kernel_rfl
theorem w96(hc:Bi c){n:Nat}{a:List AV}(hg:f96 (r96 c k n) 0 (Ab a) h):zqs 96 a h k:=
 zqw hc q96 Tryz.func96 rfl (by kernel_rfl) (by kernel_rfl) k u96 (fun n=>f96 (r96 c k n)) (fun L _ _ hl=>match L,hl with
  |0,hl=>hl
  |_+1,hl=>hl) (fun n=>⟨
  fun f h hl=>Eq.mpr (Bf9 ..) hl,
  trivial⟩) rfl hg
theorem Bf8(J:J97):zqe c k q97 u97 (f97 J) d97 Tryz.f97 .root f h=Ami c k J (f 0) (f 1) (f 2) (f 3) h:=by kernel_rfl
theorem Bf7(J:J97):zqe c k q97 u97 (f97 J) d97 Tryz.f97 (.l (.l (.l (.r (.l .root))))) f h=A2z c k J (f 0) (f 2) h:=by kernel_rfl
theorem Bf6(J:J97):zqe c k q97 u97 (f97 J) d97 Tryz.f97 (.l (.l (.r .root))) f h=Amh c k J (f 0) (f 1) (f 2) (f 3) h:=by kernel_rfl
theorem w97(hc:Bi c){n:Nat}{a:List AV}(hg:f97 (r97 c k n) 0 (Ab a) h):zqs 97 a h k:=
 zqw hc q97 Tryz.func97 rfl (by kernel_rfl) (by kernel_rfl) k u97 (fun n=>f97 (r97 c k n)) (fun L _ _ hl=>match L,hl with
  |0,hl=>hl
  |1,hl=>hl
  |2,hl=>hl
  |_+3,hl=>hl) (fun n=>⟨
  fun f h hl=>Eq.mpr (Bf8 ..) hl,
  fun f h hl=>Eq.mpr (Bf7 ..) hl,
  fun f h hl=>Eq.mpr (Bf6 ..) hl,
  trivial⟩) rfl hg
theorem Bl8(hc:Bi c){m:Nat}{a:List AV}(hg:Cv env c A7a A5u d135 (Cr env Tryz.f135.results.toList k) m 0 (Ab a) h):zqs 135 a h k:=Cw mixed Dn hc A7a Tryz.func135 rfl (by kernel_rfl) (by kernel_rfl) (by kernel_rfl) (by simp[A5u]) hg
theorem Bl4(hc:Bi c){m:Nat}{a:List AV}(hg:Cv env c A66 A5q d146 (Cr env Tryz.f146.results.toList k) m 0 (Ab a) h):zqs 146 a h k:=Cw mixed Dn hc A66 Tryz.func146 rfl (by kernel_rfl) (by kernel_rfl) (by kernel_rfl) (by simp[A5q]) hg
theorem Bl0(hc:Bi c){m:Nat}{a:List AV}(hg:Cv env c A61 A5l d163 (Cr env Tryz.f163.results.toList k) m 0 (Ab a) h):zqs 163 a h k:=Cw mixed Dn hc A61 Tryz.func163 rfl (by kernel_rfl) (by kernel_rfl) (by kernel_rfl) (by simp[A5l]) hg
theorem A9y(J:Ayz)(n_0:Int):zqe c k Bdv Bc2 (f166 J) d166 Tryz.f166 .root (Ao f 0 (.int .u8 n_0)) h=Aes c k J n_0 h:=by kernel_rfl
theorem Bcc(hc:Bi c){n:Nat}{a:List AV}(hg:f166 (At1 c k n) 0 (Ab a) h):zqs 166 a h k:=
 zqw hc Bdv Tryz.func166 rfl (by kernel_rfl) (by kernel_rfl) k Bc2 (fun n=>f166 (At1 c k n)) (fun L _ _ hl=>match L,hl with
  |0,hl=>Bz hl fun _ hl=>hl
  |_+1,hl=>hl) (fun n=>⟨
  fun f h hl=>by
    refine By 0 hl fun _ hl=>?_;exact Eq.mpr (A9y ..) hl,
  trivial⟩) rfl hg
theorem A9x(J:Ayy)(n_1:Int):zqe c k Bdu Bc1 (f167 J) d167 Tryz.f167 .root (Ao f 1 (.int .i64 n_1)) h=Aer c k J (f 0) n_1 h:=by kernel_rfl
theorem Bcb(hc:Bi c){n:Nat}{a:List AV}(hg:f167 (At0 c k n) 0 (Ab a) h):zqs 167 a h k:=
 zqw hc Bdu Tryz.func167 rfl (by kernel_rfl) (by kernel_rfl) k Bc1 (fun n=>f167 (At0 c k n)) (fun L _ _ hl=>match L,hl with
  |0,hl=>Bz hl fun _ hl=>hl
  |_+1,hl=>hl) (fun n=>⟨
  fun f h hl=>by
    refine By 1 hl fun _ hl=>?_;exact Eq.mpr (A9x ..) hl,
  trivial⟩) rfl hg
theorem Blw(hc:Bi c){m:Nat}{a:List AV}(hg:Cv env c A6u A5e d184 (Cr env Tryz.f184.results.toList k) m 0 (Ab a) h):zqs 184 a h k:=Cw mixed Dn hc A6u Tryz.func184 rfl (by kernel_rfl) (by kernel_rfl) (by kernel_rfl) (by simp[A5e]) hg
theorem Blr(hc:Bi c){m:Nat}{a:List AV}(hg:Cv env c A6q A5a d202 (Cr env Tryz.f202.results.toList k) m 0 (Ab a) h):zqs 202 a h k:=Cw mixed Dn hc A6q Tryz.func202 rfl (by kernel_rfl) (by kernel_rfl) (by kernel_rfl) (by simp[A5a]) hg
theorem A9i(J:Ag3)(n_1:Int):zqe c k Az8 Azd (f209 J) d209 Tryz.f209 .root (Ao f 1 (.int .i64 n_1)) h=Aec c k J (f 0) n_1 h:=by kernel_rfl
theorem A9h(J:Ag3)(n_5 n_6:Int):zqe c k Az8 Azd (f209 J) d209 Tryz.f209 (.l (.r (.l (.r (.r .root))))) (Ao (Ao f 5 (.int .u8 n_5)) 6 (.int .i64 n_6)) h=Aeb c k J (f 0) n_5 n_6 h:=by kernel_rfl
theorem A9g(J:Ag3)(n_5 n_6:Int):zqe c k Az8 Azd (f209 J) d209 Tryz.f209 (.r (.r (.l (.l (.r (.l (.r (.r .root)))))))) (Ao (Ao f 5 (.int .u8 n_5)) 6 (.int .i64 n_6)) h=Aea c k J (f 0) n_5 n_6 h:=by kernel_rfl
theorem Bb1(hc:Bi c){n:Nat}{a:List AV}(hg:f209 (Zy c k n) 0 (Ab a) h):zqs 209 a h k:=
 zqw hc Az8 Tryz.func209 rfl (by kernel_rfl) (by kernel_rfl) k Azd (fun n=>f209 (Zy c k n)) (fun L _ _ hl=>match L,hl with
  |0,hl=>Bz hl fun _ hl=>hl
  |1,hl=>Bz hl fun _ hl=>Bz hl fun _ hl=>hl
  |2,hl=>Bz hl fun _ hl=>Bz hl fun _ hl=>hl
  |_+3,hl=>hl) (fun n=>⟨
  fun f h hl=>by
    refine By 1 hl fun _ hl=>?_;exact Eq.mpr (A9i ..) hl,
  fun f h hl=>by
    refine By 5 hl fun _ hl=>?_;refine By 6 hl fun _ hl=>?_;exact Eq.mpr (A9h ..) hl,
  fun f h hl=>by
    refine By 5 hl fun _ hl=>?_;refine By 6 hl fun _ hl=>?_;exact Eq.mpr (A9g ..) hl,
  trivial⟩) rfl hg
theorem Bln(hc:Bi c){m:Nat}{a:List AV}(hg:Cv env c A6l A45 d223 (Cr env Tryz.f223.results.toList k) m 0 (Ab a) h):zqs 223 a h k:=Cw mixed Dn hc A6l Tryz.func223 rfl (by kernel_rfl) (by kernel_rfl) (by kernel_rfl) (by simp[A45]) hg
theorem Awp(J:Ayq)(b_1:Bool):zqe c k A6j A43 (f225 J) d225 Tryz.f225 .root (Ao f 1 (.bool b_1)) h=Ati c k J (f 0) b_1 h:=by kernel_rfl
theorem Bll(hc:Bi c){n:Nat}{a:List AV}(hg:f225 (Akf c k n) 0 (Ab a) h):zqs 225 a h k:=
 zqw hc A6j Tryz.func225 rfl (by kernel_rfl) (by kernel_rfl) k A43 (fun n=>f225 (Akf c k n)) (fun L _ _ hl=>match L,hl with
  |0,hl=>Yb hl fun _ hl=>hl
  |_+1,hl=>hl) (fun n=>⟨
  fun f h hl=>by
    refine Ya 1 hl fun _ hl=>?_;exact Eq.mpr (Awp ..) hl,
  trivial⟩) rfl hg
theorem Bbz(hc:Bi c){n:Nat}{a:List AV}(hg:f225 (Akf c k n) 0 (Ab a) h):A4l 225 a h k:=
 Bbn hc A6j Tryz.func225 rfl (by kernel_rfl) (by kernel_rfl) k A43 (fun n=>f225 (Akf c k n)) (fun L _ _ hl=>match L,hl with
  |0,hl=>Yb hl fun _ hl=>hl
  |_+1,hl=>hl) (fun n=>⟨
  fun f h hl=>by
    refine Ya 1 hl fun _ hl=>?_;exact Eq.mpr (Awp ..) hl,
  trivial⟩) rfl hg
theorem Blh(hc:Bi c){m:Nat}{a:List AV}(hg:Cv env c A6f A4z d250 (Cr env Tryz.f250.results.toList k) m 0 (Ab a) h):zqs 250 a h k:=Cw mixed Dn hc A6f Tryz.func250 rfl (by kernel_rfl) (by kernel_rfl) (by kernel_rfl) (by simp[A4z]) hg
end Go.Den
