/-
 Proof. the pieces are what the program Aja.
-/
import Derived.Test.YtheajahjkmfeaaaGreatDoorRunA1
import Derived.KernelRfl
namespace Go.Den
open Go.Proofs
set_option maxRecDepth 100000
variable{c:CF}{k:KV}{f:FT}{h:H}
theorem Bog(J:J5):zqe c k q5 u5 (f5 J) d5 Tryz.f5 .root f h=Az0 c k J (f 0) (f 1) h:=by kernel_rfl
theorem Bof(J:J5)(n_10:Int):zqe c k q5 u5 (f5 J) d5 Tryz.f5 (.l (.r (.l (.r (.r (.r (.r .root))))))) (Ao f 10 (.int .i64 n_10)) h=Azz c k J (f 1) (f 7) (f 9) n_10 h:=by kernel_rfl
theorem w5(hc:Bi c){n:Nat}{a:List AV}(hg:f5 (r5 c k n) 0 (Ab a) h):zqs 5 a h k:=
 zqw hc q5 Tryz.func5 rfl (by kernel_rfl) (by kernel_rfl) k u5 (fun n=>f5 (r5 c k n)) (fun L _ _ hl=>match L,hl with
  |0,hl=>hl
  |1,hl=>Bz hl fun _ hl=>hl
  |_+2,hl=>hl) (fun n=>⟨
  fun f h hl=>Eq.mpr (Bog ..) hl,
  fun f h hl=>by
    refine By 10 hl fun _ hl=>?_;exact Eq.mpr (Bof ..) hl,
  trivial⟩) rfl hg
theorem w10(hc:Bi c){m:Nat}{a:List AV}(hg:Cv env c q10 u10 d10 (Cr env Tryz.f10.results.toList k) m 0 (Ab a) h):zqs 10 a h k:=Cw mixed Dn hc q10 Tryz.func10 rfl (by kernel_rfl) (by kernel_rfl) (by kernel_rfl) (by simp[u10]) hg
theorem Bio(J:J22):zqe c k q22 u22 (f22 J) d22 Tryz.f22 .root f h=Aos c k J (f 0) h:=by kernel_rfl
theorem w22(hc:Bi c){n:Nat}{a:List AV}(hg:f22 (r22 c k n) 0 (Ab a) h):zqs 22 a h k:=
 zqw hc q22 Tryz.func22 rfl (by kernel_rfl) (by kernel_rfl) k u22 (fun n=>f22 (r22 c k n)) (fun L _ _ hl=>match L,hl with
  |0,hl=>hl
  |_+1,hl=>hl) (fun n=>⟨
  fun f h hl=>Eq.mpr (Bio ..) hl,
  trivial⟩) rfl hg
theorem Bin(J:J24)(l_0 c_0:Nat):zqe c k q24 u24 (f24 J) d24 Tryz.f24 .root (Ao f 0 (.str l_0 c_0)) h=Aor c k J l_0 c_0 h:=by kernel_rfl
theorem w24(hc:Bi c){n:Nat}{a:List AV}(hg:f24 (r24 c k n) 0 (Ab a) h):zqs 24 a h k:=
 zqw hc q24 Tryz.func24 rfl (by kernel_rfl) (by kernel_rfl) k u24 (fun n=>f24 (r24 c k n)) (fun L _ _ hl=>match L,hl with
  |0,hl=>Dl hl fun _ _ hl=>hl
  |_+1,hl=>hl) (fun n=>⟨
  fun f h hl=>by
    refine Dk 0 hl fun _ _ hl=>?_;exact Eq.mpr (Bin ..) hl,
  trivial⟩) rfl hg
theorem Bii(J:J29)(l_1 c_1:Nat):zqe c k q29 u29 (f29 J) d29 Tryz.f29 .root (Ao f 1 (.str l_1 c_1)) h=Aom c k J (f 0) l_1 c_1 h:=by kernel_rfl
theorem Bih(J:J29)(l_1 c_1:Nat)(n_6:Int):zqe c k q29 u29 (f29 J) d29 Tryz.f29 (.l (.l (.r (.r .root)))) (Ao (Ao f 1 (.str l_1 c_1)) 6 (.int .i64 n_6)) h=Aol c k J (f 0) l_1 c_1 n_6 h:=by kernel_rfl
theorem w29(hc:Bi c){n:Nat}{a:List AV}(hg:f29 (r29 c k n) 0 (Ab a) h):zqs 29 a h k:=
 zqw hc q29 Tryz.func29 rfl (by kernel_rfl) (by kernel_rfl) k u29 (fun n=>f29 (r29 c k n)) (fun L _ _ hl=>match L,hl with
  |0,hl=>Dl hl fun _ _ hl=>hl
  |1,hl=>Dl hl fun _ _ hl=>Bz hl fun _ hl=>hl
  |_+2,hl=>hl) (fun n=>⟨
  fun f h hl=>by
    refine Dk 1 hl fun _ _ hl=>?_;exact Eq.mpr (Bii ..) hl,
  fun f h hl=>by
    refine Dk 1 hl fun _ _ hl=>?_;refine By 6 hl fun _ hl=>?_;exact Eq.mpr (Bih ..) hl,
  trivial⟩) rfl hg
theorem Bie(J:J31)(l_1 c_1:Nat)(l_2 c_2:Nat):zqe c k q31 u31 (f31 J) d31 Tryz.f31 .root (Ao (Ao f 1 (.str l_1 c_1)) 2 (.str l_2 c_2)) h=Aoi c k J (f 0) l_1 c_1 l_2 c_2 h:=by kernel_rfl
theorem Bid(J:J31)(l_1 c_1:Nat)(l_2 c_2:Nat)(n_6:Int):zqe c k q31 u31 (f31 J) d31 Tryz.f31 (.r (.r (.r .root))) (Ao (Ao (Ao f 1 (.str l_1 c_1)) 2 (.str l_2 c_2)) 6 (.int .i64 n_6)) h=Aoh c k J (f 0) l_1 c_1 l_2 c_2 n_6 (f 8) h:=by kernel_rfl
theorem w31(hc:Bi c){n:Nat}{a:List AV}(hg:f31 (r31 c k n) 0 (Ab a) h):zqs 31 a h k:=
 zqw hc q31 Tryz.func31 rfl (by kernel_rfl) (by kernel_rfl) k u31 (fun n=>f31 (r31 c k n)) (fun L _ _ hl=>match L,hl with
  |0,hl=>Dl hl fun _ _ hl=>Dl hl fun _ _ hl=>hl
  |1,hl=>Dl hl fun _ _ hl=>Dl hl fun _ _ hl=>Bz hl fun _ hl=>hl
  |_+2,hl=>hl) (fun n=>⟨
  fun f h hl=>by
    refine Dk 1 hl fun _ _ hl=>?_;refine Dk 2 hl fun _ _ hl=>?_;exact Eq.mpr (Bie ..) hl,
  fun f h hl=>by
    refine Dk 1 hl fun _ _ hl=>?_;refine Dk 2 hl fun _ _ hl=>?_;refine By 6 hl fun _ hl=>?_;exact Eq.mpr (Bid ..) hl,
  trivial⟩) rfl hg
theorem w41(hc:Bi c){m:Nat}{a:List AV}(hg:Cv env c q41 u41 d41 (Cr env Tryz.f41.results.toList k) m 0 (Ab a) h):zqs 41 a h k:=Cw mixed Dn hc q41 Tryz.func41 rfl (by kernel_rfl) (by kernel_rfl) (by kernel_rfl) (by simp[u41]) hg
theorem Bhy(J:J43)(n_0:Int):zqe c k q43 u43 (f43 J) d43 Tryz.f43 .root (Ao f 0 (.int .u8 n_0)) h=An2 c k J n_0 h:=by kernel_rfl
theorem Bhx(J:J43)(n_0 n_4:Int):zqe c k q43 u43 (f43 J) d43 Tryz.f43 (.l (.r (.l (.r .root)))) (Ao (Ao f 0 (.int .u8 n_0)) 4 (.int .i64 n_4)) h=An1 c k J n_0 n_4 h:=by kernel_rfl
theorem w43(hc:Bi c){n:Nat}{a:List AV}(hg:f43 (r43 c k n) 0 (Ab a) h):zqs 43 a h k:=
 zqw hc q43 Tryz.func43 rfl (by kernel_rfl) (by kernel_rfl) k u43 (fun n=>f43 (r43 c k n)) (fun L _ _ hl=>match L,hl with
  |0,hl=>Bz hl fun _ hl=>hl
  |1,hl=>Bz hl fun _ hl=>Bz hl fun _ hl=>hl
  |_+2,hl=>hl) (fun n=>⟨
  fun f h hl=>by
    refine By 0 hl fun _ hl=>?_;exact Eq.mpr (Bhy ..) hl,
  fun f h hl=>by
    refine By 0 hl fun _ hl=>?_;refine By 4 hl fun _ hl=>?_;exact Eq.mpr (Bhx ..) hl,
  trivial⟩) rfl hg
theorem Bhw(J:J44):zqe c k q44 u44 (f44 J) d44 Tryz.f44 .root f h=An0 c k J (f 0) h:=by kernel_rfl
theorem w44(hc:Bi c){n:Nat}{a:List AV}(hg:f44 (r44 c k n) 0 (Ab a) h):zqs 44 a h k:=
 zqw hc q44 Tryz.func44 rfl (by kernel_rfl) (by kernel_rfl) k u44 (fun n=>f44 (r44 c k n)) (fun L _ _ hl=>match L,hl with
  |0,hl=>hl
  |_+1,hl=>hl) (fun n=>⟨
  fun f h hl=>Eq.mpr (Bhw ..) hl,
  trivial⟩) rfl hg
theorem Bht(J:J48)(l_0 c_0:Nat):zqe c k q48 u48 (f48 J) d48 Tryz.f48 .root (Ao f 0 (.str l_0 c_0)) h=Anw c k J l_0 c_0 h:=by kernel_rfl
theorem Bhs(J:J48)(l_0 c_0:Nat)(b_3:Bool)(n_4:Int):zqe c k q48 u48 (f48 J) d48 Tryz.f48 (.l (.r (.l (.r (.r .root))))) (Ao (Ao (Ao f 0 (.str l_0 c_0)) 3 (.bool b_3)) 4 (.int .i64 n_4)) h=Anv c k J l_0 c_0 b_3 n_4 h:=by kernel_rfl
theorem w48(hc:Bi c){n:Nat}{a:List AV}(hg:f48 (r48 c k n) 0 (Ab a) h):zqs 48 a h k:=
 zqw hc q48 Tryz.func48 rfl (by kernel_rfl) (by kernel_rfl) k u48 (fun n=>f48 (r48 c k n)) (fun L _ _ hl=>match L,hl with
  |0,hl=>Dl hl fun _ _ hl=>hl
  |1,hl=>Dl hl fun _ _ hl=>Yb hl fun _ hl=>Bz hl fun _ hl=>hl
  |_+2,hl=>hl) (fun n=>⟨
  fun f h hl=>by
    refine Dk 0 hl fun _ _ hl=>?_;exact Eq.mpr (Bht ..) hl,
  fun f h hl=>by
    refine Dk 0 hl fun _ _ hl=>?_;refine Ya 3 hl fun _ hl=>?_;refine By 4 hl fun _ hl=>?_;exact Eq.mpr (Bhs ..) hl,
  trivial⟩) rfl hg
theorem Bg8(J:J63):zqe c k q63 u63 (f63 J) d63 Tryz.f63 .root f h=Anf c k J (f 0) h:=by kernel_rfl
theorem Bg7(J:J63):zqe c k q63 u63 (f63 J) d63 Tryz.f63 (.l (.r (.r .root))) f h=Ane c k J (f 0) (f 2) h:=by kernel_rfl
theorem w63(hc:Bi c){n:Nat}{a:List AV}(hg:f63 (r63 c k n) 0 (Ab a) h):zqs 63 a h k:=
 zqw hc q63 Tryz.func63 rfl (by kernel_rfl) (by kernel_rfl) k u63 (fun n=>f63 (r63 c k n)) (fun L _ _ hl=>match L,hl with
  |0,hl=>hl
  |1,hl=>hl
  |_+2,hl=>hl) (fun n=>⟨
  fun f h hl=>Eq.mpr (Bg8 ..) hl,
  fun f h hl=>Eq.mpr (Bg7 ..) hl,
  trivial⟩) rfl hg
theorem Bgw(J:J71)(l_0 c_0:Nat):zqe c k q71 u71 (f71 J) d71 Tryz.f71 .root (Ao f 0 (.str l_0 c_0)) h=Am4 c k J l_0 c_0 (f 1) h:=by kernel_rfl
theorem w71(hc:Bi c){n:Nat}{a:List AV}(hg:f71 (r71 c k n) 0 (Ab a) h):zqs 71 a h k:=
 zqw hc q71 Tryz.func71 rfl (by kernel_rfl) (by kernel_rfl) k u71 (fun n=>f71 (r71 c k n)) (fun L _ _ hl=>match L,hl with
  |0,hl=>Dl hl fun _ _ hl=>hl
  |_+1,hl=>hl) (fun n=>⟨
  fun f h hl=>by
    refine Dk 0 hl fun _ _ hl=>?_;exact Eq.mpr (Bgw ..) hl,
  trivial⟩) rfl hg
theorem Bgs(J:J75)(l_0 c_0:Nat):zqe c k q75 u75 (f75 J) d75 Tryz.f75 .root (Ao f 0 (.str l_0 c_0)) h=Am0 c k J l_0 c_0 h:=by kernel_rfl
theorem w75(hc:Bi c){n:Nat}{a:List AV}(hg:f75 (r75 c k n) 0 (Ab a) h):zqs 75 a h k:=
 zqw hc q75 Tryz.func75 rfl (by kernel_rfl) (by kernel_rfl) k u75 (fun n=>f75 (r75 c k n)) (fun L _ _ hl=>match L,hl with
  |0,hl=>Dl hl fun _ _ hl=>hl
  |_+1,hl=>hl) (fun n=>⟨
  fun f h hl=>by
    refine Dk 0 hl fun _ _ hl=>?_;exact Eq.mpr (Bgs ..) hl,
  trivial⟩) rfl hg
theorem Bgq(J:J77)(n_1:Int):zqe c k q77 u77 (f77 J) d77 Tryz.f77 .root (Ao f 1 (.int .i64 n_1)) h=Amy c k J (f 0) n_1 h:=by kernel_rfl
theorem w77(hc:Bi c){n:Nat}{a:List AV}(hg:f77 (r77 c k n) 0 (Ab a) h):zqs 77 a h k:=
 zqw hc q77 Tryz.func77 rfl (by kernel_rfl) (by kernel_rfl) k u77 (fun n=>f77 (r77 c k n)) (fun L _ _ hl=>match L,hl with
  |0,hl=>Bz hl fun _ hl=>hl
  |_+1,hl=>hl) (fun n=>⟨
  fun f h hl=>by
    refine By 1 hl fun _ hl=>?_;exact Eq.mpr (Bgq ..) hl,
  trivial⟩) rfl hg
theorem Bgp(J:J79):zqe c k q79 u79 (f79 J) d79 Tryz.f79 .root f h=Amx c k J (f 0) (f 1) h:=by kernel_rfl
theorem w79(hc:Bi c){n:Nat}{a:List AV}(hg:f79 (r79 c k n) 0 (Ab a) h):zqs 79 a h k:=
 zqw hc q79 Tryz.func79 rfl (by kernel_rfl) (by kernel_rfl) k u79 (fun n=>f79 (r79 c k n)) (fun L _ _ hl=>match L,hl with
  |0,hl=>hl
  |_+1,hl=>hl) (fun n=>⟨
  fun f h hl=>Eq.mpr (Bgp ..) hl,
  trivial⟩) rfl hg
theorem Bgo(J:J81):zqe c k q81 u81 (f81 J) d81 Tryz.f81 .root f h=Amw c k J (f 0) h:=by kernel_rfl
theorem w81(hc:Bi c){n:Nat}{a:List AV}(hg:f81 (r81 c k n) 0 (Ab a) h):zqs 81 a h k:=
 zqw hc q81 Tryz.func81 rfl (by kernel_rfl) (by kernel_rfl) k u81 (fun n=>f81 (r81 c k n)) (fun L _ _ hl=>match L,hl with
  |0,hl=>hl
  |_+1,hl=>hl) (fun n=>⟨
  fun f h hl=>Eq.mpr (Bgo ..) hl,
  trivial⟩) rfl hg
theorem Bgl(J:J86):zqe c k q86 u86 (f86 J) d86 Tryz.f86 .root f h=Amt c k J (f 0) h:=by kernel_rfl
theorem Bgk(J:J86)(b_3:Bool)(n_7 n_8:Int)(n_87 n_88:Int):zqe c k q86 u86 (f86 J) d86 Tryz.f86 (.l (.r (.l (.r (.r (.r (.r (.r (.r (.r (.r (.l (.r .root))))))))))))) (Ao (Ao (Ao (Ao (Ao f 3 (.bool b_3)) 7 (.int .i64 n_7)) 8 (.int .i64 n_8)) 87 (.int .i64 n_87)) 88 (.int .i64 n_88)) h=Ams c k J (f 0) (f 2) b_3 (f 5) n_7 n_8 (f 86) n_87 n_88 h:=by kernel_rfl
theorem Bgj(J:J86)(b_3 b_4:Bool):zqe c k q86 u86 (f86 J) d86 Tryz.f86 (.lab (.r .root) 1) (Ao (Ao f 3 (.bool b_3)) 4 (.bool b_4)) h=Amr c k J (f 0) (f 2) b_3 b_4 (f 5) h:=by kernel_rfl
theorem Bgi(J:J86)(b_3:Bool)(n_7 n_8:Int)(n_87 n_88:Int):zqe c k q86 u86 (f86 J) d86 Tryz.f86 (.l (.r (.l (.r (.r (.r (.r (.r (.lab (.r .root) 1))))))))) (Ao (Ao (Ao (Ao (Ao f 3 (.bool b_3)) 7 (.int .i64 n_7)) 8 (.int .i64 n_8)) 87 (.int .i64 n_87)) 88 (.int .i64 n_88)) h=Amq c k J (f 0) (f 2) b_3 (f 5) n_7 n_8 (f 86) n_87 n_88 h:=by kernel_rfl
theorem Bgh(J:J86)(b_3 b_4:Bool):zqe c k q86 u86 (f86 J) d86 Tryz.f86 (.lab (.r .root) 0) (Ao (Ao f 3 (.bool b_3)) 4 (.bool b_4)) h=Ahk c k J (f 2) b_3 b_4 h:=by kernel_rfl
theorem Bgg(J:J86)(b_3 b_4 b_6:Bool):zqe c k q86 u86 (f86 J) d86 Tryz.f86 (.r (.l (.r (.r (.r (.r (.r (.r (.l (.r .root)))))))))) (Ao (Ao (Ao f 3 (.bool b_3)) 4 (.bool b_4)) 6 (.bool b_6)) h=Amp c k J (f 0) (f 2) b_3 b_4 (f 5) b_6 h:=by kernel_rfl
theorem w86(hc:Bi c){n:Nat}{a:List AV}(hg:f86 (r86 c k n) 0 (Ab a) h):zqs 86 a h k:=
 zqw hc q86 Tryz.func86 rfl (by kernel_rfl) (by kernel_rfl) k u86 (fun n=>f86 (r86 c k n)) (fun L _ _ hl=>match L,hl with
  |0,hl=>hl
  |1,hl=>Yb hl fun _ hl=>Bz hl fun _ hl=>Bz hl fun _ hl=>Bz hl fun _ hl=>Bz hl fun _ hl=>hl
  |2,hl=>Yb hl fun _ hl=>Yb hl fun _ hl=>hl
  |3,hl=>Yb hl fun _ hl=>Bz hl fun _ hl=>Bz hl fun _ hl=>Bz hl fun _ hl=>Bz hl fun _ hl=>hl
  |4,hl=>Yb hl fun _ hl=>Yb hl fun _ hl=>hl
  |5,hl=>Yb hl fun _ hl=>Yb hl fun _ hl=>Yb hl fun _ hl=>hl
  |_+6,hl=>hl) (fun n=>⟨
  fun f h hl=>Eq.mpr (Bgl ..) hl,
  fun f h hl=>by
    refine Ya 3 hl fun _ hl=>?_;refine By 7 hl fun _ hl=>?_;refine By 8 hl fun _ hl=>?_;refine By 87 hl fun _ hl=>?_;refine By 88 hl fun _ hl=>?_;exact Eq.mpr (Bgk ..) hl,
  fun f h hl=>by
    refine Ya 3 hl fun _ hl=>?_;refine Ya 4 hl fun _ hl=>?_;exact Eq.mpr (Bgj ..) hl,
  fun f h hl=>by
    refine Ya 3 hl fun _ hl=>?_;refine By 7 hl fun _ hl=>?_;refine By 8 hl fun _ hl=>?_;refine By 87 hl fun _ hl=>?_;refine By 88 hl fun _ hl=>?_;exact Eq.mpr (Bgi ..) hl,
  fun f h hl=>by
    refine Ya 3 hl fun _ hl=>?_;refine Ya 4 hl fun _ hl=>?_;exact Eq.mpr (Bgh ..) hl,
  fun f h hl=>by
    refine Ya 3 hl fun _ hl=>?_;refine Ya 4 hl fun _ hl=>?_;refine Ya 6 hl fun _ hl=>?_;exact Eq.mpr (Bgg ..) hl,
  trivial⟩) rfl hg
theorem w91(hc:Bi c){m:Nat}{a:List AV}(hg:Cv env c q91 u91 d91 (Cr env Tryz.f91.results.toList k) m 0 (Ab a) h):zqs 91 a h k:=Cw mixed Dn hc q91 Tryz.func91 rfl (by kernel_rfl) (by kernel_rfl) (by kernel_rfl) (by simp[u91]) hg
theorem Bf5(J:J99)(l_0 c_0:Nat)(l_1 c_1:Nat):zqe c k q99 u99 (f99 J) d99 Tryz.f99 .root (Ao (Ao f 0 (.str l_0 c_0)) 1 (.str l_1 c_1)) h=Amg c k J l_0 c_0 l_1 c_1 h:=by kernel_rfl
theorem w99(hc:Bi c){n:Nat}{a:List AV}(hg:f99 (r99 c k n) 0 (Ab a) h):zqs 99 a h k:=
 zqw hc q99 Tryz.func99 rfl (by kernel_rfl) (by kernel_rfl) k u99 (fun n=>f99 (r99 c k n)) (fun L _ _ hl=>match L,hl with
  |0,hl=>Dl hl fun _ _ hl=>Dl hl fun _ _ hl=>hl
  |_+1,hl=>hl) (fun n=>⟨
  fun f h hl=>by
    refine Dk 0 hl fun _ _ hl=>?_;refine Dk 1 hl fun _ _ hl=>?_;exact Eq.mpr (Bf5 ..) hl,
  trivial⟩) rfl hg
theorem Bak(J:Ay5):zqe c k Bd1 Bc8 (f100 J) d100 Tryz.f100 .root f h=Afa c k J (f 0) h:=by kernel_rfl
theorem Bcp(hc:Bi c){n:Nat}{a:List AV}(hg:f100 (At8 c k n) 0 (Ab a) h):zqs 100 a h k:=
 zqw hc Bd1 Tryz.func100 rfl (by kernel_rfl) (by kernel_rfl) k Bc8 (fun n=>f100 (At8 c k n)) (fun L _ _ hl=>match L,hl with
  |0,hl=>hl
  |_+1,hl=>hl) (fun n=>⟨
  fun f h hl=>Eq.mpr (Bak ..) hl,
  trivial⟩) rfl hg
theorem Bma(hc:Bi c){m:Nat}{a:List AV}(hg:Cv env c A7e A5y d113 (Cr env Tryz.f113.results.toList k) m 0 (Ab a) h):zqs 113 a h k:=Cw mixed Dn hc A7e Tryz.func113 rfl (by kernel_rfl) (by kernel_rfl) (by kernel_rfl) (by simp[A5y]) hg
theorem Bac(J:Ay2)(n_1 n_2:Int):zqe c k Bdy Bc5 (f121 J) d121 Tryz.f121 .root (Ao (Ao f 1 (.int .i64 n_1)) 2 (.int .i64 n_2)) h=Ae2 c k J (f 0) n_1 n_2 h:=by kernel_rfl
theorem Bck(hc:Bi c){n:Nat}{a:List AV}(hg:f121 (At5 c k n) 0 (Ab a) h):zqs 121 a h k:=
 zqw hc Bdy Tryz.func121 rfl (by kernel_rfl) (by kernel_rfl) k Bc5 (fun n=>f121 (At5 c k n)) (fun L _ _ hl=>match L,hl with
  |0,hl=>Bz hl fun _ hl=>Bz hl fun _ hl=>hl
  |_+1,hl=>hl) (fun n=>⟨
  fun f h hl=>by
    refine By 1 hl fun _ hl=>?_;refine By 2 hl fun _ hl=>?_;exact Eq.mpr (Bac ..) hl,
  trivial⟩) rfl hg
theorem Bl6(hc:Bi c){m:Nat}{a:List AV}(hg:Cv env c A68 A5s d137 (Cr env Tryz.f137.results.toList k) m 0 (Ab a) h):zqs 137 a h k:=Cw mixed Dn hc A68 Tryz.func137 rfl (by kernel_rfl) (by kernel_rfl) (by kernel_rfl) (by simp[A5s]) hg
theorem Bl2(hc:Bi c){m:Nat}{a:List AV}(hg:Cv env c A64 A5o d148 (Cr env Tryz.f148.results.toList k) m 0 (Ab a) h):zqs 148 a h k:=Cw mixed Dn hc A64 Tryz.func148 rfl (by kernel_rfl) (by kernel_rfl) (by kernel_rfl) (by simp[A5o]) hg
theorem A94(J:Al5)(n_1:Int):zqe c k A62 A5m (f155 J) d155 Tryz.f155 .root (Ao f 1 (.int .i64 n_1)) h=Aex c k J (f 0) n_1 h:=by kernel_rfl
theorem A93(J:Al5)(n_1:Int):zqe c k A62 A5m (f155 J) d155 Tryz.f155 (.l (.r (.r .root))) (Ao f 1 (.int .i64 n_1)) h=Aew c k J (f 0) n_1 h:=by kernel_rfl
theorem Bcf(hc:Bi c){n:Nat}{a:List AV}(hg:f155 (Aki c k n) 0 (Ab a) h):zqs 155 a h k:=
 zqw hc A62 Tryz.func155 rfl (by kernel_rfl) (by kernel_rfl) k A5m (fun n=>f155 (Aki c k n)) (fun L _ _ hl=>match L,hl with
  |0,hl=>Bz hl fun _ hl=>hl
  |1,hl=>Bz hl fun _ hl=>hl
  |_+2,hl=>hl) (fun n=>⟨
  fun f h hl=>by
    refine By 1 hl fun _ hl=>?_;exact Eq.mpr (A94 ..) hl,
  fun f h hl=>by
    refine By 1 hl fun _ hl=>?_;exact Eq.mpr (A93 ..) hl,
  trivial⟩) rfl hg
theorem A9w(J:Ayx)(n_0:Int):zqe c k Bdt Bc0 (f168 J) d168 Tryz.f168 .root (Ao f 0 (.int .u8 n_0)) h=Aeq c k J n_0 h:=by kernel_rfl
theorem Bca(hc:Bi c){n:Nat}{a:List AV}(hg:f168 (Atz c k n) 0 (Ab a) h):zqs 168 a h k:=
 zqw hc Bdt Tryz.func168 rfl (by kernel_rfl) (by kernel_rfl) k Bc0 (fun n=>f168 (Atz c k n)) (fun L _ _ hl=>match L,hl with
  |0,hl=>Bz hl fun _ hl=>hl
  |_+1,hl=>hl) (fun n=>⟨
  fun f h hl=>by
    refine By 0 hl fun _ hl=>?_;exact Eq.mpr (A9w ..) hl,
  trivial⟩) rfl hg
theorem A9v(J:Abw):zqe c k At9 Ass (f169 J) d169 Tryz.f169 .root f h=Aep c k J (f 0) h:=by kernel_rfl
theorem A9u(J:Abw)(n_3:Int):zqe c k At9 Ass (f169 J) d169 Tryz.f169 (.l (.r (.r (.r (.r (.r .root)))))) (Ao f 3 (.int .i64 n_3)) h=Aeo c k J (f 0) n_3 h:=by kernel_rfl
theorem A9t(J:Abw)(n_3:Int):zqe c k At9 Ass (f169 J) d169 Tryz.f169 (.r (.l (.l (.r (.r (.r (.r (.r .root)))))))) (Ao f 3 (.int .i64 n_3)) h=Aen c k J (f 0) n_3 h:=by kernel_rfl
theorem A9s(J:Abw)(n_3:Int):zqe c k At9 Ass (f169 J) d169 Tryz.f169 (.r (.r (.r .root))) (Ao f 3 (.int .i64 n_3)) h=Aem c k J (f 0) n_3 h:=by kernel_rfl
theorem Bb9(hc:Bi c){n:Nat}{a:List AV}(hg:f169 (Ul c k n) 0 (Ab a) h):zqs 169 a h k:=
 zqw hc At9 Tryz.func169 rfl (by kernel_rfl) (by kernel_rfl) k Ass (fun n=>f169 (Ul c k n)) (fun L _ _ hl=>match L,hl with
  |0,hl=>hl
  |1,hl=>Bz hl fun _ hl=>hl
  |2,hl=>Bz hl fun _ hl=>hl
  |3,hl=>Bz hl fun _ hl=>hl
  |_+4,hl=>hl) (fun n=>⟨
  fun f h hl=>Eq.mpr (A9v ..) hl,
  fun f h hl=>by
    refine By 3 hl fun _ hl=>?_;exact Eq.mpr (A9u ..) hl,
  fun f h hl=>by
    refine By 3 hl fun _ hl=>?_;exact Eq.mpr (A9t ..) hl,
  fun f h hl=>by
    refine By 3 hl fun _ hl=>?_;exact Eq.mpr (A9s ..) hl,
  trivial⟩) rfl hg
theorem A9r(J:Al2):zqe c k A6y A5i (f170 J) d170 Tryz.f170 .root f h=Ael c k J (f 0) h:=by kernel_rfl
theorem A9q(J:Al2)(n_9 n_10:Int):zqe c k A6y A5i (f170 J) d170 Tryz.f170 (.l (.r (.l (.r (.r .root))))) (Ao (Ao f 9 (.int .i64 n_9)) 10 (.int .i64 n_10)) h=Aek c k J (f 0) (f 8) n_9 n_10 h:=by kernel_rfl
theorem Bb8(hc:Bi c){n:Nat}{a:List AV}(hg:f170 (Ahu c k n) 0 (Ab a) h):zqs 170 a h k:=
 zqw hc A6y Tryz.func170 rfl (by kernel_rfl) (by kernel_rfl) k A5i (fun n=>f170 (Ahu c k n)) (fun L _ _ hl=>match L,hl with
  |0,hl=>hl
  |1,hl=>Bz hl fun _ hl=>Bz hl fun _ hl=>hl
  |_+2,hl=>hl) (fun n=>⟨
  fun f h hl=>Eq.mpr (A9r ..) hl,
  fun f h hl=>by
    refine By 9 hl fun _ hl=>?_;refine By 10 hl fun _ hl=>?_;exact Eq.mpr (A9q ..) hl,
  trivial⟩) rfl hg
theorem Bly(hc:Bi c){m:Nat}{a:List AV}(hg:Cv env c A6w A5g d179 (Cr env Tryz.f179.results.toList k) m 0 (Ab a) h):zqs 179 a h k:=Cw mixed Dn hc A6w Tryz.func179 rfl (by kernel_rfl) (by kernel_rfl) (by kernel_rfl) (by simp[A5g]) hg
theorem A9p(J:Ayw)(l_0 c_0:Nat)(l_1 c_1:Nat):zqe c k Bds Bcz (f186 J) d186 Tryz.f186 .root (Ao (Ao f 0 (.str l_0 c_0)) 1 (.str l_1 c_1)) h=Aej c k J l_0 c_0 l_1 c_1 h:=by kernel_rfl
theorem Bb7(hc:Bi c){n:Nat}{a:List AV}(hg:f186 (Aty c k n) 0 (Ab a) h):zqs 186 a h k:=
 zqw hc Bds Tryz.func186 rfl (by kernel_rfl) (by kernel_rfl) k Bcz (fun n=>f186 (Aty c k n)) (fun L _ _ hl=>match L,hl with
  |0,hl=>Dl hl fun _ _ hl=>Dl hl fun _ _ hl=>hl
  |_+1,hl=>hl) (fun n=>⟨
  fun f h hl=>by
    refine Dk 0 hl fun _ _ hl=>?_;refine Dk 1 hl fun _ _ hl=>?_;exact Eq.mpr (A9p ..) hl,
  trivial⟩) rfl hg
theorem Blt(hc:Bi c){m:Nat}{a:List AV}(hg:Cv env c A6s A5c d200 (Cr env Tryz.f200.results.toList k) m 0 (Ab a) h):zqs 200 a h k:=Cw mixed Dn hc A6s Tryz.func200 rfl (by kernel_rfl) (by kernel_rfl) (by kernel_rfl) (by simp[A5c]) hg
theorem A9m(J:Ayt):zqe c k Bdo Bcw (f205 J) d205 Tryz.f205 .root f h=Aeg c k J (f 0) h:=by kernel_rfl
theorem Bb4(hc:Bi c){n:Nat}{a:List AV}(hg:f205 (Atu c k n) 0 (Ab a) h):zqs 205 a h k:=
 zqw hc Bdo Tryz.func205 rfl (by kernel_rfl) (by kernel_rfl) k Bcw (fun n=>f205 (Atu c k n)) (fun L _ _ hl=>match L,hl with
  |0,hl=>hl
  |_+1,hl=>hl) (fun n=>⟨
  fun f h hl=>Eq.mpr (A9m ..) hl,
  trivial⟩) rfl hg
theorem Blp(hc:Bi c){m:Nat}{a:List AV}(hg:Cv env c A6n A47 d216 (Cr env Tryz.f216.results.toList k) m 0 (Ab a) h):zqs 216 a h k:=Cw mixed Dn hc A6n Tryz.func216 rfl (by kernel_rfl) (by kernel_rfl) (by kernel_rfl) (by simp[A47]) hg
theorem Awq(J:Ayr):zqe c k A6k A44 (f224 J) d224 Tryz.f224 .root f h=Atj c k J (f 0) h:=by kernel_rfl
theorem Blm(hc:Bi c){n:Nat}{a:List AV}(hg:f224 (Akg c k n) 0 (Ab a) h):zqs 224 a h k:=
 zqw hc A6k Tryz.func224 rfl (by kernel_rfl) (by kernel_rfl) k A44 (fun n=>f224 (Akg c k n)) (fun L _ _ hl=>match L,hl with
  |0,hl=>hl
  |_+1,hl=>hl) (fun n=>⟨
  fun f h hl=>Eq.mpr (Awq ..) hl,
  trivial⟩) rfl hg
theorem Bb0(hc:Bi c){n:Nat}{a:List AV}(hg:f224 (Akg c k n) 0 (Ab a) h):A4l 224 a h k:=
 Bbn hc A6k Tryz.func224 rfl (by kernel_rfl) (by kernel_rfl) k A44 (fun n=>f224 (Akg c k n)) (fun L _ _ hl=>match L,hl with
  |0,hl=>hl
  |_+1,hl=>hl) (fun n=>⟨
  fun f h hl=>Eq.mpr (Awq ..) hl,
  trivial⟩) rfl hg
theorem Blj(hc:Bi c){m:Nat}{a:List AV}(hg:Cv env c A6h A41 d236 (Cr env Tryz.f236.results.toList k) m 0 (Ab a) h):zqs 236 a h k:=Cw mixed Dn hc A6h Tryz.func236 rfl (by kernel_rfl) (by kernel_rfl) (by kernel_rfl) (by simp[A41]) hg
end Go.Den
