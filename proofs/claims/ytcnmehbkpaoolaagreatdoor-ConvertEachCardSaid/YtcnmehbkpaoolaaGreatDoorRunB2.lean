/-
 Proof.
-/
import Derived.Test.YtcnmehbkpaoolaaGreatDoorRunA1
import Derived.KernelRfl
namespace Go.Den
open Go.Proofs
set_option maxRecDepth 100000
variable{c:CF}{k:KV}{f:FT}{h:H}
theorem Bfr(J:J22)(l_0 c_0:Nat):zqe c k q22 u22 (f22 J) d22 Tryz.f22 .root (Ag f 0 (.str l_0 c_0)) h=Anq c k J l_0 c_0 h:=by kernel_rfl
theorem Bfq(J:J22)(n_6:Int):zqe c k q22 u22 (f22 J) d22 Tryz.f22 (.l (.r (.l (.r (.r (.r .root)))))) (Ag f 6 (.int .i64 n_6)) h=Anp c k J (f 3) (f 5) n_6 h:=by kernel_rfl
theorem w22(hc:Ch c){n:Nat}{a:List AV}(hg:f22 (r22 c k n) 0 (Ac a) h):zqs 22 a h k:=
 zqw hc q22 Tryz.func22 rfl (by kernel_rfl) (by kernel_rfl) k u22 (fun n=>f22 (r22 c k n)) (fun L _ _ hl=>match L,hl with
  |0,hl=>Bt hl fun _ _ hl=>hl
  |1,hl=>Bg hl fun _ hl=>hl
  |_+2,hl=>hl) (fun n=>⟨
  fun f h hl=>by
    refine Bs 0 hl fun _ _ hl=>?_;exact Eq.mpr (Bfr ..) hl,
  fun f h hl=>by
    refine Bf 6 hl fun _ hl=>?_;exact Eq.mpr (Bfq ..) hl,
  trivial⟩) rfl hg
theorem Bfp(J:J34)(n_1:Int):zqe c k q34 u34 (f34 J) d34 Tryz.f34 .root (Ag f 1 (.int .i64 n_1)) h=Ano c k J (f 0) n_1 h:=by kernel_rfl
theorem Bfo(J:J34)(n_1:Int)(l_7 c_7:Nat)(b_8:Bool)(n_9 n_10:Int):zqe c k q34 u34 (f34 J) d34 Tryz.f34 (.l (.r (.l (.r (.r (.r (.r .root))))))) (Ag (Ag (Ag (Ag (Ag f 1 (.int .i64 n_1)) 7 (.str l_7 c_7)) 8 (.bool b_8)) 9 (.int .i64 n_9)) 10 (.int .i64 n_10)) h=Ann c k J (f 0) n_1 (f 5) (f 6) l_7 c_7 b_8 n_9 n_10 h:=by kernel_rfl
theorem Bfn(J:J34)(n_1:Int)(l_7 c_7:Nat)(b_8:Bool)(n_10:Int)(l_12 c_12:Nat):zqe c k q34 u34 (f34 J) d34 Tryz.f34 (.r (.r (.r (.r (.r (.r (.l (.l (.r (.l (.l (.r (.l (.r (.r (.r (.r .root))))))))))))))))) (Ag (Ag (Ag (Ag (Ag f 1 (.int .i64 n_1)) 7 (.str l_7 c_7)) 8 (.bool b_8)) 10 (.int .i64 n_10)) 12 (.str l_12 c_12)) h=Anm c k J (f 0) n_1 (f 5) (f 6) l_7 c_7 b_8 n_10 l_12 c_12 h:=by kernel_rfl
theorem Bfm(J:J34)(n_1:Int)(l_7 c_7:Nat)(b_8:Bool)(n_9 n_10:Int):zqe c k q34 u34 (f34 J) d34 Tryz.f34 (.r (.r (.l (.l (.r (.l (.r (.r (.r (.r .root)))))))))) (Ag (Ag (Ag (Ag (Ag f 1 (.int .i64 n_1)) 7 (.str l_7 c_7)) 8 (.bool b_8)) 9 (.int .i64 n_9)) 10 (.int .i64 n_10)) h=Anl c k J (f 0) n_1 (f 5) (f 6) l_7 c_7 b_8 n_9 n_10 h:=by kernel_rfl
theorem Bfl(J:J34)(n_1:Int)(l_7 c_7:Nat)(n_9:Int):zqe c k q34 u34 (f34 J) d34 Tryz.f34 (.r (.r (.r (.r (.r .root))))) (Ag (Ag (Ag f 1 (.int .i64 n_1)) 7 (.str l_7 c_7)) 9 (.int .i64 n_9)) h=Ank c k J (f 0) n_1 (f 5) (f 6) l_7 c_7 n_9 h:=by kernel_rfl
theorem w34(hc:Ch c){n:Nat}{a:List AV}(hg:f34 (r34 c k n) 0 (Ac a) h):zqs 34 a h k:=
 zqw hc q34 Tryz.func34 rfl (by kernel_rfl) (by kernel_rfl) k u34 (fun n=>f34 (r34 c k n)) (fun L _ _ hl=>match L,hl with
  |0,hl=>Bg hl fun _ hl=>hl
  |1,hl=>Bg hl fun _ hl=>Bt hl fun _ _ hl=>Iv hl fun _ hl=>Bg hl fun _ hl=>Bg hl fun _ hl=>hl
  |2,hl=>Bg hl fun _ hl=>Bt hl fun _ _ hl=>Iv hl fun _ hl=>Bg hl fun _ hl=>Bt hl fun _ _ hl=>hl
  |3,hl=>Bg hl fun _ hl=>Bt hl fun _ _ hl=>Iv hl fun _ hl=>Bg hl fun _ hl=>Bg hl fun _ hl=>hl
  |4,hl=>Bg hl fun _ hl=>Bt hl fun _ _ hl=>Bg hl fun _ hl=>hl
  |_+5,hl=>hl) (fun n=>⟨
  fun f h hl=>by
    refine Bf 1 hl fun _ hl=>?_;exact Eq.mpr (Bfp ..) hl,
  fun f h hl=>by
    refine Bf 1 hl fun _ hl=>?_;refine Bs 7 hl fun _ _ hl=>?_;refine Iu 8 hl fun _ hl=>?_;refine Bf 9 hl fun _ hl=>?_;refine Bf 10 hl fun _ hl=>?_;exact Eq.mpr (Bfo ..) hl,
  fun f h hl=>by
    refine Bf 1 hl fun _ hl=>?_;refine Bs 7 hl fun _ _ hl=>?_;refine Iu 8 hl fun _ hl=>?_;refine Bf 10 hl fun _ hl=>?_;refine Bs 12 hl fun _ _ hl=>?_;exact Eq.mpr (Bfn ..) hl,
  fun f h hl=>by
    refine Bf 1 hl fun _ hl=>?_;refine Bs 7 hl fun _ _ hl=>?_;refine Iu 8 hl fun _ hl=>?_;refine Bf 9 hl fun _ hl=>?_;refine Bf 10 hl fun _ hl=>?_;exact Eq.mpr (Bfm ..) hl,
  fun f h hl=>by
    refine Bf 1 hl fun _ hl=>?_;refine Bs 7 hl fun _ _ hl=>?_;refine Bf 9 hl fun _ hl=>?_;exact Eq.mpr (Bfl ..) hl,
  trivial⟩) rfl hg
theorem Bfk(J:J35):zqe c k q35 u35 (f35 J) d35 Tryz.f35 .root f h=Anj c k J (f 0) (f 1) h:=by kernel_rfl
theorem w35(hc:Ch c){n:Nat}{a:List AV}(hg:f35 (r35 c k n) 0 (Ac a) h):zqs 35 a h k:=
 zqw hc q35 Tryz.func35 rfl (by kernel_rfl) (by kernel_rfl) k u35 (fun n=>f35 (r35 c k n)) (fun L _ _ hl=>match L,hl with
  |0,hl=>hl
  |_+1,hl=>hl) (fun n=>⟨
  fun f h hl=>Eq.mpr (Bfk ..) hl,
  trivial⟩) rfl hg
theorem Bfj(J:J36):zqe c k q36 u36 (f36 J) d36 Tryz.f36 .root f h=Ani c k J (f 0) (f 1) h:=by kernel_rfl
theorem w36(hc:Ch c){n:Nat}{a:List AV}(hg:f36 (r36 c k n) 0 (Ac a) h):zqs 36 a h k:=
 zqw hc q36 Tryz.func36 rfl (by kernel_rfl) (by kernel_rfl) k u36 (fun n=>f36 (r36 c k n)) (fun L _ _ hl=>match L,hl with
  |0,hl=>hl
  |_+1,hl=>hl) (fun n=>⟨
  fun f h hl=>Eq.mpr (Bfj ..) hl,
  trivial⟩) rfl hg
theorem Bfh(J:J46)(l_0 c_0:Nat)(l_1 c_1:Nat):zqe c k q46 u46 (f46 J) d46 Tryz.f46 .root (Ag (Ag f 0 (.str l_0 c_0)) 1 (.str l_1 c_1)) h=Anh c k J l_0 c_0 l_1 c_1 h:=by kernel_rfl
theorem Bfg(J:J46)(l_0 c_0:Nat)(l_1 c_1:Nat)(b_10:Bool)(n_11:Int):zqe c k q46 u46 (f46 J) d46 Tryz.f46 (.l (.r (.l (.r (.r (.r (.r (.r (.r .root))))))))) (Ag (Ag (Ag (Ag f 0 (.str l_0 c_0)) 1 (.str l_1 c_1)) 10 (.bool b_10)) 11 (.int .i64 n_11)) h=Ab7 c k J l_0 c_0 l_1 c_1 (f 6) (f 7) (f 8) (f 9) b_10 n_11 h:=by kernel_rfl
theorem Bff(J:J46)(l_0 c_0:Nat)(l_1 c_1:Nat)(n_15:Int):zqe c k q46 u46 (f46 J) d46 Tryz.f46 (.r (.r (.r (.r (.r (.r (.r (.r (.l (.r (.l (.l (.r (.l (.r (.r (.r (.r (.r (.r .root)))))))))))))))))))) (Ag (Ag (Ag f 0 (.str l_0 c_0)) 1 (.str l_1 c_1)) 15 (.int .i64 n_15)) h=Ahl c k J l_0 c_0 l_1 c_1 (f 6) (f 7) (f 8) (f 9) n_15 h:=by kernel_rfl
theorem Bfe(J:J46):zqe c k q46 u46 (f46 J) d46 Tryz.f46 (.r (.r (.r (.r (.r (.r (.r (.r .root)))))))) f h=Yw c k J (f 7) (f 8) h:=by kernel_rfl
theorem Bfd(J:J46)(l_1 c_1:Nat):zqe c k q46 u46 (f46 J) d46 Tryz.f46 (.r (.l (.r (.l (.l (.r (.l (.r (.r (.r (.l (.r (.l (.l (.r (.l (.r (.r (.r (.r (.r (.r .root)))))))))))))))))))))) (Ag f 1 (.str l_1 c_1)) h=Ang c k J l_1 c_1 (f 7) (f 8) (f 9) h:=by kernel_rfl
theorem Bfc(J:J46)(l_0 c_0:Nat)(l_1 c_1:Nat)(b_10:Bool)(n_11 n_14 n_15:Int)(b_16:Bool):zqe c k q46 u46 (f46 J) d46 Tryz.f46 (.r (.r (.r (.r (.r (.l (.r (.l (.l (.r (.l (.r (.r (.r (.r (.r (.r .root))))))))))))))))) (Ag (Ag (Ag (Ag (Ag (Ag (Ag f 0 (.str l_0 c_0)) 1 (.str l_1 c_1)) 10 (.bool b_10)) 11 (.int .i64 n_11)) 14 (.int .i64 n_14)) 15 (.int .i64 n_15)) 16 (.bool b_16)) h=Anf c k J l_0 c_0 l_1 c_1 (f 6) (f 7) (f 8) (f 9) b_10 n_11 n_14 n_15 b_16 h:=by kernel_rfl
theorem w46(hc:Ch c){n:Nat}{a:List AV}(hg:f46 (r46 c k n) 0 (Ac a) h):zqs 46 a h k:=
 zqw hc q46 Tryz.func46 rfl (by kernel_rfl) (by kernel_rfl) k u46 (fun n=>f46 (r46 c k n)) (fun L _ _ hl=>match L,hl with
  |0,hl=>Bt hl fun _ _ hl=>Bt hl fun _ _ hl=>hl
  |1,hl=>Bt hl fun _ _ hl=>Bt hl fun _ _ hl=>Iv hl fun _ hl=>Bg hl fun _ hl=>hl
  |2,hl=>Bt hl fun _ _ hl=>Bt hl fun _ _ hl=>Bg hl fun _ hl=>hl
  |3,hl=>hl
  |4,hl=>Bt hl fun _ _ hl=>hl
  |5,hl=>Bt hl fun _ _ hl=>Bt hl fun _ _ hl=>Iv hl fun _ hl=>Bg hl fun _ hl=>Bg hl fun _ hl=>Bg hl fun _ hl=>Iv hl fun _ hl=>hl
  |_+6,hl=>hl) (fun n=>⟨
  fun f h hl=>by
    refine Bs 0 hl fun _ _ hl=>?_;refine Bs 1 hl fun _ _ hl=>?_;exact Eq.mpr (Bfh ..) hl,
  fun f h hl=>by
    refine Bs 0 hl fun _ _ hl=>?_;refine Bs 1 hl fun _ _ hl=>?_;refine Iu 10 hl fun _ hl=>?_;refine Bf 11 hl fun _ hl=>?_;exact Eq.mpr (Bfg ..) hl,
  fun f h hl=>by
    refine Bs 0 hl fun _ _ hl=>?_;refine Bs 1 hl fun _ _ hl=>?_;refine Bf 15 hl fun _ hl=>?_;exact Eq.mpr (Bff ..) hl,
  fun f h hl=>Eq.mpr (Bfe ..) hl,
  fun f h hl=>by
    refine Bs 1 hl fun _ _ hl=>?_;exact Eq.mpr (Bfd ..) hl,
  fun f h hl=>by
    refine Bs 0 hl fun _ _ hl=>?_;refine Bs 1 hl fun _ _ hl=>?_;refine Iu 10 hl fun _ hl=>?_;refine Bf 11 hl fun _ hl=>?_;refine Bf 14 hl fun _ hl=>?_;refine Bf 15 hl fun _ hl=>?_;refine Iu 16 hl fun _ hl=>?_;exact Eq.mpr (Bfc ..) hl,
  trivial⟩) rfl hg
theorem Be7(J:J60)(l_0 c_0:Nat):zqe c k q60 u60 (f60 J) d60 Tryz.f60 .root (Ag f 0 (.str l_0 c_0)) h=Ana c k J l_0 c_0 h:=by kernel_rfl
theorem Be6(J:J60)(l_0 c_0:Nat)(n_9 n_10:Int):zqe c k q60 u60 (f60 J) d60 Tryz.f60 (.l (.r (.l (.r .root)))) (Ag (Ag (Ag f 0 (.str l_0 c_0)) 9 (.int .i64 n_9)) 10 (.int .i64 n_10)) h=Am9 c k J l_0 c_0 (f 8) n_9 n_10 h:=by kernel_rfl
theorem w60(hc:Ch c){n:Nat}{a:List AV}(hg:f60 (r60 c k n) 0 (Ac a) h):zqs 60 a h k:=
 zqw hc q60 Tryz.func60 rfl (by kernel_rfl) (by kernel_rfl) k u60 (fun n=>f60 (r60 c k n)) (fun L _ _ hl=>match L,hl with
  |0,hl=>Bt hl fun _ _ hl=>hl
  |1,hl=>Bt hl fun _ _ hl=>Bg hl fun _ hl=>Bg hl fun _ hl=>hl
  |_+2,hl=>hl) (fun n=>⟨
  fun f h hl=>by
    refine Bs 0 hl fun _ _ hl=>?_;exact Eq.mpr (Be7 ..) hl,
  fun f h hl=>by
    refine Bs 0 hl fun _ _ hl=>?_;refine Bf 9 hl fun _ hl=>?_;refine Bf 10 hl fun _ hl=>?_;exact Eq.mpr (Be6 ..) hl,
  trivial⟩) rfl hg
theorem Be5(J:J61)(l_1 c_1:Nat):zqe c k q61 u61 (f61 J) d61 Tryz.f61 .root (Ag f 1 (.str l_1 c_1)) h=Ahi c k J (f 0) l_1 c_1 h:=by kernel_rfl
theorem w61(hc:Ch c){n:Nat}{a:List AV}(hg:f61 (r61 c k n) 0 (Ac a) h):zqs 61 a h k:=
 zqw hc q61 Tryz.func61 rfl (by kernel_rfl) (by kernel_rfl) k u61 (fun n=>f61 (r61 c k n)) (fun L _ _ hl=>match L,hl with
  |0,hl=>Bt hl fun _ _ hl=>hl
  |_+1,hl=>hl) (fun n=>⟨
  fun f h hl=>by
    refine Bs 1 hl fun _ _ hl=>?_;exact Eq.mpr (Be5 ..) hl,
  trivial⟩) rfl hg
theorem Be4(J:J62)(l_0 c_0:Nat):zqe c k q62 u62 (f62 J) d62 Tryz.f62 .root (Ag f 0 (.str l_0 c_0)) h=Am8 c k J l_0 c_0 h:=by kernel_rfl
theorem w62(hc:Ch c){n:Nat}{a:List AV}(hg:f62 (r62 c k n) 0 (Ac a) h):zqs 62 a h k:=
 zqw hc q62 Tryz.func62 rfl (by kernel_rfl) (by kernel_rfl) k u62 (fun n=>f62 (r62 c k n)) (fun L _ _ hl=>match L,hl with
  |0,hl=>Bt hl fun _ _ hl=>hl
  |_+1,hl=>hl) (fun n=>⟨
  fun f h hl=>by
    refine Bs 0 hl fun _ _ hl=>?_;exact Eq.mpr (Be4 ..) hl,
  trivial⟩) rfl hg
theorem Be3(J:J63):zqe c k q63 u63 (f63 J) d63 Tryz.f63 .root f h=Ahh c k J (f 0) h:=by kernel_rfl
theorem w63(hc:Ch c){n:Nat}{a:List AV}(hg:f63 (r63 c k n) 0 (Ac a) h):zqs 63 a h k:=
 zqw hc q63 Tryz.func63 rfl (by kernel_rfl) (by kernel_rfl) k u63 (fun n=>f63 (r63 c k n)) (fun L _ _ hl=>match L,hl with
  |0,hl=>hl
  |_+1,hl=>hl) (fun n=>⟨
  fun f h hl=>Eq.mpr (Be3 ..) hl,
  trivial⟩) rfl hg
theorem Be2(J:J64)(l_0 c_0:Nat):zqe c k q64 u64 (f64 J) d64 Tryz.f64 .root (Ag f 0 (.str l_0 c_0)) h=Am7 c k J l_0 c_0 h:=by kernel_rfl
theorem Be1(J:J64)(l_4 c_4:Nat)(b_5 b_6:Bool)(n_7:Int)(l_8 c_8:Nat):zqe c k q64 u64 (f64 J) d64 Tryz.f64 (.r (.r (.r (.r (.r .root))))) (Ag (Ag (Ag (Ag (Ag f 4 (.str l_4 c_4)) 5 (.bool b_5)) 6 (.bool b_6)) 7 (.int .i64 n_7)) 8 (.str l_8 c_8)) h=Am6 c k J (f 2) l_4 c_4 b_5 b_6 n_7 l_8 c_8 h:=by kernel_rfl
theorem w64(hc:Ch c){n:Nat}{a:List AV}(hg:f64 (r64 c k n) 0 (Ac a) h):zqs 64 a h k:=
 zqw hc q64 Tryz.func64 rfl (by kernel_rfl) (by kernel_rfl) k u64 (fun n=>f64 (r64 c k n)) (fun L _ _ hl=>match L,hl with
  |0,hl=>Bt hl fun _ _ hl=>hl
  |1,hl=>Bt hl fun _ _ hl=>Iv hl fun _ hl=>Iv hl fun _ hl=>Bg hl fun _ hl=>Bt hl fun _ _ hl=>hl
  |_+2,hl=>hl) (fun n=>⟨
  fun f h hl=>by
    refine Bs 0 hl fun _ _ hl=>?_;exact Eq.mpr (Be2 ..) hl,
  fun f h hl=>by
    refine Bs 4 hl fun _ _ hl=>?_;refine Iu 5 hl fun _ hl=>?_;refine Iu 6 hl fun _ hl=>?_;refine Bf 7 hl fun _ hl=>?_;refine Bs 8 hl fun _ _ hl=>?_;exact Eq.mpr (Be1 ..) hl,
  trivial⟩) rfl hg
theorem Bex(J:J66)(l_0 c_0:Nat):zqe c k q66 u66 (f66 J) d66 Tryz.f66 .root (Ag f 0 (.str l_0 c_0)) h=Am2 c k J l_0 c_0 h:=by kernel_rfl
theorem Bew(J:J66)(l_4 c_4:Nat)(l_6 c_6:Nat)(n_9 n_52 n_53:Int):zqe c k q66 u66 (f66 J) d66 Tryz.f66 (.l (.r (.l (.r (.l (.r (.l (.r (.r (.r (.r (.r .root)))))))))))) (Ag (Ag (Ag (Ag (Ag f 4 (.str l_4 c_4)) 6 (.str l_6 c_6)) 9 (.int .u32 n_9)) 52 (.int .i64 n_52)) 53 (.int .i64 n_53)) h=Am1 c k J (f 2) l_4 c_4 l_6 c_6 n_9 n_52 n_53 h:=by kernel_rfl
theorem Bev(J:J66)(l_6 c_6:Nat)(n_8:Int):zqe c k q66 u66 (f66 J) d66 Tryz.f66 (.r (.r (.r (.r (.r (.r .root)))))) (Ag (Ag f 6 (.str l_6 c_6)) 8 (.int .i64 n_8)) h=Am0 c k J (f 2) l_6 c_6 n_8 h:=by kernel_rfl
theorem w66(hc:Ch c){n:Nat}{a:List AV}(hg:f66 (r66 c k n) 0 (Ac a) h):zqs 66 a h k:=
 zqw hc q66 Tryz.func66 rfl (by kernel_rfl) (by kernel_rfl) k u66 (fun n=>f66 (r66 c k n)) (fun L _ _ hl=>match L,hl with
  |0,hl=>Bt hl fun _ _ hl=>hl
  |1,hl=>Bt hl fun _ _ hl=>Bt hl fun _ _ hl=>Bg hl fun _ hl=>Bg hl fun _ hl=>Bg hl fun _ hl=>hl
  |2,hl=>Bt hl fun _ _ hl=>Bg hl fun _ hl=>hl
  |_+3,hl=>hl) (fun n=>⟨
  fun f h hl=>by
    refine Bs 0 hl fun _ _ hl=>?_;exact Eq.mpr (Bex ..) hl,
  fun f h hl=>by
    refine Bs 4 hl fun _ _ hl=>?_;refine Bs 6 hl fun _ _ hl=>?_;refine Bf 9 hl fun _ hl=>?_;refine Bf 52 hl fun _ hl=>?_;refine Bf 53 hl fun _ hl=>?_;exact Eq.mpr (Bew ..) hl,
  fun f h hl=>by
    refine Bs 6 hl fun _ _ hl=>?_;refine Bf 8 hl fun _ hl=>?_;exact Eq.mpr (Bev ..) hl,
  trivial⟩) rfl hg
theorem w75(hc:Ch c){m:Nat}{a:List AV}(hg:Ig env c q75 u75 d75 (Gn env Tryz.f75.results.toList k) m 0 (Ac a) h):zqs 75 a h k:=Jb mixed Jm hc q75 Tryz.func75 rfl (by kernel_rfl) (by kernel_rfl) (by kernel_rfl) (by simp[u75]) hg
theorem Ben(J:J80)(n_1:Int):zqe c k q80 u80 (f80 J) d80 Tryz.f80 .root (Ag f 1 (.int .i64 n_1)) h=Ams c k J (f 0) n_1 h:=by kernel_rfl
theorem Bem(J:J80)(n_9:Int):zqe c k q80 u80 (f80 J) d80 Tryz.f80 (.l (.l (.r (.l (.r (.l (.r (.r (.r .root))))))))) (Ag f 9 (.int .i64 n_9)) h=Amr c k J (f 0) n_9 h:=by kernel_rfl
theorem Bel(J:J80)(n_1:Int):zqe c k q80 u80 (f80 J) d80 Tryz.f80 (.r (.r (.r .root))) (Ag f 1 (.int .i64 n_1)) h=Amq c k J (f 0) n_1 h:=by kernel_rfl
theorem w80(hc:Ch c){n:Nat}{a:List AV}(hg:f80 (r80 c k n) 0 (Ac a) h):zqs 80 a h k:=
 zqw hc q80 Tryz.func80 rfl (by kernel_rfl) (by kernel_rfl) k u80 (fun n=>f80 (r80 c k n)) (fun L _ _ hl=>match L,hl with
  |0,hl=>Bg hl fun _ hl=>hl
  |1,hl=>Bg hl fun _ hl=>hl
  |2,hl=>Bg hl fun _ hl=>hl
  |_+3,hl=>hl) (fun n=>⟨
  fun f h hl=>by
    refine Bf 1 hl fun _ hl=>?_;exact Eq.mpr (Ben ..) hl,
  fun f h hl=>by
    refine Bf 9 hl fun _ hl=>?_;exact Eq.mpr (Bem ..) hl,
  fun f h hl=>by
    refine Bf 1 hl fun _ hl=>?_;exact Eq.mpr (Bel ..) hl,
  trivial⟩) rfl hg
theorem Bek(J:J81):zqe c k q81 u81 (f81 J) d81 Tryz.f81 .root f h=Amp c k J (f 0) h:=by kernel_rfl
theorem Bej(J:J81)(n_4:Int):zqe c k q81 u81 (f81 J) d81 Tryz.f81 (.l (.r (.l (.r (.r .root))))) (Ag f 4 (.int .i64 n_4)) h=Amo c k J (f 0) (f 3) n_4 h:=by kernel_rfl
theorem w81(hc:Ch c){n:Nat}{a:List AV}(hg:f81 (r81 c k n) 0 (Ac a) h):zqs 81 a h k:=
 zqw hc q81 Tryz.func81 rfl (by kernel_rfl) (by kernel_rfl) k u81 (fun n=>f81 (r81 c k n)) (fun L _ _ hl=>match L,hl with
  |0,hl=>hl
  |1,hl=>Bg hl fun _ hl=>hl
  |_+2,hl=>hl) (fun n=>⟨
  fun f h hl=>Eq.mpr (Bek ..) hl,
  fun f h hl=>by
    refine Bf 4 hl fun _ hl=>?_;exact Eq.mpr (Bej ..) hl,
  trivial⟩) rfl hg
theorem A8d(J:Axt)(n_1:Int):zqe c k Bc0 Bbs (f107 J) d107 Tryz.f107 .root (Ag f 1 (.int .u8 n_1)) h=Afg c k J (f 0) n_1 h:=by kernel_rfl
theorem Baw(hc:Ch c){n:Nat}{a:List AV}(hg:f107 (Asu c k n) 0 (Ac a) h):zqs 107 a h k:=
 zqw hc Bc0 Tryz.func107 rfl (by kernel_rfl) (by kernel_rfl) k Bbs (fun n=>f107 (Asu c k n)) (fun L _ _ hl=>match L,hl with
  |0,hl=>Bg hl fun _ hl=>hl
  |_+1,hl=>hl) (fun n=>⟨
  fun f h hl=>by
    refine Bf 1 hl fun _ hl=>?_;exact Eq.mpr (A8d ..) hl,
  trivial⟩) rfl hg
theorem A8c(J:Ag2)(l_0 c_0:Nat):zqe c k Ayu Ax4 (f108 J) d108 Tryz.f108 .root (Ag f 0 (.str l_0 c_0)) h=Aff c k J l_0 c_0 h:=by kernel_rfl
theorem A8b(J:Ag2)(n_5 n_6 n_8:Int):zqe c k Ayu Ax4 (f108 J) d108 Tryz.f108 (.l (.r (.l (.r (.r (.r (.r (.r (.r (.r .root)))))))))) (Ag (Ag (Ag f 5 (.int .i64 n_5)) 6 (.int .i64 n_6)) 8 (.int .i64 n_8)) h=Afe c k J n_5 n_6 n_8 (f 38) h:=by kernel_rfl
theorem A8a(J:Ag2)(l_0 c_0:Nat)(n_5 n_6 n_7:Int):zqe c k Ayu Ax4 (f108 J) d108 Tryz.f108 (.r (.r (.r (.r (.r .root))))) (Ag (Ag (Ag (Ag f 0 (.str l_0 c_0)) 5 (.int .i64 n_5)) 6 (.int .i64 n_6)) 7 (.int .i64 n_7)) h=Afd c k J l_0 c_0 n_5 n_6 n_7 h:=by kernel_rfl
theorem Bav(hc:Ch c){n:Nat}{a:List AV}(hg:f108 (Zm c k n) 0 (Ac a) h):zqs 108 a h k:=
 zqw hc Ayu Tryz.func108 rfl (by kernel_rfl) (by kernel_rfl) k Ax4 (fun n=>f108 (Zm c k n)) (fun L _ _ hl=>match L,hl with
  |0,hl=>Bt hl fun _ _ hl=>hl
  |1,hl=>Bg hl fun _ hl=>Bg hl fun _ hl=>Bg hl fun _ hl=>hl
  |2,hl=>Bt hl fun _ _ hl=>Bg hl fun _ hl=>Bg hl fun _ hl=>Bg hl fun _ hl=>hl
  |_+3,hl=>hl) (fun n=>⟨
  fun f h hl=>by
    refine Bs 0 hl fun _ _ hl=>?_;exact Eq.mpr (A8c ..) hl,
  fun f h hl=>by
    refine Bf 5 hl fun _ hl=>?_;refine Bf 6 hl fun _ hl=>?_;refine Bf 8 hl fun _ hl=>?_;exact Eq.mpr (A8b ..) hl,
  fun f h hl=>by
    refine Bs 0 hl fun _ _ hl=>?_;refine Bf 5 hl fun _ hl=>?_;refine Bf 6 hl fun _ hl=>?_;refine Bf 7 hl fun _ hl=>?_;exact Eq.mpr (A8a ..) hl,
  trivial⟩) rfl hg
theorem A79(J:Axs)(l_0 c_0:Nat)(l_1 c_1:Nat):zqe c k Bcz Bbr (f109 J) d109 Tryz.f109 .root (Ag (Ag f 0 (.str l_0 c_0)) 1 (.str l_1 c_1)) h=Afc c k J l_0 c_0 l_1 c_1 h:=by kernel_rfl
theorem Bau(hc:Ch c){n:Nat}{a:List AV}(hg:f109 (Ass c k n) 0 (Ac a) h):zqs 109 a h k:=
 zqw hc Bcz Tryz.func109 rfl (by kernel_rfl) (by kernel_rfl) k Bbr (fun n=>f109 (Ass c k n)) (fun L _ _ hl=>match L,hl with
  |0,hl=>Bt hl fun _ _ hl=>Bt hl fun _ _ hl=>hl
  |_+1,hl=>hl) (fun n=>⟨
  fun f h hl=>by
    refine Bs 0 hl fun _ _ hl=>?_;refine Bs 1 hl fun _ _ hl=>?_;exact Eq.mpr (A79 ..) hl,
  trivial⟩) rfl hg
theorem A77(J:Axq)(l_0 c_0:Nat):zqe c k Bcx Bbp (f111 J) d111 Tryz.f111 .root (Ag f 0 (.str l_0 c_0)) h=Afa c k J l_0 c_0 h:=by kernel_rfl
theorem Bas(hc:Ch c){n:Nat}{a:List AV}(hg:f111 (Asq c k n) 0 (Ac a) h):zqs 111 a h k:=
 zqw hc Bcx Tryz.func111 rfl (by kernel_rfl) (by kernel_rfl) k Bbp (fun n=>f111 (Asq c k n)) (fun L _ _ hl=>match L,hl with
  |0,hl=>Bt hl fun _ _ hl=>hl
  |_+1,hl=>hl) (fun n=>⟨
  fun f h hl=>by
    refine Bs 0 hl fun _ _ hl=>?_;exact Eq.mpr (A77 ..) hl,
  trivial⟩) rfl hg
theorem A75(J:Amk)(l_0 c_0:Nat):zqe c k A31 A29 (f113 J) d113 Tryz.f113 .root (Ag f 0 (.str l_0 c_0)) h=Ae8 c k J l_0 c_0 h:=by kernel_rfl
theorem A74(J:Amk)(l_0 c_0:Nat)(b_2:Bool):zqe c k A31 A29 (f113 J) d113 Tryz.f113 (.r (.r .root)) (Ag (Ag f 0 (.str l_0 c_0)) 2 (.bool b_2)) h=Ae7 c k J l_0 c_0 b_2 h:=by kernel_rfl
theorem Baq(hc:Ch c){n:Nat}{a:List AV}(hg:f113 (Ahw c k n) 0 (Ac a) h):zqs 113 a h k:=
 zqw hc A31 Tryz.func113 rfl (by kernel_rfl) (by kernel_rfl) k A29 (fun n=>f113 (Ahw c k n)) (fun L _ _ hl=>match L,hl with
  |0,hl=>Bt hl fun _ _ hl=>hl
  |1,hl=>Bt hl fun _ _ hl=>Iv hl fun _ hl=>hl
  |_+2,hl=>hl) (fun n=>⟨
  fun f h hl=>by
    refine Bs 0 hl fun _ _ hl=>?_;exact Eq.mpr (A75 ..) hl,
  fun f h hl=>by
    refine Bs 0 hl fun _ _ hl=>?_;refine Iu 2 hl fun _ hl=>?_;exact Eq.mpr (A74 ..) hl,
  trivial⟩) rfl hg
theorem A72(J:Axn)(l_0 c_0:Nat)(l_1 c_1:Nat):zqe c k Bcu Bbm (f115 J) d115 Tryz.f115 .root (Ag (Ag f 0 (.str l_0 c_0)) 1 (.str l_1 c_1)) h=Akf c k J l_0 c_0 l_1 c_1 h:=by kernel_rfl
theorem Bao(hc:Ch c){n:Nat}{a:List AV}(hg:f115 (Asn c k n) 0 (Ac a) h):zqs 115 a h k:=
 zqw hc Bcu Tryz.func115 rfl (by kernel_rfl) (by kernel_rfl) k Bbm (fun n=>f115 (Asn c k n)) (fun L _ _ hl=>match L,hl with
  |0,hl=>Bt hl fun _ _ hl=>Bt hl fun _ _ hl=>hl
  |_+1,hl=>hl) (fun n=>⟨
  fun f h hl=>by
    refine Bs 0 hl fun _ _ hl=>?_;refine Bs 1 hl fun _ _ hl=>?_;exact Eq.mpr (A72 ..) hl,
  trivial⟩) rfl hg
theorem A70(J:Axl)(l_0 c_0:Nat)(n_1 n_2:Int):zqe c k Bcs Bbk (f117 J) d117 Tryz.f117 .root (Ag (Ag (Ag f 0 (.str l_0 c_0)) 1 (.int .i64 n_1)) 2 (.int .i64 n_2)) h=Ae4 c k J l_0 c_0 n_1 n_2 h:=by kernel_rfl
theorem Bam(hc:Ch c){n:Nat}{a:List AV}(hg:f117 (Asl c k n) 0 (Ac a) h):zqs 117 a h k:=
 zqw hc Bcs Tryz.func117 rfl (by kernel_rfl) (by kernel_rfl) k Bbk (fun n=>f117 (Asl c k n)) (fun L _ _ hl=>match L,hl with
  |0,hl=>Bt hl fun _ _ hl=>Bg hl fun _ hl=>Bg hl fun _ hl=>hl
  |_+1,hl=>hl) (fun n=>⟨
  fun f h hl=>by
    refine Bs 0 hl fun _ _ hl=>?_;refine Bf 1 hl fun _ hl=>?_;refine Bf 2 hl fun _ hl=>?_;exact Eq.mpr (A70 ..) hl,
  trivial⟩) rfl hg
theorem A7x(J:Axk):zqe c k Bcr Bbj (f119 J) d119 Tryz.f119 .root f h=Ae1 c k J (f 0) h:=by kernel_rfl
theorem Bak(hc:Ch c){n:Nat}{a:List AV}(hg:f119 (Asj c k n) 0 (Ac a) h):zqs 119 a h k:=
 zqw hc Bcr Tryz.func119 rfl (by kernel_rfl) (by kernel_rfl) k Bbj (fun n=>f119 (Asj c k n)) (fun L _ _ hl=>match L,hl with
  |0,hl=>hl
  |_+1,hl=>hl) (fun n=>⟨
  fun f h hl=>Eq.mpr (A7x ..) hl,
  trivial⟩) rfl hg
theorem A7v(J:Axi):zqe c k Bcp Bbh (f122 J) d122 Tryz.f122 .root f h=Aez c k J (f 0) h:=by kernel_rfl
theorem Bai(hc:Ch c){n:Nat}{a:List AV}(hg:f122 (Ash c k n) 0 (Ac a) h):zqs 122 a h k:=
 zqw hc Bcp Tryz.func122 rfl (by kernel_rfl) (by kernel_rfl) k Bbh (fun n=>f122 (Ash c k n)) (fun L _ _ hl=>match L,hl with
  |0,hl=>hl
  |_+1,hl=>hl) (fun n=>⟨
  fun f h hl=>Eq.mpr (A7v ..) hl,
  trivial⟩) rfl hg
theorem Bis(hc:Ch c){m:Nat}{a:List AV}(hg:Ig env c A3z A27 d124 (Gn env Tryz.f124.results.toList k) m 0 (Ac a) h):zqs 124 a h k:=Jb mixed Jm hc A3z Tryz.func124 rfl (by kernel_rfl) (by kernel_rfl) (by kernel_rfl) (by simp[A27]) hg
theorem A7u(J:Ag1):zqe c k Ayt Ax3 (f127 J) d127 Tryz.f127 .root f h=Aey c k J (f 0) h:=by kernel_rfl
theorem A7t(J:Ag1)(n_4:Int):zqe c k Ayt Ax3 (f127 J) d127 Tryz.f127 (.l (.r (.l (.r (.r .root))))) (Ag f 4 (.int .i64 n_4)) h=Zd c k J (f 0) (f 3) n_4 h:=by kernel_rfl
theorem A7s(J:Ag1)(n_4:Int):zqe c k Ayt Ax3 (f127 J) d127 Tryz.f127 (.r (.r (.l (.l (.r (.l (.r (.r .root)))))))) (Ag f 4 (.int .i64 n_4)) h=Zc c k J (f 0) (f 3) n_4 h:=by kernel_rfl
theorem Bah(hc:Ch c){n:Nat}{a:List AV}(hg:f127 (Zl c k n) 0 (Ac a) h):zqs 127 a h k:=
 zqw hc Ayt Tryz.func127 rfl (by kernel_rfl) (by kernel_rfl) k Ax3 (fun n=>f127 (Zl c k n)) (fun L _ _ hl=>match L,hl with
  |0,hl=>hl
  |1,hl=>Bg hl fun _ hl=>hl
  |2,hl=>Bg hl fun _ hl=>hl
  |_+3,hl=>hl) (fun n=>⟨
  fun f h hl=>Eq.mpr (A7u ..) hl,
  fun f h hl=>by
    refine Bf 4 hl fun _ hl=>?_;exact Eq.mpr (A7t ..) hl,
  fun f h hl=>by
    refine Bf 4 hl fun _ hl=>?_;exact Eq.mpr (A7s ..) hl,
  trivial⟩) rfl hg
theorem A7r(J:Ag0)(l_0 c_0:Nat):zqe c k Ays Ax2 (f128 J) d128 Tryz.f128 .root (Ag f 0 (.str l_0 c_0)) h=Aex c k J l_0 c_0 h:=by kernel_rfl
theorem A7q(J:Ag0)(l_0 c_0:Nat)(n_4:Int):zqe c k Ays Ax2 (f128 J) d128 Tryz.f128 (.l (.r (.l (.r (.r .root))))) (Ag (Ag f 0 (.str l_0 c_0)) 4 (.int .i64 n_4)) h=Aew c k J l_0 c_0 (f 3) n_4 h:=by kernel_rfl
theorem A7p(J:Ag0)(l_0 c_0:Nat)(n_4:Int):zqe c k Ays Ax2 (f128 J) d128 Tryz.f128 (.r (.l (.r (.l (.l (.r (.l (.r (.r .root))))))))) (Ag (Ag f 0 (.str l_0 c_0)) 4 (.int .i64 n_4)) h=Aev c k J l_0 c_0 (f 3) n_4 h:=by kernel_rfl
theorem Bag(hc:Ch c){n:Nat}{a:List AV}(hg:f128 (Zk c k n) 0 (Ac a) h):zqs 128 a h k:=
 zqw hc Ays Tryz.func128 rfl (by kernel_rfl) (by kernel_rfl) k Ax2 (fun n=>f128 (Zk c k n)) (fun L _ _ hl=>match L,hl with
  |0,hl=>Bt hl fun _ _ hl=>hl
  |1,hl=>Bt hl fun _ _ hl=>Bg hl fun _ hl=>hl
  |2,hl=>Bt hl fun _ _ hl=>Bg hl fun _ hl=>hl
  |_+3,hl=>hl) (fun n=>⟨
  fun f h hl=>by
    refine Bs 0 hl fun _ _ hl=>?_;exact Eq.mpr (A7r ..) hl,
  fun f h hl=>by
    refine Bs 0 hl fun _ _ hl=>?_;refine Bf 4 hl fun _ hl=>?_;exact Eq.mpr (A7q ..) hl,
  fun f h hl=>by
    refine Bs 0 hl fun _ _ hl=>?_;refine Bf 4 hl fun _ hl=>?_;exact Eq.mpr (A7p ..) hl,
  trivial⟩) rfl hg
theorem A7n(J:Axg)(n_1:Int):zqe c k Bcn Bbf (f130 J) d130 Tryz.f130 .root (Ag f 1 (.int .i64 n_1)) h=Aet c k J (f 0) n_1 h:=by kernel_rfl
theorem Bae(hc:Ch c){n:Nat}{a:List AV}(hg:f130 (Asf c k n) 0 (Ac a) h):zqs 130 a h k:=
 zqw hc Bcn Tryz.func130 rfl (by kernel_rfl) (by kernel_rfl) k Bbf (fun n=>f130 (Asf c k n)) (fun L _ _ hl=>match L,hl with
  |0,hl=>Bg hl fun _ hl=>hl
  |_+1,hl=>hl) (fun n=>⟨
  fun f h hl=>by
    refine Bf 1 hl fun _ hl=>?_;exact Eq.mpr (A7n ..) hl,
  trivial⟩) rfl hg
theorem A7j(J:Axf)(n_0:Int):zqe c k Bcm Bbe (f132 J) d132 Tryz.f132 .root (Ag f 0 (.int .u8 n_0)) h=Aeq c k J n_0 h:=by kernel_rfl
theorem Bac(hc:Ch c){n:Nat}{a:List AV}(hg:f132 (Ase c k n) 0 (Ac a) h):zqs 132 a h k:=
 zqw hc Bcm Tryz.func132 rfl (by kernel_rfl) (by kernel_rfl) k Bbe (fun n=>f132 (Ase c k n)) (fun L _ _ hl=>match L,hl with
  |0,hl=>Bg hl fun _ hl=>hl
  |_+1,hl=>hl) (fun n=>⟨
  fun f h hl=>by
    refine Bf 0 hl fun _ hl=>?_;exact Eq.mpr (A7j ..) hl,
  trivial⟩) rfl hg
theorem A7c(J:Axd)(l_1 c_1:Nat):zqe c k Bck Bbc (f136 J) d136 Tryz.f136 .root (Ag f 1 (.str l_1 c_1)) h=Aej c k J (f 0) l_1 c_1 h:=by kernel_rfl
theorem A98(hc:Ch c){n:Nat}{a:List AV}(hg:f136 (Asc c k n) 0 (Ac a) h):zqs 136 a h k:=
 zqw hc Bck Tryz.func136 rfl (by kernel_rfl) (by kernel_rfl) k Bbc (fun n=>f136 (Asc c k n)) (fun L _ _ hl=>match L,hl with
  |0,hl=>Bt hl fun _ _ hl=>hl
  |_+1,hl=>hl) (fun n=>⟨
  fun f h hl=>by
    refine Bs 1 hl fun _ _ hl=>?_;exact Eq.mpr (A7c ..) hl,
  trivial⟩) rfl hg
theorem A7b(J:Axc)(l_0 c_0:Nat)(n_1:Int):zqe c k Bcj Bbb (f160 J) d160 Tryz.f160 .root (Ag (Ag f 0 (.str l_0 c_0)) 1 (.int .u8 n_1)) h=Aei c k J l_0 c_0 n_1 h:=by kernel_rfl
theorem A97(hc:Ch c){n:Nat}{a:List AV}(hg:f160 (Asb c k n) 0 (Ac a) h):zqs 160 a h k:=
 zqw hc Bcj Tryz.func160 rfl (by kernel_rfl) (by kernel_rfl) k Bbb (fun n=>f160 (Asb c k n)) (fun L _ _ hl=>match L,hl with
  |0,hl=>Bt hl fun _ _ hl=>Bg hl fun _ hl=>hl
  |_+1,hl=>hl) (fun n=>⟨
  fun f h hl=>by
    refine Bs 0 hl fun _ _ hl=>?_;refine Bf 1 hl fun _ hl=>?_;exact Eq.mpr (A7b ..) hl,
  trivial⟩) rfl hg
theorem A63(J:Axa)(l_0 c_0:Nat)(l_1 c_1:Nat):zqe c k Bch Ba9 (f163 J) d163 Tryz.f163 .root (Ag (Ag f 0 (.str l_0 c_0)) 1 (.str l_1 c_1)) h=Aeb c k J l_0 c_0 l_1 c_1 h:=by kernel_rfl
theorem A94(hc:Ch c){n:Nat}{a:List AV}(hg:f163 (Ar9 c k n) 0 (Ac a) h):zqs 163 a h k:=
 zqw hc Bch Tryz.func163 rfl (by kernel_rfl) (by kernel_rfl) k Ba9 (fun n=>f163 (Ar9 c k n)) (fun L _ _ hl=>match L,hl with
  |0,hl=>Bt hl fun _ _ hl=>Bt hl fun _ _ hl=>hl
  |_+1,hl=>hl) (fun n=>⟨
  fun f h hl=>by
    refine Bs 0 hl fun _ _ hl=>?_;refine Bs 1 hl fun _ _ hl=>?_;exact Eq.mpr (A63 ..) hl,
  trivial⟩) rfl hg
theorem Biq(hc:Ch c){m:Nat}{a:List AV}(hg:Ig env c A3w A24 d168 (Gn env Tryz.f168.results.toList k) m 0 (Ac a) h):zqs 168 a h k:=Jb mixed Jm hc A3w Tryz.func168 rfl (by kernel_rfl) (by kernel_rfl) (by kernel_rfl) (by simp[A24]) hg
theorem A61(J:Amh)(l_0 c_0:Nat):zqe c k A3v A23 (f169 J) d169 Tryz.f169 .root (Ag f 0 (.str l_0 c_0)) h=Ad9 c k J l_0 c_0 (f 1) h:=by kernel_rfl
theorem A60(J:Amh)(l_0 c_0:Nat):zqe c k A3v A23 (f169 J) d169 Tryz.f169 (.l (.l (.r .root))) (Ag f 0 (.str l_0 c_0)) h=Ad8 c k J l_0 c_0 (f 1) h:=by kernel_rfl
theorem A92(hc:Ch c){n:Nat}{a:List AV}(hg:f169 (Ahu c k n) 0 (Ac a) h):zqs 169 a h k:=
 zqw hc A3v Tryz.func169 rfl (by kernel_rfl) (by kernel_rfl) k A23 (fun n=>f169 (Ahu c k n)) (fun L _ _ hl=>match L,hl with
  |0,hl=>Bt hl fun _ _ hl=>hl
  |1,hl=>Bt hl fun _ _ hl=>hl
  |_+2,hl=>hl) (fun n=>⟨
  fun f h hl=>by
    refine Bs 0 hl fun _ _ hl=>?_;exact Eq.mpr (A61 ..) hl,
  fun f h hl=>by
    refine Bs 0 hl fun _ _ hl=>?_;exact Eq.mpr (A60 ..) hl,
  trivial⟩) rfl hg
theorem A6y(J:Aw7)(l_0 c_0:Nat)(l_1 c_1:Nat):zqe c k Bce Ba6 (f172 J) d172 Tryz.f172 .root (Ag (Ag f 0 (.str l_0 c_0)) 1 (.str l_1 c_1)) h=Ad6 c k J l_0 c_0 l_1 c_1 h:=by kernel_rfl
theorem A90(hc:Ch c){n:Nat}{a:List AV}(hg:f172 (Ar6 c k n) 0 (Ac a) h):zqs 172 a h k:=
 zqw hc Bce Tryz.func172 rfl (by kernel_rfl) (by kernel_rfl) k Ba6 (fun n=>f172 (Ar6 c k n)) (fun L _ _ hl=>match L,hl with
  |0,hl=>Bt hl fun _ _ hl=>Bt hl fun _ _ hl=>hl
  |_+1,hl=>hl) (fun n=>⟨
  fun f h hl=>by
    refine Bs 0 hl fun _ _ hl=>?_;refine Bs 1 hl fun _ _ hl=>?_;exact Eq.mpr (A6y ..) hl,
  trivial⟩) rfl hg
theorem A6n(J:Amf)(n_1:Int):zqe c k A3q A2y (f208 J) d208 Tryz.f208 .root (Ag f 1 (.int .i64 n_1)) h=Adv c k J (f 0) n_1 h:=by kernel_rfl
theorem A6m(J:Amf)(n_1:Int):zqe c k A3q A2y (f208 J) d208 Tryz.f208 (.r (.r .root)) (Ag f 1 (.int .i64 n_1)) h=Adu c k J (f 0) n_1 h:=by kernel_rfl
theorem A9v(hc:Ch c){n:Nat}{a:List AV}(hg:f208 (Akk c k n) 0 (Ac a) h):zqs 208 a h k:=
 zqw hc A3q Tryz.func208 rfl (by kernel_rfl) (by kernel_rfl) k A2y (fun n=>f208 (Akk c k n)) (fun L _ _ hl=>match L,hl with
  |0,hl=>Bg hl fun _ hl=>hl
  |1,hl=>Bg hl fun _ hl=>hl
  |_+2,hl=>hl) (fun n=>⟨
  fun f h hl=>by
    refine Bf 1 hl fun _ hl=>?_;exact Eq.mpr (A6n ..) hl,
  fun f h hl=>by
    refine Bf 1 hl fun _ hl=>?_;exact Eq.mpr (A6m ..) hl,
  trivial⟩) rfl hg
theorem Bim(hc:Ch c){m:Nat}{a:List AV}(hg:Ig env c A3p A2x d214 (Gn env Tryz.f214.results.toList k) m 0 (Ac a) h):zqs 214 a h k:=Jb mixed Jm hc A3p Tryz.func214 rfl (by kernel_rfl) (by kernel_rfl) (by kernel_rfl) (by simp[A2x]) hg
theorem A6i(J:Aw1)(n_0:Int):zqe c k Bca Ba2 (f221 J) d221 Tryz.f221 .root (Ag f 0 (.int .u8 n_0)) h=Adr c k J n_0 h:=by kernel_rfl
theorem A9s(hc:Ch c){n:Nat}{a:List AV}(hg:f221 (Ar2 c k n) 0 (Ac a) h):zqs 221 a h k:=
 zqw hc Bca Tryz.func221 rfl (by kernel_rfl) (by kernel_rfl) k Ba2 (fun n=>f221 (Ar2 c k n)) (fun L _ _ hl=>match L,hl with
  |0,hl=>Bg hl fun _ hl=>hl
  |_+1,hl=>hl) (fun n=>⟨
  fun f h hl=>by
    refine Bf 0 hl fun _ hl=>?_;exact Eq.mpr (A6i ..) hl,
  trivial⟩) rfl hg
theorem Bik(hc:Ch c){m:Nat}{a:List AV}(hg:Ig env c A3m A2u d228 (Gn env Tryz.f228.results.toList k) m 0 (Ac a) h):zqs 228 a h k:=Jb mixed Jm hc A3m Tryz.func228 rfl (by kernel_rfl) (by kernel_rfl) (by kernel_rfl) (by simp[A2u]) hg
theorem Bii(hc:Ch c){m:Nat}{a:List AV}(hg:Ig env c A3k A2s d263 (Gn env Tryz.f263.results.toList k) m 0 (Ac a) h):zqs 263 a h k:=Jb mixed Jm hc A3k Tryz.func263 rfl (by kernel_rfl) (by kernel_rfl) (by kernel_rfl) (by simp[A2s]) hg
theorem A6f(J:Awy)(l_0 c_0:Nat):zqe c k Bb7 Baz (f265 J) d265 Tryz.f265 .root (Ag f 0 (.str l_0 c_0)) h=Ado c k J l_0 c_0 h:=by kernel_rfl
theorem A9p(hc:Ch c){n:Nat}{a:List AV}(hg:f265 (Arz c k n) 0 (Ac a) h):zqs 265 a h k:=
 zqw hc Bb7 Tryz.func265 rfl (by kernel_rfl) (by kernel_rfl) k Baz (fun n=>f265 (Arz c k n)) (fun L _ _ hl=>match L,hl with
  |0,hl=>Bt hl fun _ _ hl=>hl
  |_+1,hl=>hl) (fun n=>⟨
  fun f h hl=>by
    refine Bs 0 hl fun _ _ hl=>?_;exact Eq.mpr (A6f ..) hl,
  trivial⟩) rfl hg
theorem A6e(J:Qo)(l_1 c_1:Nat):zqe c k Ahx Ag9 (f374 J) d374 Tryz.f374 .root (Ag f 1 (.str l_1 c_1)) h=Adn c k J (f 0) l_1 c_1 h:=by kernel_rfl
theorem A6d(J:Qo)(l_1 c_1:Nat)(n_5:Int)(b_6:Bool)(n_31 n_32:Int):zqe c k Ahx Ag9 (f374 J) d374 Tryz.f374 (.l (.r (.l (.r (.l (.r (.r (.r .root)))))))) (Ag (Ag (Ag (Ag (Ag f 1 (.str l_1 c_1)) 5 (.int .i64 n_5)) 6 (.bool b_6)) 31 (.int .i64 n_31)) 32 (.int .i64 n_32)) h=Yy c k J (f 0) l_1 c_1 n_5 b_6 (f 30) n_31 n_32 h:=by kernel_rfl
theorem A6c(J:Qo)(l_1 c_1:Nat)(n_5:Int)(b_6:Bool)(n_10:Int):zqe c k Ahx Ag9 (f374 J) d374 Tryz.f374 (.l (.r (.r (.r (.l (.r (.r (.r .root)))))))) (Ag (Ag (Ag (Ag f 1 (.str l_1 c_1)) 5 (.int .i64 n_5)) 6 (.bool b_6)) 10 (.int .i64 n_10)) h=Adm c k J (f 0) l_1 c_1 n_5 b_6 n_10 h:=by kernel_rfl
theorem A6b(J:Qo)(l_1 c_1:Nat)(n_5:Int)(b_6:Bool)(n_10:Int):zqe c k Ahx Ag9 (f374 J) d374 Tryz.f374 (.r (.r (.l (.l (.r (.r (.r (.l (.r (.r (.r .root))))))))))) (Ag (Ag (Ag (Ag f 1 (.str l_1 c_1)) 5 (.int .i64 n_5)) 6 (.bool b_6)) 10 (.int .i64 n_10)) h=Yx c k J (f 0) l_1 c_1 n_5 b_6 n_10 h:=by kernel_rfl
theorem A6a(J:Qo)(l_1 c_1:Nat)(n_13 n_14:Int):zqe c k Ahx Ag9 (f374 J) d374 Tryz.f374 (.l (.r (.l (.r (.r (.r (.r (.r (.r (.r .root)))))))))) (Ag (Ag (Ag f 1 (.str l_1 c_1)) 13 (.int .i64 n_13)) 14 (.int .i64 n_14)) h=Adl c k J (f 0) l_1 c_1 (f 12) n_13 n_14 h:=by kernel_rfl
theorem A59(J:Qo)(l_1 c_1:Nat)(n_13 n_14:Int):zqe c k Ahx Ag9 (f374 J) d374 Tryz.f374 (.r (.r (.l (.l (.r (.l (.r (.r (.r (.r (.r (.r (.r .root))))))))))))) (Ag (Ag (Ag f 1 (.str l_1 c_1)) 13 (.int .i64 n_13)) 14 (.int .i64 n_14)) h=Adk c k J (f 0) l_1 c_1 (f 12) n_13 n_14 h:=by kernel_rfl
theorem A58(J:Qo)(l_1 c_1:Nat)(n_5:Int)(b_6:Bool):zqe c k Ahx Ag9 (f374 J) d374 Tryz.f374 (.r (.r (.r (.r .root)))) (Ag (Ag (Ag f 1 (.str l_1 c_1)) 5 (.int .i64 n_5)) 6 (.bool b_6)) h=Adj c k J (f 0) l_1 c_1 n_5 b_6 h:=by kernel_rfl
theorem A9o(hc:Ch c){n:Nat}{a:List AV}(hg:f374 (Kg c k n) 0 (Ac a) h):zqs 374 a h k:=
 zqw hc Ahx Tryz.func374 rfl (by kernel_rfl) (by kernel_rfl) k Ag9 (fun n=>f374 (Kg c k n)) (fun L _ _ hl=>match L,hl with
  |0,hl=>Bt hl fun _ _ hl=>hl
  |1,hl=>Bt hl fun _ _ hl=>Bg hl fun _ hl=>Iv hl fun _ hl=>Bg hl fun _ hl=>Bg hl fun _ hl=>hl
  |2,hl=>Bt hl fun _ _ hl=>Bg hl fun _ hl=>Iv hl fun _ hl=>Bg hl fun _ hl=>hl
  |3,hl=>Bt hl fun _ _ hl=>Bg hl fun _ hl=>Iv hl fun _ hl=>Bg hl fun _ hl=>hl
  |4,hl=>Bt hl fun _ _ hl=>Bg hl fun _ hl=>Bg hl fun _ hl=>hl
  |5,hl=>Bt hl fun _ _ hl=>Bg hl fun _ hl=>Bg hl fun _ hl=>hl
  |6,hl=>Bt hl fun _ _ hl=>Bg hl fun _ hl=>Iv hl fun _ hl=>hl
  |_+7,hl=>hl) (fun n=>⟨
  fun f h hl=>by
    refine Bs 1 hl fun _ _ hl=>?_;exact Eq.mpr (A6e ..) hl,
  fun f h hl=>by
    refine Bs 1 hl fun _ _ hl=>?_;refine Bf 5 hl fun _ hl=>?_;refine Iu 6 hl fun _ hl=>?_;refine Bf 31 hl fun _ hl=>?_;refine Bf 32 hl fun _ hl=>?_;exact Eq.mpr (A6d ..) hl,
  fun f h hl=>by
    refine Bs 1 hl fun _ _ hl=>?_;refine Bf 5 hl fun _ hl=>?_;refine Iu 6 hl fun _ hl=>?_;refine Bf 10 hl fun _ hl=>?_;exact Eq.mpr (A6c ..) hl,
  fun f h hl=>by
    refine Bs 1 hl fun _ _ hl=>?_;refine Bf 5 hl fun _ hl=>?_;refine Iu 6 hl fun _ hl=>?_;refine Bf 10 hl fun _ hl=>?_;exact Eq.mpr (A6b ..) hl,
  fun f h hl=>by
    refine Bs 1 hl fun _ _ hl=>?_;refine Bf 13 hl fun _ hl=>?_;refine Bf 14 hl fun _ hl=>?_;exact Eq.mpr (A6a ..) hl,
  fun f h hl=>by
    refine Bs 1 hl fun _ _ hl=>?_;refine Bf 13 hl fun _ hl=>?_;refine Bf 14 hl fun _ hl=>?_;exact Eq.mpr (A59 ..) hl,
  fun f h hl=>by
    refine Bs 1 hl fun _ _ hl=>?_;refine Bf 5 hl fun _ hl=>?_;refine Iu 6 hl fun _ hl=>?_;exact Eq.mpr (A58 ..) hl,
  trivial⟩) rfl hg
end Go.Den
