/-
 Proof.
-/
import Derived.Test.YtcnmehbkpaoolaaGreatDoorRunA1
import Derived.KernelRfl
namespace Go.Den
open Go.Proofs
set_option maxRecDepth 100000
variable{c:CF}{k:KV}{f:FT}{h:H}
theorem w15(hc:Bv c){m:Nat}{a:List AV}(hg:Dx env c q15 u15 d15 (Dh env Tryz.f15.results.toList k) m 0 (Ab a) h):zqs 15 a h k:=Ee mixed Ew hc q15 Tryz.func15 rfl (by kernel_rfl) (by kernel_rfl) (by kernel_rfl) (by simp[u15]) hg
theorem Bez(J:J35):zqe c k q35 u35 (f35 J) d35 Tryz.f35 .root f h=Anj c k J (f 0) (f 1) h:=by kernel_rfl
theorem w35(hc:Bv c){n:Nat}{a:List AV}(hg:f35 (r35 c k n) 0 (Ab a) h):zqs 35 a h k:=
 zqw hc q35 Tryz.func35 rfl (by kernel_rfl) (by kernel_rfl) k u35 (fun n=>f35 (r35 c k n)) (fun L _ _ hl=>match L,hl with
  |0,hl=>hl
  |_+1,hl=>hl) (fun n=>⟨
  fun f h hl=>Eq.mpr (Bez ..) hl,
  trivial⟩) rfl hg
theorem Beg(J:J43)(l_1 c_1:Nat):zqe c k q43 u43 (f43 J) d43 Tryz.f43 .root (Ae f 1 (.str l_1 c_1)) h=Ag7 c k J (f 0) l_1 c_1 h:=by kernel_rfl
theorem w43(hc:Bv c){n:Nat}{a:List AV}(hg:f43 (r43 c k n) 0 (Ab a) h):zqs 43 a h k:=
 zqw hc q43 Tryz.func43 rfl (by kernel_rfl) (by kernel_rfl) k u43 (fun n=>f43 (r43 c k n)) (fun L _ _ hl=>match L,hl with
  |0,hl=>Bd hl fun _ _ hl=>hl
  |_+1,hl=>hl) (fun n=>⟨
  fun f h hl=>by
    refine Bc 1 hl fun _ _ hl=>?_;exact Eq.mpr (Beg ..) hl,
  trivial⟩) rfl hg
theorem w46(hc:Bv c){m:Nat}{a:List AV}(hg:Dx env c q46 u46 d46 (Dh env Tryz.f46.results.toList k) m 0 (Ab a) h):zqs 46 a h k:=Ee mixed Ew hc q46 Tryz.func46 rfl (by kernel_rfl) (by kernel_rfl) (by kernel_rfl) (by simp[u46]) hg
theorem Bd8(J:J60)(l_0 c_0:Nat):zqe c k q60 u60 (f60 J) d60 Tryz.f60 .root (Ae f 0 (.str l_0 c_0)) h=Amu c k J l_0 c_0 h:=by kernel_rfl
theorem Bd7(J:J60)(l_0 c_0:Nat)(n_9 n_10:Int):zqe c k q60 u60 (f60 J) d60 Tryz.f60 (.l (.r (.l (.r .root)))) (Ae (Ae (Ae f 0 (.str l_0 c_0)) 9 (.int .i64 n_9)) 10 (.int .i64 n_10)) h=Amt c k J l_0 c_0 (f 8) n_9 n_10 h:=by kernel_rfl
theorem w60(hc:Bv c){n:Nat}{a:List AV}(hg:f60 (r60 c k n) 0 (Ab a) h):zqs 60 a h k:=
 zqw hc q60 Tryz.func60 rfl (by kernel_rfl) (by kernel_rfl) k u60 (fun n=>f60 (r60 c k n)) (fun L _ _ hl=>match L,hl with
  |0,hl=>Bd hl fun _ _ hl=>hl
  |1,hl=>Bd hl fun _ _ hl=>Bf hl fun _ hl=>Bf hl fun _ hl=>hl
  |_+2,hl=>hl) (fun n=>⟨
  fun f h hl=>by
    refine Bc 0 hl fun _ _ hl=>?_;exact Eq.mpr (Bd8 ..) hl,
  fun f h hl=>by
    refine Bc 0 hl fun _ _ hl=>?_;refine Be 9 hl fun _ hl=>?_;refine Be 10 hl fun _ hl=>?_;exact Eq.mpr (Bd7 ..) hl,
  trivial⟩) rfl hg
theorem Bd5(J:J62)(l_0 c_0:Nat):zqe c k q62 u62 (f62 J) d62 Tryz.f62 .root (Ae f 0 (.str l_0 c_0)) h=Ams c k J l_0 c_0 h:=by kernel_rfl
theorem w62(hc:Bv c){n:Nat}{a:List AV}(hg:f62 (r62 c k n) 0 (Ab a) h):zqs 62 a h k:=
 zqw hc q62 Tryz.func62 rfl (by kernel_rfl) (by kernel_rfl) k u62 (fun n=>f62 (r62 c k n)) (fun L _ _ hl=>match L,hl with
  |0,hl=>Bd hl fun _ _ hl=>hl
  |_+1,hl=>hl) (fun n=>⟨
  fun f h hl=>by
    refine Bc 0 hl fun _ _ hl=>?_;exact Eq.mpr (Bd5 ..) hl,
  trivial⟩) rfl hg
theorem Bd1(J:J65)(l_0 c_0:Nat):zqe c k q65 u65 (f65 J) d65 Tryz.f65 .root (Ae f 0 (.str l_0 c_0)) h=Amp c k J l_0 c_0 h:=by kernel_rfl
theorem Bd0(J:J65)(l_3 c_3:Nat)(l_4 c_4:Nat)(l_5 c_5:Nat)(n_6:Int)(b_7:Bool):zqe c k q65 u65 (f65 J) d65 Tryz.f65 (.r (.r (.r (.r (.r (.r (.r .root))))))) (Ae (Ae (Ae (Ae (Ae f 3 (.str l_3 c_3)) 4 (.str l_4 c_4)) 5 (.str l_5 c_5)) 6 (.int .i64 n_6)) 7 (.bool b_7)) h=Amo c k J l_3 c_3 l_4 c_4 l_5 c_5 n_6 b_7 h:=by kernel_rfl
theorem Bdz(J:J65)(l_3 c_3:Nat)(l_4 c_4:Nat)(l_5 c_5:Nat):zqe c k q65 u65 (f65 J) d65 Tryz.f65 (.r (.r (.r .root))) (Ae (Ae (Ae f 3 (.str l_3 c_3)) 4 (.str l_4 c_4)) 5 (.str l_5 c_5)) h=Amn c k J l_3 c_3 l_4 c_4 l_5 c_5 h:=by kernel_rfl
theorem w65(hc:Bv c){n:Nat}{a:List AV}(hg:f65 (r65 c k n) 0 (Ab a) h):zqs 65 a h k:=
 zqw hc q65 Tryz.func65 rfl (by kernel_rfl) (by kernel_rfl) k u65 (fun n=>f65 (r65 c k n)) (fun L _ _ hl=>match L,hl with
  |0,hl=>Bd hl fun _ _ hl=>hl
  |1,hl=>Bd hl fun _ _ hl=>Bd hl fun _ _ hl=>Bd hl fun _ _ hl=>Bf hl fun _ hl=>Hz hl fun _ hl=>hl
  |2,hl=>Bd hl fun _ _ hl=>Bd hl fun _ _ hl=>Bd hl fun _ _ hl=>hl
  |_+3,hl=>hl) (fun n=>⟨
  fun f h hl=>by
    refine Bc 0 hl fun _ _ hl=>?_;exact Eq.mpr (Bd1 ..) hl,
  fun f h hl=>by
    refine Bc 3 hl fun _ _ hl=>?_;refine Bc 4 hl fun _ _ hl=>?_;refine Bc 5 hl fun _ _ hl=>?_;refine Be 6 hl fun _ hl=>?_;refine Hy 7 hl fun _ hl=>?_;exact Eq.mpr (Bd0 ..) hl,
  fun f h hl=>by
    refine Bc 3 hl fun _ _ hl=>?_;refine Bc 4 hl fun _ _ hl=>?_;refine Bc 5 hl fun _ _ hl=>?_;exact Eq.mpr (Bdz ..) hl,
  trivial⟩) rfl hg
theorem Bdy(J:J66)(l_0 c_0:Nat):zqe c k q66 u66 (f66 J) d66 Tryz.f66 .root (Ae f 0 (.str l_0 c_0)) h=Amm c k J l_0 c_0 h:=by kernel_rfl
theorem Bdx(J:J66)(l_4 c_4:Nat)(l_6 c_6:Nat)(n_9 n_52 n_53:Int):zqe c k q66 u66 (f66 J) d66 Tryz.f66 (.l (.r (.l (.r (.l (.r (.l (.r (.r (.r (.r (.r .root)))))))))))) (Ae (Ae (Ae (Ae (Ae f 4 (.str l_4 c_4)) 6 (.str l_6 c_6)) 9 (.int .u32 n_9)) 52 (.int .i64 n_52)) 53 (.int .i64 n_53)) h=Aml c k J (f 2) l_4 c_4 l_6 c_6 n_9 n_52 n_53 h:=by kernel_rfl
theorem Bdw(J:J66)(l_6 c_6:Nat)(n_8:Int):zqe c k q66 u66 (f66 J) d66 Tryz.f66 (.r (.r (.r (.r (.r (.r .root)))))) (Ae (Ae f 6 (.str l_6 c_6)) 8 (.int .i64 n_8)) h=Amk c k J (f 2) l_6 c_6 n_8 h:=by kernel_rfl
theorem w66(hc:Bv c){n:Nat}{a:List AV}(hg:f66 (r66 c k n) 0 (Ab a) h):zqs 66 a h k:=
 zqw hc q66 Tryz.func66 rfl (by kernel_rfl) (by kernel_rfl) k u66 (fun n=>f66 (r66 c k n)) (fun L _ _ hl=>match L,hl with
  |0,hl=>Bd hl fun _ _ hl=>hl
  |1,hl=>Bd hl fun _ _ hl=>Bd hl fun _ _ hl=>Bf hl fun _ hl=>Bf hl fun _ hl=>Bf hl fun _ hl=>hl
  |2,hl=>Bd hl fun _ _ hl=>Bf hl fun _ hl=>hl
  |_+3,hl=>hl) (fun n=>⟨
  fun f h hl=>by
    refine Bc 0 hl fun _ _ hl=>?_;exact Eq.mpr (Bdy ..) hl,
  fun f h hl=>by
    refine Bc 4 hl fun _ _ hl=>?_;refine Bc 6 hl fun _ _ hl=>?_;refine Be 9 hl fun _ hl=>?_;refine Be 52 hl fun _ hl=>?_;refine Be 53 hl fun _ hl=>?_;exact Eq.mpr (Bdx ..) hl,
  fun f h hl=>by
    refine Bc 6 hl fun _ _ hl=>?_;refine Be 8 hl fun _ hl=>?_;exact Eq.mpr (Bdw ..) hl,
  trivial⟩) rfl hg
theorem Bdv(J:J67):zqe c k q67 u67 (f67 J) d67 Tryz.f67 .root f h=Amj c k J (f 0) h:=by kernel_rfl
theorem w67(hc:Bv c){n:Nat}{a:List AV}(hg:f67 (r67 c k n) 0 (Ab a) h):zqs 67 a h k:=
 zqw hc q67 Tryz.func67 rfl (by kernel_rfl) (by kernel_rfl) k u67 (fun n=>f67 (r67 c k n)) (fun L _ _ hl=>match L,hl with
  |0,hl=>hl
  |_+1,hl=>hl) (fun n=>⟨
  fun f h hl=>Eq.mpr (Bdv ..) hl,
  trivial⟩) rfl hg
theorem Bdf(J:J74):zqe c k q74 u74 (f74 J) d74 Tryz.f74 .root f h=Al4 c k J (f 0) (f 1) h:=by kernel_rfl
theorem w74(hc:Bv c){n:Nat}{a:List AV}(hg:f74 (r74 c k n) 0 (Ab a) h):zqs 74 a h k:=
 zqw hc q74 Tryz.func74 rfl (by kernel_rfl) (by kernel_rfl) k u74 (fun n=>f74 (r74 c k n)) (fun L _ _ hl=>match L,hl with
  |0,hl=>hl
  |_+1,hl=>hl) (fun n=>⟨
  fun f h hl=>Eq.mpr (Bdf ..) hl,
  trivial⟩) rfl hg
theorem w76(hc:Bv c){m:Nat}{a:List AV}(hg:Dx env c q76 u76 d76 (Dh env Tryz.f76.results.toList k) m 0 (Ab a) h):zqs 76 a h k:=Ee mixed Ew hc q76 Tryz.func76 rfl (by kernel_rfl) (by kernel_rfl) (by kernel_rfl) (by simp[u76]) hg
theorem w78(hc:Bv c){m:Nat}{a:List AV}(hg:Dx env c q78 u78 d78 (Dh env Tryz.f78.results.toList k) m 0 (Ab a) h):zqs 78 a h k:=Ee mixed Ew hc q78 Tryz.func78 rfl (by kernel_rfl) (by kernel_rfl) (by kernel_rfl) (by simp[u78]) hg
theorem w80(hc:Bv c){m:Nat}{a:List AV}(hg:Dx env c q80 u80 d80 (Dh env Tryz.f80.results.toList k) m 0 (Ab a) h):zqs 80 a h k:=Ee mixed Ew hc q80 Tryz.func80 rfl (by kernel_rfl) (by kernel_rfl) (by kernel_rfl) (by simp[u80]) hg
theorem A7c(J:Agm)(l_0 c_0:Nat):zqe c k Aye Ax0 (f108 J) d108 Tryz.f108 .root (Ae f 0 (.str l_0 c_0)) h=Ae6 c k J l_0 c_0 h:=by kernel_rfl
theorem A7b(J:Agm)(n_5 n_6 n_8:Int):zqe c k Aye Ax0 (f108 J) d108 Tryz.f108 (.l (.r (.l (.r (.r (.r (.r (.r (.r (.r .root)))))))))) (Ae (Ae (Ae f 5 (.int .i64 n_5)) 6 (.int .i64 n_6)) 8 (.int .i64 n_8)) h=Ae5 c k J n_5 n_6 n_8 (f 38) h:=by kernel_rfl
theorem A7a(J:Agm)(l_0 c_0:Nat)(n_5 n_6 n_7:Int):zqe c k Aye Ax0 (f108 J) d108 Tryz.f108 (.r (.r (.r (.r (.r .root))))) (Ae (Ae (Ae (Ae f 0 (.str l_0 c_0)) 5 (.int .i64 n_5)) 6 (.int .i64 n_6)) 7 (.int .i64 n_7)) h=Ae4 c k J l_0 c_0 n_5 n_6 n_7 h:=by kernel_rfl
theorem A9d(hc:Bv c){n:Nat}{a:List AV}(hg:f108 (Zo c k n) 0 (Ab a) h):zqs 108 a h k:=
 zqw hc Aye Tryz.func108 rfl (by kernel_rfl) (by kernel_rfl) k Ax0 (fun n=>f108 (Zo c k n)) (fun L _ _ hl=>match L,hl with
  |0,hl=>Bd hl fun _ _ hl=>hl
  |1,hl=>Bf hl fun _ hl=>Bf hl fun _ hl=>Bf hl fun _ hl=>hl
  |2,hl=>Bd hl fun _ _ hl=>Bf hl fun _ hl=>Bf hl fun _ hl=>Bf hl fun _ hl=>hl
  |_+3,hl=>hl) (fun n=>⟨
  fun f h hl=>by
    refine Bc 0 hl fun _ _ hl=>?_;exact Eq.mpr (A7c ..) hl,
  fun f h hl=>by
    refine Be 5 hl fun _ hl=>?_;refine Be 6 hl fun _ hl=>?_;refine Be 8 hl fun _ hl=>?_;exact Eq.mpr (A7b ..) hl,
  fun f h hl=>by
    refine Bc 0 hl fun _ _ hl=>?_;refine Be 5 hl fun _ hl=>?_;refine Be 6 hl fun _ hl=>?_;refine Be 7 hl fun _ hl=>?_;exact Eq.mpr (A7a ..) hl,
  trivial⟩) rfl hg
theorem A68(J:Axq):zqe c k Ba8 A92 (f110 J) d110 Tryz.f110 .root f h=Ae2 c k J (f 0) h:=by kernel_rfl
theorem A9b(hc:Bv c){n:Nat}{a:List AV}(hg:f110 (As5 c k n) 0 (Ab a) h):zqs 110 a h k:=
 zqw hc Ba8 Tryz.func110 rfl (by kernel_rfl) (by kernel_rfl) k A92 (fun n=>f110 (As5 c k n)) (fun L _ _ hl=>match L,hl with
  |0,hl=>hl
  |_+1,hl=>hl) (fun n=>⟨
  fun f h hl=>Eq.mpr (A68 ..) hl,
  trivial⟩) rfl hg
theorem A66(J:Axo)(l_0 c_0:Nat)(l_1 c_1:Nat):zqe c k Ba6 A90 (f112 J) d112 Tryz.f112 .root (Ae (Ae f 0 (.str l_0 c_0)) 1 (.str l_1 c_1)) h=Ae0 c k J l_0 c_0 l_1 c_1 h:=by kernel_rfl
theorem A89(hc:Bv c){n:Nat}{a:List AV}(hg:f112 (As3 c k n) 0 (Ab a) h):zqs 112 a h k:=
 zqw hc Ba6 Tryz.func112 rfl (by kernel_rfl) (by kernel_rfl) k A90 (fun n=>f112 (As3 c k n)) (fun L _ _ hl=>match L,hl with
  |0,hl=>Bd hl fun _ _ hl=>Bd hl fun _ _ hl=>hl
  |_+1,hl=>hl) (fun n=>⟨
  fun f h hl=>by
    refine Bc 0 hl fun _ _ hl=>?_;refine Bc 1 hl fun _ _ hl=>?_;exact Eq.mpr (A66 ..) hl,
  trivial⟩) rfl hg
theorem A65(J:Al0)(l_0 c_0:Nat):zqe c k A3y A2y (f113 J) d113 Tryz.f113 .root (Ae f 0 (.str l_0 c_0)) h=Aez c k J l_0 c_0 h:=by kernel_rfl
theorem A64(J:Al0)(l_0 c_0:Nat)(b_2:Bool):zqe c k A3y A2y (f113 J) d113 Tryz.f113 (.r (.r .root)) (Ae (Ae f 0 (.str l_0 c_0)) 2 (.bool b_2)) h=Aey c k J l_0 c_0 b_2 h:=by kernel_rfl
theorem A88(hc:Bv c){n:Nat}{a:List AV}(hg:f113 (Ahi c k n) 0 (Ab a) h):zqs 113 a h k:=
 zqw hc A3y Tryz.func113 rfl (by kernel_rfl) (by kernel_rfl) k A2y (fun n=>f113 (Ahi c k n)) (fun L _ _ hl=>match L,hl with
  |0,hl=>Bd hl fun _ _ hl=>hl
  |1,hl=>Bd hl fun _ _ hl=>Hz hl fun _ hl=>hl
  |_+2,hl=>hl) (fun n=>⟨
  fun f h hl=>by
    refine Bc 0 hl fun _ _ hl=>?_;exact Eq.mpr (A65 ..) hl,
  fun f h hl=>by
    refine Bc 0 hl fun _ _ hl=>?_;refine Hy 2 hl fun _ hl=>?_;exact Eq.mpr (A64 ..) hl,
  trivial⟩) rfl hg
theorem A63(J:Axn)(l_0 c_0:Nat):zqe c k Ba5 A9z (f114 J) d114 Tryz.f114 .root (Ae f 0 (.str l_0 c_0)) h=Aex c k J l_0 c_0 h:=by kernel_rfl
theorem A87(hc:Bv c){n:Nat}{a:List AV}(hg:f114 (As2 c k n) 0 (Ab a) h):zqs 114 a h k:=
 zqw hc Ba5 Tryz.func114 rfl (by kernel_rfl) (by kernel_rfl) k A9z (fun n=>f114 (As2 c k n)) (fun L _ _ hl=>match L,hl with
  |0,hl=>Bd hl fun _ _ hl=>hl
  |_+1,hl=>hl) (fun n=>⟨
  fun f h hl=>by
    refine Bc 0 hl fun _ _ hl=>?_;exact Eq.mpr (A63 ..) hl,
  trivial⟩) rfl hg
theorem A61(J:Axl)(l_0 c_0:Nat)(l_1 c_1:Nat):zqe c k Ba3 A9x (f116 J) d116 Tryz.f116 .root (Ae (Ae f 0 (.str l_0 c_0)) 1 (.str l_1 c_1)) h=Aew c k J l_0 c_0 l_1 c_1 h:=by kernel_rfl
theorem A85(hc:Bv c){n:Nat}{a:List AV}(hg:f116 (As0 c k n) 0 (Ab a) h):zqs 116 a h k:=
 zqw hc Ba3 Tryz.func116 rfl (by kernel_rfl) (by kernel_rfl) k A9x (fun n=>f116 (As0 c k n)) (fun L _ _ hl=>match L,hl with
  |0,hl=>Bd hl fun _ _ hl=>Bd hl fun _ _ hl=>hl
  |_+1,hl=>hl) (fun n=>⟨
  fun f h hl=>by
    refine Bc 0 hl fun _ _ hl=>?_;refine Bc 1 hl fun _ _ hl=>?_;exact Eq.mpr (A61 ..) hl,
  trivial⟩) rfl hg
theorem A6z(J:Alz)(l_0 c_0:Nat)(l_1 c_1:Nat):zqe c k A3x A2x (f118 J) d118 Tryz.f118 .root (Ae (Ae f 0 (.str l_0 c_0)) 1 (.str l_1 c_1)) h=Aeu c k J l_0 c_0 l_1 c_1 h:=by kernel_rfl
theorem A6y(J:Alz)(l_0 c_0:Nat)(l_6 c_6:Nat):zqe c k A3x A2x (f118 J) d118 Tryz.f118 (.r (.r (.r (.r .root)))) (Ae (Ae f 0 (.str l_0 c_0)) 6 (.str l_6 c_6)) h=Aet c k J l_0 c_0 l_6 c_6 h:=by kernel_rfl
theorem A83(hc:Bv c){n:Nat}{a:List AV}(hg:f118 (Abf c k n) 0 (Ab a) h):zqs 118 a h k:=
 zqw hc A3x Tryz.func118 rfl (by kernel_rfl) (by kernel_rfl) k A2x (fun n=>f118 (Abf c k n)) (fun L _ _ hl=>match L,hl with
  |0,hl=>Bd hl fun _ _ hl=>Bd hl fun _ _ hl=>hl
  |1,hl=>Bd hl fun _ _ hl=>Bd hl fun _ _ hl=>hl
  |_+2,hl=>hl) (fun n=>⟨
  fun f h hl=>by
    refine Bc 0 hl fun _ _ hl=>?_;refine Bc 1 hl fun _ _ hl=>?_;exact Eq.mpr (A6z ..) hl,
  fun f h hl=>by
    refine Bc 0 hl fun _ _ hl=>?_;refine Bc 6 hl fun _ _ hl=>?_;exact Eq.mpr (A6y ..) hl,
  trivial⟩) rfl hg
theorem A6w(J:Axi):zqe c k Ba0 A9u (f120 J) d120 Tryz.f120 .root f h=Aer c k J (f 0) h:=by kernel_rfl
theorem A81(hc:Bv c){n:Nat}{a:List AV}(hg:f120 (Asx c k n) 0 (Ab a) h):zqs 120 a h k:=
 zqw hc Ba0 Tryz.func120 rfl (by kernel_rfl) (by kernel_rfl) k A9u (fun n=>f120 (Asx c k n)) (fun L _ _ hl=>match L,hl with
  |0,hl=>hl
  |_+1,hl=>hl) (fun n=>⟨
  fun f h hl=>Eq.mpr (A6w ..) hl,
  trivial⟩) rfl hg
theorem Bim(hc:Bv c){m:Nat}{a:List AV}(hg:Dx env c A3u A2u d127 (Dh env Tryz.f127.results.toList k) m 0 (Ab a) h):zqs 127 a h k:=Ee mixed Ew hc A3u Tryz.func127 rfl (by kernel_rfl) (by kernel_rfl) (by kernel_rfl) (by simp[A2u]) hg
theorem Bik(hc:Bv c){m:Nat}{a:List AV}(hg:Dx env c A3s A2s d129 (Dh env Tryz.f129.results.toList k) m 0 (Ab a) h):zqs 129 a h k:=Ee mixed Ew hc A3s Tryz.func129 rfl (by kernel_rfl) (by kernel_rfl) (by kernel_rfl) (by simp[A2s]) hg
theorem Bii(hc:Bv c){m:Nat}{a:List AV}(hg:Dx env c A3q A2q d131 (Dh env Tryz.f131.results.toList k) m 0 (Ab a) h):zqs 131 a h k:=Ee mixed Ew hc A3q Tryz.func131 rfl (by kernel_rfl) (by kernel_rfl) (by kernel_rfl) (by simp[A2q]) hg
theorem Big(hc:Bv c){m:Nat}{a:List AV}(hg:Dx env c A3o A2o d133 (Dh env Tryz.f133.results.toList k) m 0 (Ab a) h):zqs 133 a h k:=Ee mixed Ew hc A3o Tryz.func133 rfl (by kernel_rfl) (by kernel_rfl) (by kernel_rfl) (by simp[A2o]) hg
theorem Bie(hc:Bv c){m:Nat}{a:List AV}(hg:Dx env c A3m A2m d135 (Dh env Tryz.f135.results.toList k) m 0 (Ab a) h):zqs 135 a h k:=Ee mixed Ew hc A3m Tryz.func135 rfl (by kernel_rfl) (by kernel_rfl) (by kernel_rfl) (by simp[A2m]) hg
theorem A6q(J:To)(l_0 c_0:Nat):zqe c k Akf Ajx (f161 J) d161 Tryz.f161 .root (Ae f 0 (.str l_0 c_0)) h=Ael c k J l_0 c_0 h:=by kernel_rfl
theorem A6p(J:To)(l_0 c_0:Nat)(b_3 b_4:Bool)(n_5:Int):zqe c k Akf Ajx (f161 J) d161 Tryz.f161 (.l (.r (.l (.r (.r .root))))) (Ae (Ae (Ae (Ae f 0 (.str l_0 c_0)) 3 (.bool b_3)) 4 (.bool b_4)) 5 (.int .i64 n_5)) h=Aek c k J l_0 c_0 b_3 b_4 n_5 h:=by kernel_rfl
theorem A6o(J:To)(l_0 c_0:Nat)(n_8 n_9:Int):zqe c k Akf Ajx (f161 J) d161 Tryz.f161 (.l (.r (.l (.r (.r (.r (.r (.l (.r (.l (.r (.r (.r .root))))))))))))) (Ae (Ae (Ae f 0 (.str l_0 c_0)) 8 (.int .i64 n_8)) 9 (.int .i64 n_9)) h=Aej c k J l_0 c_0 (f 7) n_8 n_9 h:=by kernel_rfl
theorem A6n(J:To)(l_0 c_0:Nat)(n_9 n_10:Int):zqe c k Akf Ajx (f161 J) d161 Tryz.f161 (.r (.r (.l (.r (.r (.l (.l (.r (.l (.l (.r (.l (.r (.r (.r (.r (.l (.r (.l (.r (.r (.r .root)))))))))))))))))))))) (Ae (Ae (Ae f 0 (.str l_0 c_0)) 9 (.int .i64 n_9)) 10 (.int .u8 n_10)) h=Aei c k J l_0 c_0 (f 7) n_9 n_10 h:=by kernel_rfl
theorem A6m(J:To)(l_0 c_0:Nat)(n_8 n_9:Int):zqe c k Akf Ajx (f161 J) d161 Tryz.f161 (.r (.r (.l (.l (.r (.l (.r (.r (.r (.r (.l (.r (.l (.r (.r (.r .root)))))))))))))))) (Ae (Ae (Ae f 0 (.str l_0 c_0)) 8 (.int .i64 n_8)) 9 (.int .i64 n_9)) h=Zj c k J l_0 c_0 (f 7) n_8 n_9 h:=by kernel_rfl
theorem A6l(J:To)(l_0 c_0:Nat)(b_3 b_4:Bool):zqe c k Akf Ajx (f161 J) d161 Tryz.f161 (.r (.r (.r .root))) (Ae (Ae (Ae f 0 (.str l_0 c_0)) 3 (.bool b_3)) 4 (.bool b_4)) h=Aeh c k J l_0 c_0 b_3 b_4 h:=by kernel_rfl
theorem A8x(hc:Bv c){n:Nat}{a:List AV}(hg:f161 (Nx c k n) 0 (Ab a) h):zqs 161 a h k:=
 zqw hc Akf Tryz.func161 rfl (by kernel_rfl) (by kernel_rfl) k Ajx (fun n=>f161 (Nx c k n)) (fun L _ _ hl=>match L,hl with
  |0,hl=>Bd hl fun _ _ hl=>hl
  |1,hl=>Bd hl fun _ _ hl=>Hz hl fun _ hl=>Hz hl fun _ hl=>Bf hl fun _ hl=>hl
  |2,hl=>Bd hl fun _ _ hl=>Bf hl fun _ hl=>Bf hl fun _ hl=>hl
  |3,hl=>Bd hl fun _ _ hl=>Bf hl fun _ hl=>Bf hl fun _ hl=>hl
  |4,hl=>Bd hl fun _ _ hl=>Bf hl fun _ hl=>Bf hl fun _ hl=>hl
  |5,hl=>Bd hl fun _ _ hl=>Hz hl fun _ hl=>Hz hl fun _ hl=>hl
  |_+6,hl=>hl) (fun n=>⟨
  fun f h hl=>by
    refine Bc 0 hl fun _ _ hl=>?_;exact Eq.mpr (A6q ..) hl,
  fun f h hl=>by
    refine Bc 0 hl fun _ _ hl=>?_;refine Hy 3 hl fun _ hl=>?_;refine Hy 4 hl fun _ hl=>?_;refine Be 5 hl fun _ hl=>?_;exact Eq.mpr (A6p ..) hl,
  fun f h hl=>by
    refine Bc 0 hl fun _ _ hl=>?_;refine Be 8 hl fun _ hl=>?_;refine Be 9 hl fun _ hl=>?_;exact Eq.mpr (A6o ..) hl,
  fun f h hl=>by
    refine Bc 0 hl fun _ _ hl=>?_;refine Be 9 hl fun _ hl=>?_;refine Be 10 hl fun _ hl=>?_;exact Eq.mpr (A6n ..) hl,
  fun f h hl=>by
    refine Bc 0 hl fun _ _ hl=>?_;refine Be 8 hl fun _ hl=>?_;refine Be 9 hl fun _ hl=>?_;exact Eq.mpr (A6m ..) hl,
  fun f h hl=>by
    refine Bc 0 hl fun _ _ hl=>?_;refine Hy 3 hl fun _ hl=>?_;refine Hy 4 hl fun _ hl=>?_;exact Eq.mpr (A6l ..) hl,
  trivial⟩) rfl hg
theorem A6i(J:Axc)(l_1 c_1:Nat):zqe c k Bau A9o (f166 J) d166 Tryz.f166 .root (Ae f 1 (.str l_1 c_1)) h=Aee c k J (f 0) l_1 c_1 h:=by kernel_rfl
theorem A8u(hc:Bv c){n:Nat}{a:List AV}(hg:f166 (Asq c k n) 0 (Ab a) h):zqs 166 a h k:=
 zqw hc Bau Tryz.func166 rfl (by kernel_rfl) (by kernel_rfl) k A9o (fun n=>f166 (Asq c k n)) (fun L _ _ hl=>match L,hl with
  |0,hl=>Bd hl fun _ _ hl=>hl
  |_+1,hl=>hl) (fun n=>⟨
  fun f h hl=>by
    refine Bc 1 hl fun _ _ hl=>?_;exact Eq.mpr (A6i ..) hl,
  trivial⟩) rfl hg
theorem Bic(hc:Bv c){m:Nat}{a:List AV}(hg:Dx env c A3k A2k d168 (Dh env Tryz.f168.results.toList k) m 0 (Ab a) h):zqs 168 a h k:=Ee mixed Ew hc A3k Tryz.func168 rfl (by kernel_rfl) (by kernel_rfl) (by kernel_rfl) (by simp[A2k]) hg
theorem A6f(J:Axb)(l_0 c_0:Nat)(l_1 c_1:Nat):zqe c k Bat A9n (f171 J) d171 Tryz.f171 .root (Ae (Ae f 0 (.str l_0 c_0)) 1 (.str l_1 c_1)) h=Aeb c k J l_0 c_0 l_1 c_1 h:=by kernel_rfl
theorem A8s(hc:Bv c){n:Nat}{a:List AV}(hg:f171 (Asp c k n) 0 (Ab a) h):zqs 171 a h k:=
 zqw hc Bat Tryz.func171 rfl (by kernel_rfl) (by kernel_rfl) k A9n (fun n=>f171 (Asp c k n)) (fun L _ _ hl=>match L,hl with
  |0,hl=>Bd hl fun _ _ hl=>Bd hl fun _ _ hl=>hl
  |_+1,hl=>hl) (fun n=>⟨
  fun f h hl=>by
    refine Bc 0 hl fun _ _ hl=>?_;refine Bc 1 hl fun _ _ hl=>?_;exact Eq.mpr (A6f ..) hl,
  trivial⟩) rfl hg
theorem Au9(J:Aw9):zqe c k A3h A2h (f177 J) d177 Tryz.f177 .root f h=Ar7 c k J (f 0) h:=by kernel_rfl
theorem Bia(hc:Bv c){n:Nat}{a:List AV}(hg:f177 (Akc c k n) 0 (Ab a) h):zqs 177 a h k:=
 zqw hc A3h Tryz.func177 rfl (by kernel_rfl) (by kernel_rfl) k A2h (fun n=>f177 (Akc c k n)) (fun L _ _ hl=>match L,hl with
  |0,hl=>hl
  |_+1,hl=>hl) (fun n=>⟨
  fun f h hl=>Eq.mpr (Au9 ..) hl,
  trivial⟩) rfl hg
theorem A8f(hc:Bv c){n:Nat}{a:List AV}(hg:f177 (Akc c k n) 0 (Ab a) h):A1u 177 a h k:=
 A73 hc A3h Tryz.func177 rfl (by kernel_rfl) (by kernel_rfl) k A2h (fun n=>f177 (Akc c k n)) (fun L _ _ hl=>match L,hl with
  |0,hl=>hl
  |_+1,hl=>hl) (fun n=>⟨
  fun f h hl=>Eq.mpr (Au9 ..) hl,
  trivial⟩) rfl hg
theorem Bh8(hc:Bv c){m:Nat}{a:List AV}(hg:Dx env c A3f A2f d182 (Dh env Tryz.f182.results.toList k) m 0 (Ab a) h):zqs 182 a h k:=Ee mixed Ew hc A3f Tryz.func182 rfl (by kernel_rfl) (by kernel_rfl) (by kernel_rfl) (by simp[A2f]) hg
theorem A57(J:Aw7)(l_0 c_0:Nat)(n_1:Int):zqe c k Bar A9l (f207 J) d207 Tryz.f207 .root (Ae (Ae f 0 (.str l_0 c_0)) 1 (.int .u8 n_1)) h=Ad3 c k J l_0 c_0 n_1 h:=by kernel_rfl
theorem A8p(hc:Bv c){n:Nat}{a:List AV}(hg:f207 (Asn c k n) 0 (Ab a) h):zqs 207 a h k:=
 zqw hc Bar Tryz.func207 rfl (by kernel_rfl) (by kernel_rfl) k A9l (fun n=>f207 (Asn c k n)) (fun L _ _ hl=>match L,hl with
  |0,hl=>Bd hl fun _ _ hl=>Bf hl fun _ hl=>hl
  |_+1,hl=>hl) (fun n=>⟨
  fun f h hl=>by
    refine Bc 0 hl fun _ _ hl=>?_;refine Be 1 hl fun _ hl=>?_;exact Eq.mpr (A57 ..) hl,
  trivial⟩) rfl hg
theorem A54(J:Aw6)(n_1:Int):zqe c k Baq A9k (f215 J) d215 Tryz.f215 .root (Ae f 1 (.int .u8 n_1)) h=Ad0 c k J (f 0) n_1 h:=by kernel_rfl
theorem A8n(hc:Bv c){n:Nat}{a:List AV}(hg:f215 (Asm c k n) 0 (Ab a) h):zqs 215 a h k:=
 zqw hc Baq Tryz.func215 rfl (by kernel_rfl) (by kernel_rfl) k A9k (fun n=>f215 (Asm c k n)) (fun L _ _ hl=>match L,hl with
  |0,hl=>Bf hl fun _ hl=>hl
  |_+1,hl=>hl) (fun n=>⟨
  fun f h hl=>by
    refine Be 1 hl fun _ hl=>?_;exact Eq.mpr (A54 ..) hl,
  trivial⟩) rfl hg
theorem A53(J:Alv)(l_0 c_0:Nat):zqe c k A3c A2c (f219 J) d219 Tryz.f219 .root (Ae f 0 (.str l_0 c_0)) h=Adz c k J l_0 c_0 (f 1) h:=by kernel_rfl
theorem A52(J:Alv)(l_0 c_0:Nat):zqe c k A3c A2c (f219 J) d219 Tryz.f219 (.l (.l (.r .root))) (Ae f 0 (.str l_0 c_0)) h=Zi c k J l_0 c_0 (f 1) h:=by kernel_rfl
theorem A8m(hc:Bv c){n:Nat}{a:List AV}(hg:f219 (Ahf c k n) 0 (Ab a) h):zqs 219 a h k:=
 zqw hc A3c Tryz.func219 rfl (by kernel_rfl) (by kernel_rfl) k A2c (fun n=>f219 (Ahf c k n)) (fun L _ _ hl=>match L,hl with
  |0,hl=>Bd hl fun _ _ hl=>hl
  |1,hl=>Bd hl fun _ _ hl=>hl
  |_+2,hl=>hl) (fun n=>⟨
  fun f h hl=>by
    refine Bc 0 hl fun _ _ hl=>?_;exact Eq.mpr (A53 ..) hl,
  fun f h hl=>by
    refine Bc 0 hl fun _ _ hl=>?_;exact Eq.mpr (A52 ..) hl,
  trivial⟩) rfl hg
theorem A50(J:Aw4)(l_0 c_0:Nat)(l_1 c_1:Nat):zqe c k Bao A9i (f224 J) d224 Tryz.f224 .root (Ae (Ae f 0 (.str l_0 c_0)) 1 (.str l_1 c_1)) h=Adx c k J l_0 c_0 l_1 c_1 h:=by kernel_rfl
theorem A8k(hc:Bv c){n:Nat}{a:List AV}(hg:f224 (Asj c k n) 0 (Ab a) h):zqs 224 a h k:=
 zqw hc Bao Tryz.func224 rfl (by kernel_rfl) (by kernel_rfl) k A9i (fun n=>f224 (Asj c k n)) (fun L _ _ hl=>match L,hl with
  |0,hl=>Bd hl fun _ _ hl=>Bd hl fun _ _ hl=>hl
  |_+1,hl=>hl) (fun n=>⟨
  fun f h hl=>by
    refine Bc 0 hl fun _ _ hl=>?_;refine Bc 1 hl fun _ _ hl=>?_;exact Eq.mpr (A50 ..) hl,
  trivial⟩) rfl hg
theorem Bh6(hc:Bv c){m:Nat}{a:List AV}(hg:Dx env c A3b A2b d227 (Dh env Tryz.f227.results.toList k) m 0 (Ab a) h):zqs 227 a h k:=Ee mixed Ew hc A3b Tryz.func227 rfl (by kernel_rfl) (by kernel_rfl) (by kernel_rfl) (by simp[A2b]) hg
theorem Bh4(hc:Bv c){m:Nat}{a:List AV}(hg:Dx env c A29 A19 d230 (Dh env Tryz.f230.results.toList k) m 0 (Ab a) h):zqs 230 a h k:=Ee mixed Ew hc A29 Tryz.func230 rfl (by kernel_rfl) (by kernel_rfl) (by kernel_rfl) (by simp[A19]) hg
theorem A5z(J:Aw3)(n_1:Int):zqe c k Ban A9h (f258 J) d258 Tryz.f258 .root (Ae f 1 (.int .i64 n_1)) h=Adw c k J (f 0) n_1 h:=by kernel_rfl
theorem A8j(hc:Bv c){n:Nat}{a:List AV}(hg:f258 (Asi c k n) 0 (Ab a) h):zqs 258 a h k:=
 zqw hc Ban Tryz.func258 rfl (by kernel_rfl) (by kernel_rfl) k A9h (fun n=>f258 (Asi c k n)) (fun L _ _ hl=>match L,hl with
  |0,hl=>Bf hl fun _ hl=>hl
  |_+1,hl=>hl) (fun n=>⟨
  fun f h hl=>by
    refine Be 1 hl fun _ hl=>?_;exact Eq.mpr (A5z ..) hl,
  trivial⟩) rfl hg
theorem A5x(J:Qx)(l_1 c_1:Nat):zqe c k Ahk Agw (f374 J) d374 Tryz.f374 .root (Ae f 1 (.str l_1 c_1)) h=Adu c k J (f 0) l_1 c_1 h:=by kernel_rfl
theorem A5w(J:Qx)(l_1 c_1:Nat)(n_5:Int)(b_6:Bool)(n_31 n_32:Int):zqe c k Ahk Agw (f374 J) d374 Tryz.f374 (.l (.r (.l (.r (.l (.r (.r (.r .root)))))))) (Ae (Ae (Ae (Ae (Ae f 1 (.str l_1 c_1)) 5 (.int .i64 n_5)) 6 (.bool b_6)) 31 (.int .i64 n_31)) 32 (.int .i64 n_32)) h=Zh c k J (f 0) l_1 c_1 n_5 b_6 (f 30) n_31 n_32 h:=by kernel_rfl
theorem A5v(J:Qx)(l_1 c_1:Nat)(n_5:Int)(b_6:Bool)(n_10:Int):zqe c k Ahk Agw (f374 J) d374 Tryz.f374 (.l (.r (.r (.r (.l (.r (.r (.r .root)))))))) (Ae (Ae (Ae (Ae f 1 (.str l_1 c_1)) 5 (.int .i64 n_5)) 6 (.bool b_6)) 10 (.int .i64 n_10)) h=Adt c k J (f 0) l_1 c_1 n_5 b_6 n_10 h:=by kernel_rfl
theorem A5u(J:Qx)(l_1 c_1:Nat)(n_5:Int)(b_6:Bool)(n_10:Int):zqe c k Ahk Agw (f374 J) d374 Tryz.f374 (.r (.r (.l (.l (.r (.r (.r (.l (.r (.r (.r .root))))))))))) (Ae (Ae (Ae (Ae f 1 (.str l_1 c_1)) 5 (.int .i64 n_5)) 6 (.bool b_6)) 10 (.int .i64 n_10)) h=Zg c k J (f 0) l_1 c_1 n_5 b_6 n_10 h:=by kernel_rfl
theorem A5t(J:Qx)(l_1 c_1:Nat)(n_13 n_14:Int):zqe c k Ahk Agw (f374 J) d374 Tryz.f374 (.l (.r (.l (.r (.r (.r (.r (.r (.r (.r .root)))))))))) (Ae (Ae (Ae f 1 (.str l_1 c_1)) 13 (.int .i64 n_13)) 14 (.int .i64 n_14)) h=Ads c k J (f 0) l_1 c_1 (f 12) n_13 n_14 h:=by kernel_rfl
theorem A5s(J:Qx)(l_1 c_1:Nat)(n_13 n_14:Int):zqe c k Ahk Agw (f374 J) d374 Tryz.f374 (.r (.r (.l (.l (.r (.l (.r (.r (.r (.r (.r (.r (.r .root))))))))))))) (Ae (Ae (Ae f 1 (.str l_1 c_1)) 13 (.int .i64 n_13)) 14 (.int .i64 n_14)) h=Adr c k J (f 0) l_1 c_1 (f 12) n_13 n_14 h:=by kernel_rfl
theorem A5r(J:Qx)(l_1 c_1:Nat)(n_5:Int)(b_6:Bool):zqe c k Ahk Agw (f374 J) d374 Tryz.f374 (.r (.r (.r (.r .root)))) (Ae (Ae (Ae f 1 (.str l_1 c_1)) 5 (.int .i64 n_5)) 6 (.bool b_6)) h=Adq c k J (f 0) l_1 c_1 n_5 b_6 h:=by kernel_rfl
theorem A8h(hc:Bv c){n:Nat}{a:List AV}(hg:f374 (Lb c k n) 0 (Ab a) h):zqs 374 a h k:=
 zqw hc Ahk Tryz.func374 rfl (by kernel_rfl) (by kernel_rfl) k Agw (fun n=>f374 (Lb c k n)) (fun L _ _ hl=>match L,hl with
  |0,hl=>Bd hl fun _ _ hl=>hl
  |1,hl=>Bd hl fun _ _ hl=>Bf hl fun _ hl=>Hz hl fun _ hl=>Bf hl fun _ hl=>Bf hl fun _ hl=>hl
  |2,hl=>Bd hl fun _ _ hl=>Bf hl fun _ hl=>Hz hl fun _ hl=>Bf hl fun _ hl=>hl
  |3,hl=>Bd hl fun _ _ hl=>Bf hl fun _ hl=>Hz hl fun _ hl=>Bf hl fun _ hl=>hl
  |4,hl=>Bd hl fun _ _ hl=>Bf hl fun _ hl=>Bf hl fun _ hl=>hl
  |5,hl=>Bd hl fun _ _ hl=>Bf hl fun _ hl=>Bf hl fun _ hl=>hl
  |6,hl=>Bd hl fun _ _ hl=>Bf hl fun _ hl=>Hz hl fun _ hl=>hl
  |_+7,hl=>hl) (fun n=>⟨
  fun f h hl=>by
    refine Bc 1 hl fun _ _ hl=>?_;exact Eq.mpr (A5x ..) hl,
  fun f h hl=>by
    refine Bc 1 hl fun _ _ hl=>?_;refine Be 5 hl fun _ hl=>?_;refine Hy 6 hl fun _ hl=>?_;refine Be 31 hl fun _ hl=>?_;refine Be 32 hl fun _ hl=>?_;exact Eq.mpr (A5w ..) hl,
  fun f h hl=>by
    refine Bc 1 hl fun _ _ hl=>?_;refine Be 5 hl fun _ hl=>?_;refine Hy 6 hl fun _ hl=>?_;refine Be 10 hl fun _ hl=>?_;exact Eq.mpr (A5v ..) hl,
  fun f h hl=>by
    refine Bc 1 hl fun _ _ hl=>?_;refine Be 5 hl fun _ hl=>?_;refine Hy 6 hl fun _ hl=>?_;refine Be 10 hl fun _ hl=>?_;exact Eq.mpr (A5u ..) hl,
  fun f h hl=>by
    refine Bc 1 hl fun _ _ hl=>?_;refine Be 13 hl fun _ hl=>?_;refine Be 14 hl fun _ hl=>?_;exact Eq.mpr (A5t ..) hl,
  fun f h hl=>by
    refine Bc 1 hl fun _ _ hl=>?_;refine Be 13 hl fun _ hl=>?_;refine Be 14 hl fun _ hl=>?_;exact Eq.mpr (A5s ..) hl,
  fun f h hl=>by
    refine Bc 1 hl fun _ _ hl=>?_;refine Be 5 hl fun _ hl=>?_;refine Hy 6 hl fun _ hl=>?_;exact Eq.mpr (A5r ..) hl,
  trivial⟩) rfl hg
theorem A5q(J:Aw1)(l_0 c_0:Nat)(l_1 c_1:Nat):zqe c k Bal A9f (f376 J) d376 Tryz.f376 .root (Ae (Ae f 0 (.str l_0 c_0)) 1 (.str l_1 c_1)) h=Adp c k J l_0 c_0 l_1 c_1 h:=by kernel_rfl
theorem A8g(hc:Bv c){n:Nat}{a:List AV}(hg:f376 (Asg c k n) 0 (Ab a) h):zqs 376 a h k:=
 zqw hc Bal Tryz.func376 rfl (by kernel_rfl) (by kernel_rfl) k A9f (fun n=>f376 (Asg c k n)) (fun L _ _ hl=>match L,hl with
  |0,hl=>Bd hl fun _ _ hl=>Bd hl fun _ _ hl=>hl
  |1,hl=>hl
  |_+2,hl=>hl) (fun n=>⟨
  fun f h hl=>by
    refine Bc 0 hl fun _ _ hl=>?_;refine Bc 1 hl fun _ _ hl=>?_;exact Eq.mpr (A5q ..) hl,
  fun _ _ hl=>False.elim hl,
  trivial⟩) rfl hg
end Go.Den
