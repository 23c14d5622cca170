/-
 Proof.
-/
import Derived.Test.YtcnmehbkpaoolaaGreatDoorRunA1
import Derived.KernelRfl
namespace Go.Den
open Go.Proofs
set_option maxRecDepth 100000
variable{c:CF}{k:KV}{f:FT}{h:H}
theorem w25(hc:Be c){m:Nat}{a:List AV}(hg:Az env c q25 u25 d25 (As env Tryz.f25.results.toList k) m 0 (Ab a) h):zqs 25 a h k:=Ba mixed Bn hc q25 Tryz.func25 rfl (by kernel_rfl) (by kernel_rfl) (by kernel_rfl) (by simp[u25]) hg
theorem w30(hc:Be c){m:Nat}{a:List AV}(hg:Az env c q30 u30 d30 (As env Tryz.f30.results.toList k) m 0 (Ab a) h):zqs 30 a h k:=Ba mixed Bn hc q30 Tryz.func30 rfl (by kernel_rfl) (by kernel_rfl) (by kernel_rfl) (by simp[u30]) hg
theorem w32(hc:Be c){m:Nat}{a:List AV}(hg:Az env c q32 u32 d32 (As env Tryz.f32.results.toList k) m 0 (Ab a) h):zqs 32 a h k:=Ba mixed Bn hc q32 Tryz.func32 rfl (by kernel_rfl) (by kernel_rfl) (by kernel_rfl) (by simp[u32]) hg
theorem w47(hc:Be c){m:Nat}{a:List AV}(hg:Az env c q47 u47 d47 (As env Tryz.f47.results.toList k) m 0 (Ab a) h):zqs 47 a h k:=Ba mixed Bn hc q47 Tryz.func47 rfl (by kernel_rfl) (by kernel_rfl) (by kernel_rfl) (by simp[u47]) hg
theorem Bet(J:J49)(b_1:Bool):zqe c k q49 u49 (f49 J) d49 Tryz.f49 .root (Ah f 1 (.bool b_1)) h=Amh c k J (f 0) b_1 h:=by kernel_rfl
theorem Bes(J:J49)(b_8:Bool):zqe c k q49 u49 (f49 J) d49 Tryz.f49 (.r (.r (.r (.r (.r (.r (.r (.r .root)))))))) (Ah f 8 (.bool b_8)) h=Amg c k J (f 4) (f 6) b_8 h:=by kernel_rfl
theorem Ber(J:J49)(b_8 b_59:Bool):zqe c k q49 u49 (f49 J) d49 Tryz.f49 (.r (.l (.r (.r (.r (.r (.r (.r (.r .root))))))))) (Ah (Ah f 8 (.bool b_8)) 59 (.bool b_59)) h=Amf c k J (f 4) (f 6) (f 7) b_8 b_59 h:=by kernel_rfl
theorem w49(hc:Be c){n:Nat}{a:List AV}(hg:f49 (r49 c k n) 0 (Ab a) h):zqs 49 a h k:=
 zqw hc q49 Tryz.func49 rfl (by kernel_rfl) (by kernel_rfl) k u49 (fun n=>f49 (r49 c k n)) (fun L _ _ hl=>match L,hl with
  |0,hl=>Gc hl fun _ hl=>hl
  |1,hl=>Gc hl fun _ hl=>hl
  |2,hl=>Gc hl fun _ hl=>Gc hl fun _ hl=>hl
  |_+3,hl=>hl) (fun n=>⟨
  fun f h hl=>by
    refine Gb 1 hl fun _ hl=>?_;exact Eq.mpr (Bet ..) hl,
  fun f h hl=>by
    refine Gb 8 hl fun _ hl=>?_;exact Eq.mpr (Bes ..) hl,
  fun f h hl=>by
    refine Gb 8 hl fun _ hl=>?_;refine Gb 59 hl fun _ hl=>?_;exact Eq.mpr (Ber ..) hl,
  trivial⟩) rfl hg
theorem w51(hc:Be c){m:Nat}{a:List AV}(hg:Az env c q51 u51 d51 (As env Tryz.f51.results.toList k) m 0 (Ab a) h):zqs 51 a h k:=Ba mixed Bn hc q51 Tryz.func51 rfl (by kernel_rfl) (by kernel_rfl) (by kernel_rfl) (by simp[u51]) hg
theorem w53(hc:Be c){m:Nat}{a:List AV}(hg:Az env c q53 u53 d53 (As env Tryz.f53.results.toList k) m 0 (Ab a) h):zqs 53 a h k:=Ba mixed Bn hc q53 Tryz.func53 rfl (by kernel_rfl) (by kernel_rfl) (by kernel_rfl) (by simp[u53]) hg
theorem w55(hc:Be c){m:Nat}{a:List AV}(hg:Az env c q55 u55 d55 (As env Tryz.f55.results.toList k) m 0 (Ab a) h):zqs 55 a h k:=Ba mixed Bn hc q55 Tryz.func55 rfl (by kernel_rfl) (by kernel_rfl) (by kernel_rfl) (by simp[u55]) hg
theorem w57(hc:Be c){m:Nat}{a:List AV}(hg:Az env c q57 u57 d57 (As env Tryz.f57.results.toList k) m 0 (Ab a) h):zqs 57 a h k:=Ba mixed Bn hc q57 Tryz.func57 rfl (by kernel_rfl) (by kernel_rfl) (by kernel_rfl) (by simp[u57]) hg
theorem Bec(J:J63):zqe c k q63 u63 (f63 J) d63 Tryz.f63 .root f h=Al3 c k J (f 0) h:=by kernel_rfl
theorem w63(hc:Be c){n:Nat}{a:List AV}(hg:f63 (r63 c k n) 0 (Ab a) h):zqs 63 a h k:=
 zqw hc q63 Tryz.func63 rfl (by kernel_rfl) (by kernel_rfl) k u63 (fun n=>f63 (r63 c k n)) (fun L _ _ hl=>match L,hl with
  |0,hl=>hl
  |_+1,hl=>hl) (fun n=>⟨
  fun f h hl=>Eq.mpr (Bec ..) hl,
  trivial⟩) rfl hg
theorem Beb(J:J64)(l_0 c_0:Nat):zqe c k q64 u64 (f64 J) d64 Tryz.f64 .root (Ah f 0 (.str l_0 c_0)) h=Al2 c k J l_0 c_0 h:=by kernel_rfl
theorem Bea(J:J64)(l_4 c_4:Nat)(b_5 b_6:Bool)(n_7:Int)(l_8 c_8:Nat):zqe c k q64 u64 (f64 J) d64 Tryz.f64 (.r (.r (.r (.r (.r .root))))) (Ah (Ah (Ah (Ah (Ah f 4 (.str l_4 c_4)) 5 (.bool b_5)) 6 (.bool b_6)) 7 (.int .i64 n_7)) 8 (.str l_8 c_8)) h=Al1 c k J (f 2) l_4 c_4 b_5 b_6 n_7 l_8 c_8 h:=by kernel_rfl
theorem w64(hc:Be c){n:Nat}{a:List AV}(hg:f64 (r64 c k n) 0 (Ab a) h):zqs 64 a h k:=
 zqw hc q64 Tryz.func64 rfl (by kernel_rfl) (by kernel_rfl) k u64 (fun n=>f64 (r64 c k n)) (fun L _ _ hl=>match L,hl with
  |0,hl=>Bv hl fun _ _ hl=>hl
  |1,hl=>Bv hl fun _ _ hl=>Gc hl fun _ hl=>Gc hl fun _ hl=>Bq hl fun _ hl=>Bv hl fun _ _ hl=>hl
  |_+2,hl=>hl) (fun n=>⟨
  fun f h hl=>by
    refine Bu 0 hl fun _ _ hl=>?_;exact Eq.mpr (Beb ..) hl,
  fun f h hl=>by
    refine Bu 4 hl fun _ _ hl=>?_;refine Gb 5 hl fun _ hl=>?_;refine Gb 6 hl fun _ hl=>?_;refine Bp 7 hl fun _ hl=>?_;refine Bu 8 hl fun _ _ hl=>?_;exact Eq.mpr (Bea ..) hl,
  trivial⟩) rfl hg
theorem Bd9(J:J66)(l_0 c_0:Nat):zqe c k q66 u66 (f66 J) d66 Tryz.f66 .root (Ah f 0 (.str l_0 c_0)) h=Al0 c k J l_0 c_0 h:=by kernel_rfl
theorem Bd8(J:J66)(l_4 c_4:Nat)(l_6 c_6:Nat)(n_9 n_52 n_53:Int):zqe c k q66 u66 (f66 J) d66 Tryz.f66 (.l (.r (.l (.r (.l (.r (.l (.r (.r (.r (.r (.r .root)))))))))))) (Ah (Ah (Ah (Ah (Ah f 4 (.str l_4 c_4)) 6 (.str l_6 c_6)) 9 (.int .u32 n_9)) 52 (.int .i64 n_52)) 53 (.int .i64 n_53)) h=Alz c k J (f 2) l_4 c_4 l_6 c_6 n_9 n_52 n_53 h:=by kernel_rfl
theorem Bd7(J:J66)(l_6 c_6:Nat)(n_8:Int):zqe c k q66 u66 (f66 J) d66 Tryz.f66 (.r (.r (.r (.r (.r (.r .root)))))) (Ah (Ah f 6 (.str l_6 c_6)) 8 (.int .i64 n_8)) h=Aly c k J (f 2) l_6 c_6 n_8 h:=by kernel_rfl
theorem w66(hc:Be c){n:Nat}{a:List AV}(hg:f66 (r66 c k n) 0 (Ab a) h):zqs 66 a h k:=
 zqw hc q66 Tryz.func66 rfl (by kernel_rfl) (by kernel_rfl) k u66 (fun n=>f66 (r66 c k n)) (fun L _ _ hl=>match L,hl with
  |0,hl=>Bv hl fun _ _ hl=>hl
  |1,hl=>Bv hl fun _ _ hl=>Bv hl fun _ _ hl=>Bq hl fun _ hl=>Bq hl fun _ hl=>Bq hl fun _ hl=>hl
  |2,hl=>Bv hl fun _ _ hl=>Bq hl fun _ hl=>hl
  |_+3,hl=>hl) (fun n=>⟨
  fun f h hl=>by
    refine Bu 0 hl fun _ _ hl=>?_;exact Eq.mpr (Bd9 ..) hl,
  fun f h hl=>by
    refine Bu 4 hl fun _ _ hl=>?_;refine Bu 6 hl fun _ _ hl=>?_;refine Bp 9 hl fun _ hl=>?_;refine Bp 52 hl fun _ hl=>?_;refine Bp 53 hl fun _ hl=>?_;exact Eq.mpr (Bd8 ..) hl,
  fun f h hl=>by
    refine Bu 6 hl fun _ _ hl=>?_;refine Bp 8 hl fun _ hl=>?_;exact Eq.mpr (Bd7 ..) hl,
  trivial⟩) rfl hg
theorem w77(hc:Be c){m:Nat}{a:List AV}(hg:Az env c q77 u77 d77 (As env Tryz.f77.results.toList k) m 0 (Ab a) h):zqs 77 a h k:=Ba mixed Bn hc q77 Tryz.func77 rfl (by kernel_rfl) (by kernel_rfl) (by kernel_rfl) (by simp[u77]) hg
theorem w79(hc:Be c){m:Nat}{a:List AV}(hg:Az env c q79 u79 d79 (As env Tryz.f79.results.toList k) m 0 (Ab a) h):zqs 79 a h k:=Ba mixed Bn hc q79 Tryz.func79 rfl (by kernel_rfl) (by kernel_rfl) (by kernel_rfl) (by simp[u79]) hg
theorem w81(hc:Be c){m:Nat}{a:List AV}(hg:Az env c q81 u81 d81 (As env Tryz.f81.results.toList k) m 0 (Ab a) h):zqs 81 a h k:=Ba mixed Bn hc q81 Tryz.func81 rfl (by kernel_rfl) (by kernel_rfl) (by kernel_rfl) (by simp[u81]) hg
theorem w83(hc:Be c){m:Nat}{a:List AV}(hg:Az env c q83 u83 d83 (As env Tryz.f83.results.toList k) m 0 (Ab a) h):zqs 83 a h k:=Ba mixed Bn hc q83 Tryz.func83 rfl (by kernel_rfl) (by kernel_rfl) (by kernel_rfl) (by simp[u83]) hg
theorem w85(hc:Be c){m:Nat}{a:List AV}(hg:Az env c q85 u85 d85 (As env Tryz.f85.results.toList k) m 0 (Ab a) h):zqs 85 a h k:=Ba mixed Bn hc q85 Tryz.func85 rfl (by kernel_rfl) (by kernel_rfl) (by kernel_rfl) (by simp[u85]) hg
theorem Bdt(J:J87)(n_1:Int)(b_2:Bool):zqe c k q87 u87 (f87 J) d87 Tryz.f87 .root (Ah (Ah f 1 (.int .i64 n_1)) 2 (.bool b_2)) h=Alk c k J (f 0) n_1 b_2 h:=by kernel_rfl
theorem Bds(J:J87)(n_1:Int)(b_2:Bool):zqe c k q87 u87 (f87 J) d87 Tryz.f87 (.l (.l (.r (.r .root)))) (Ah (Ah f 1 (.int .i64 n_1)) 2 (.bool b_2)) h=Agu c k J (f 0) n_1 b_2 (f 6) (f 7) h:=by kernel_rfl
theorem w87(hc:Be c){n:Nat}{a:List AV}(hg:f87 (r87 c k n) 0 (Ab a) h):zqs 87 a h k:=
 zqw hc q87 Tryz.func87 rfl (by kernel_rfl) (by kernel_rfl) k u87 (fun n=>f87 (r87 c k n)) (fun L _ _ hl=>match L,hl with
  |0,hl=>Bq hl fun _ hl=>Gc hl fun _ hl=>hl
  |1,hl=>Bq hl fun _ hl=>Gc hl fun _ hl=>hl
  |_+2,hl=>hl) (fun n=>⟨
  fun f h hl=>by
    refine Bp 1 hl fun _ hl=>?_;refine Gb 2 hl fun _ hl=>?_;exact Eq.mpr (Bdt ..) hl,
  fun f h hl=>by
    refine Bp 1 hl fun _ hl=>?_;refine Gb 2 hl fun _ hl=>?_;exact Eq.mpr (Bds ..) hl,
  trivial⟩) rfl hg
theorem Bdr(J:J88)(l_1 c_1:Nat):zqe c k q88 u88 (f88 J) d88 Tryz.f88 .root (Ah f 1 (.str l_1 c_1)) h=Alj c k J (f 0) l_1 c_1 h:=by kernel_rfl
theorem w88(hc:Be c){n:Nat}{a:List AV}(hg:f88 (r88 c k n) 0 (Ab a) h):zqs 88 a h k:=
 zqw hc q88 Tryz.func88 rfl (by kernel_rfl) (by kernel_rfl) k u88 (fun n=>f88 (r88 c k n)) (fun L _ _ hl=>match L,hl with
  |0,hl=>Bv hl fun _ _ hl=>hl
  |_+1,hl=>hl) (fun n=>⟨
  fun f h hl=>by
    refine Bu 1 hl fun _ _ hl=>?_;exact Eq.mpr (Bdr ..) hl,
  trivial⟩) rfl hg
theorem w92(hc:Be c){m:Nat}{a:List AV}(hg:Az env c q92 u92 d92 (As env Tryz.f92.results.toList k) m 0 (Ab a) h):zqs 92 a h k:=Ba mixed Bn hc q92 Tryz.func92 rfl (by kernel_rfl) (by kernel_rfl) (by kernel_rfl) (by simp[u92]) hg
theorem w96(hc:Be c){m:Nat}{a:List AV}(hg:Az env c q96 u96 d96 (As env Tryz.f96.results.toList k) m 0 (Ab a) h):zqs 96 a h k:=Ba mixed Bn hc q96 Tryz.func96 rfl (by kernel_rfl) (by kernel_rfl) (by kernel_rfl) (by simp[u96]) hg
theorem Bir(hc:Be c){m:Nat}{a:List AV}(hg:Az env c A37 A18 d101 (As env Tryz.f101.results.toList k) m 0 (Ab a) h):zqs 101 a h k:=Ba mixed Bn hc A37 Tryz.func101 rfl (by kernel_rfl) (by kernel_rfl) (by kernel_rfl) (by simp[A18]) hg
theorem Bip(hc:Be c){m:Nat}{a:List AV}(hg:Az env c A35 A16 d103 (As env Tryz.f103.results.toList k) m 0 (Ab a) h):zqs 103 a h k:=Ba mixed Bn hc A35 Tryz.func103 rfl (by kernel_rfl) (by kernel_rfl) (by kernel_rfl) (by simp[A16]) hg
theorem Bin(hc:Be c){m:Nat}{a:List AV}(hg:Az env c A33 A14 d105 (As env Tryz.f105.results.toList k) m 0 (Ab a) h):zqs 105 a h k:=Ba mixed Bn hc A33 Tryz.func105 rfl (by kernel_rfl) (by kernel_rfl) (by kernel_rfl) (by simp[A14]) hg
theorem A7z(J:Agd)(l_0 c_0:Nat):zqe c k Aw2 Awh (f108 J) d108 Tryz.f108 .root (Ah f 0 (.str l_0 c_0)) h=Aet c k J l_0 c_0 h:=by kernel_rfl
theorem A7y(J:Agd)(n_5 n_6 n_8:Int):zqe c k Aw2 Awh (f108 J) d108 Tryz.f108 (.l (.r (.l (.r (.r (.r (.r (.r (.r (.r .root)))))))))) (Ah (Ah (Ah f 5 (.int .i64 n_5)) 6 (.int .i64 n_6)) 8 (.int .i64 n_8)) h=Aes c k J n_5 n_6 n_8 (f 38) h:=by kernel_rfl
theorem A7x(J:Agd)(l_0 c_0:Nat)(n_5 n_6 n_7:Int):zqe c k Aw2 Awh (f108 J) d108 Tryz.f108 (.r (.r (.r (.r (.r .root))))) (Ah (Ah (Ah (Ah f 0 (.str l_0 c_0)) 5 (.int .i64 n_5)) 6 (.int .i64 n_6)) 7 (.int .i64 n_7)) h=Aer c k J l_0 c_0 n_5 n_6 n_7 h:=by kernel_rfl
theorem A92(hc:Be c){n:Nat}{a:List AV}(hg:f108 (Yz c k n) 0 (Ab a) h):zqs 108 a h k:=
 zqw hc Aw2 Tryz.func108 rfl (by kernel_rfl) (by kernel_rfl) k Awh (fun n=>f108 (Yz c k n)) (fun L _ _ hl=>match L,hl with
  |0,hl=>Bv hl fun _ _ hl=>hl
  |1,hl=>Bq hl fun _ hl=>Bq hl fun _ hl=>Bq hl fun _ hl=>hl
  |2,hl=>Bv hl fun _ _ hl=>Bq hl fun _ hl=>Bq hl fun _ hl=>Bq hl fun _ hl=>hl
  |_+3,hl=>hl) (fun n=>⟨
  fun f h hl=>by
    refine Bu 0 hl fun _ _ hl=>?_;exact Eq.mpr (A7z ..) hl,
  fun f h hl=>by
    refine Bp 5 hl fun _ hl=>?_;refine Bp 6 hl fun _ hl=>?_;refine Bp 8 hl fun _ hl=>?_;exact Eq.mpr (A7y ..) hl,
  fun f h hl=>by
    refine Bu 0 hl fun _ _ hl=>?_;refine Bp 5 hl fun _ hl=>?_;refine Bp 6 hl fun _ hl=>?_;refine Bp 7 hl fun _ hl=>?_;exact Eq.mpr (A7x ..) hl,
  trivial⟩) rfl hg
theorem A7w(J:Av4)(l_0 c_0:Nat)(l_1 c_1:Nat):zqe c k Bb0 Bat (f109 J) d109 Tryz.f109 .root (Ah (Ah f 0 (.str l_0 c_0)) 1 (.str l_1 c_1)) h=Aeq c k J l_0 c_0 l_1 c_1 h:=by kernel_rfl
theorem A91(hc:Be c){n:Nat}{a:List AV}(hg:f109 (Arr c k n) 0 (Ab a) h):zqs 109 a h k:=
 zqw hc Bb0 Tryz.func109 rfl (by kernel_rfl) (by kernel_rfl) k Bat (fun n=>f109 (Arr c k n)) (fun L _ _ hl=>match L,hl with
  |0,hl=>Bv hl fun _ _ hl=>Bv hl fun _ _ hl=>hl
  |_+1,hl=>hl) (fun n=>⟨
  fun f h hl=>by
    refine Bu 0 hl fun _ _ hl=>?_;refine Bu 1 hl fun _ _ hl=>?_;exact Eq.mpr (A7w ..) hl,
  trivial⟩) rfl hg
theorem A7t(J:Ak7)(l_0 c_0:Nat):zqe c k A32 A13 (f113 J) d113 Tryz.f113 .root (Ah f 0 (.str l_0 c_0)) h=Aen c k J l_0 c_0 h:=by kernel_rfl
theorem A7s(J:Ak7)(l_0 c_0:Nat)(b_2:Bool):zqe c k A32 A13 (f113 J) d113 Tryz.f113 (.r (.r .root)) (Ah (Ah f 0 (.str l_0 c_0)) 2 (.bool b_2)) h=Aem c k J l_0 c_0 b_2 h:=by kernel_rfl
theorem A9y(hc:Be c){n:Nat}{a:List AV}(hg:f113 (Ahb c k n) 0 (Ab a) h):zqs 113 a h k:=
 zqw hc A32 Tryz.func113 rfl (by kernel_rfl) (by kernel_rfl) k A13 (fun n=>f113 (Ahb c k n)) (fun L _ _ hl=>match L,hl with
  |0,hl=>Bv hl fun _ _ hl=>hl
  |1,hl=>Bv hl fun _ _ hl=>Gc hl fun _ hl=>hl
  |_+2,hl=>hl) (fun n=>⟨
  fun f h hl=>by
    refine Bu 0 hl fun _ _ hl=>?_;exact Eq.mpr (A7t ..) hl,
  fun f h hl=>by
    refine Bu 0 hl fun _ _ hl=>?_;refine Gb 2 hl fun _ hl=>?_;exact Eq.mpr (A7s ..) hl,
  trivial⟩) rfl hg
theorem A7q(J:Av0)(l_0 c_0:Nat)(l_1 c_1:Nat):zqe c k Bbw Bap (f115 J) d115 Tryz.f115 .root (Ah (Ah f 0 (.str l_0 c_0)) 1 (.str l_1 c_1)) h=Ajj c k J l_0 c_0 l_1 c_1 h:=by kernel_rfl
theorem A9w(hc:Be c){n:Nat}{a:List AV}(hg:f115 (Arn c k n) 0 (Ab a) h):zqs 115 a h k:=
 zqw hc Bbw Tryz.func115 rfl (by kernel_rfl) (by kernel_rfl) k Bap (fun n=>f115 (Arn c k n)) (fun L _ _ hl=>match L,hl with
  |0,hl=>Bv hl fun _ _ hl=>Bv hl fun _ _ hl=>hl
  |_+1,hl=>hl) (fun n=>⟨
  fun f h hl=>by
    refine Bu 0 hl fun _ _ hl=>?_;refine Bu 1 hl fun _ _ hl=>?_;exact Eq.mpr (A7q ..) hl,
  trivial⟩) rfl hg
theorem Bik(hc:Be c){m:Nat}{a:List AV}(hg:Az env c A3z A10 d127 (As env Tryz.f127.results.toList k) m 0 (Ab a) h):zqs 127 a h k:=Ba mixed Bn hc A3z Tryz.func127 rfl (by kernel_rfl) (by kernel_rfl) (by kernel_rfl) (by simp[A10]) hg
theorem Bii(hc:Be c){m:Nat}{a:List AV}(hg:Az env c A3x A1y d129 (As env Tryz.f129.results.toList k) m 0 (Ab a) h):zqs 129 a h k:=Ba mixed Bn hc A3x Tryz.func129 rfl (by kernel_rfl) (by kernel_rfl) (by kernel_rfl) (by simp[A1y]) hg
theorem Big(hc:Be c){m:Nat}{a:List AV}(hg:Az env c A3v A1w d132 (As env Tryz.f132.results.toList k) m 0 (Ab a) h):zqs 132 a h k:=Ba mixed Bn hc A3v Tryz.func132 rfl (by kernel_rfl) (by kernel_rfl) (by kernel_rfl) (by simp[A1w]) hg
theorem Bie(hc:Be c){m:Nat}{a:List AV}(hg:Az env c A3t A1u d134 (As env Tryz.f134.results.toList k) m 0 (Ab a) h):zqs 134 a h k:=Ba mixed Bn hc A3t Tryz.func134 rfl (by kernel_rfl) (by kernel_rfl) (by kernel_rfl) (by simp[A1u]) hg
theorem A7l(J:Avx)(l_1 c_1:Nat):zqe c k Bbt Bam (f136 J) d136 Tryz.f136 .root (Ah f 1 (.str l_1 c_1)) h=Aeg c k J (f 0) l_1 c_1 h:=by kernel_rfl
theorem A9t(hc:Be c){n:Nat}{a:List AV}(hg:f136 (Ark c k n) 0 (Ab a) h):zqs 136 a h k:=
 zqw hc Bbt Tryz.func136 rfl (by kernel_rfl) (by kernel_rfl) k Bam (fun n=>f136 (Ark c k n)) (fun L _ _ hl=>match L,hl with
  |0,hl=>Bv hl fun _ _ hl=>hl
  |_+1,hl=>hl) (fun n=>⟨
  fun f h hl=>by
    refine Bu 1 hl fun _ _ hl=>?_;exact Eq.mpr (A7l ..) hl,
  trivial⟩) rfl hg
theorem Bic(hc:Be c){m:Nat}{a:List AV}(hg:Az env c A3r A1s d137 (As env Tryz.f137.results.toList k) m 0 (Ab a) h):zqs 137 a h k:=Ba mixed Bn hc A3r Tryz.func137 rfl (by kernel_rfl) (by kernel_rfl) (by kernel_rfl) (by simp[A1s]) hg
theorem Bia(hc:Be c){m:Nat}{a:List AV}(hg:Az env c A3o A1p d141 (As env Tryz.f141.results.toList k) m 0 (Ab a) h):zqs 141 a h k:=Ba mixed Bn hc A3o Tryz.func141 rfl (by kernel_rfl) (by kernel_rfl) (by kernel_rfl) (by simp[A1p]) hg
theorem A7h(J:Agc)(l_1 c_1:Nat)(b_4:Bool):zqe c k Aw1 Awg (f142 J) d142 Tryz.f142 .root (Ah (Ah f 1 (.str l_1 c_1)) 4 (.bool b_4)) h=Aec c k J (f 0) l_1 c_1 (f 2) (f 3) b_4 h:=by kernel_rfl
theorem A7g(J:Agc)(l_1 c_1:Nat)(b_11 b_103:Bool):zqe c k Aw1 Awg (f142 J) d142 Tryz.f142 (.r (.r (.r (.r (.r (.r (.r (.r (.r (.r (.r (.r (.r (.r (.r (.l (.r (.l (.r (.r (.r .root))))))))))))))))))))) (Ah (Ah (Ah f 1 (.str l_1 c_1)) 11 (.bool b_11)) 103 (.bool b_103)) h=Aeb c k J l_1 c_1 (f 7) (f 8) (f 10) b_11 b_103 h:=by kernel_rfl
theorem A7f(J:Agc)(l_1 c_1:Nat)(b_4 b_11:Bool)(l_21 c_21:Nat)(b_78:Bool):zqe c k Aw1 Awg (f142 J) d142 Tryz.f142 (.r (.r (.r (.r (.r (.r (.r (.r (.r (.r (.r (.r (.r (.l (.r (.l (.r (.r (.r .root))))))))))))))))))) (Ah (Ah (Ah (Ah (Ah f 1 (.str l_1 c_1)) 4 (.bool b_4)) 11 (.bool b_11)) 21 (.str l_21 c_21)) 78 (.bool b_78)) h=Aea c k J (f 0) l_1 c_1 b_4 (f 7) (f 8) (f 10) b_11 (f 12) l_21 c_21 b_78 h:=by kernel_rfl
theorem A9q(hc:Be c){n:Nat}{a:List AV}(hg:f142 (Yy c k n) 0 (Ab a) h):zqs 142 a h k:=
 zqw hc Aw1 Tryz.func142 rfl (by kernel_rfl) (by kernel_rfl) k Awg (fun n=>f142 (Yy c k n)) (fun L _ _ hl=>match L,hl with
  |0,hl=>Bv hl fun _ _ hl=>Gc hl fun _ hl=>hl
  |1,hl=>Bv hl fun _ _ hl=>Gc hl fun _ hl=>Gc hl fun _ hl=>hl
  |2,hl=>Bv hl fun _ _ hl=>Gc hl fun _ hl=>Gc hl fun _ hl=>Bv hl fun _ _ hl=>Gc hl fun _ hl=>hl
  |_+3,hl=>hl) (fun n=>⟨
  fun f h hl=>by
    refine Bu 1 hl fun _ _ hl=>?_;refine Gb 4 hl fun _ hl=>?_;exact Eq.mpr (A7h ..) hl,
  fun f h hl=>by
    refine Bu 1 hl fun _ _ hl=>?_;refine Gb 11 hl fun _ hl=>?_;refine Gb 103 hl fun _ hl=>?_;exact Eq.mpr (A7g ..) hl,
  fun f h hl=>by
    refine Bu 1 hl fun _ _ hl=>?_;refine Gb 4 hl fun _ hl=>?_;refine Gb 11 hl fun _ hl=>?_;refine Bu 21 hl fun _ _ hl=>?_;refine Gb 78 hl fun _ hl=>?_;exact Eq.mpr (A7f ..) hl,
  trivial⟩) rfl hg
theorem Bh6(hc:Be c){m:Nat}{a:List AV}(hg:Az env c A3m A1n d149 (As env Tryz.f149.results.toList k) m 0 (Ab a) h):zqs 149 a h k:=Ba mixed Bn hc A3m Tryz.func149 rfl (by kernel_rfl) (by kernel_rfl) (by kernel_rfl) (by simp[A1n]) hg
theorem Bh4(hc:Be c){m:Nat}{a:List AV}(hg:Az env c A3k A1l d155 (As env Tryz.f155.results.toList k) m 0 (Ab a) h):zqs 155 a h k:=Ba mixed Bn hc A3k Tryz.func155 rfl (by kernel_rfl) (by kernel_rfl) (by kernel_rfl) (by simp[A1l]) hg
theorem Bh2(hc:Be c){m:Nat}{a:List AV}(hg:Az env c A3i A1j d157 (As env Tryz.f157.results.toList k) m 0 (Ab a) h):zqs 157 a h k:=Ba mixed Bn hc A3i Tryz.func157 rfl (by kernel_rfl) (by kernel_rfl) (by kernel_rfl) (by simp[A1j]) hg
theorem Bh0(hc:Be c){m:Nat}{a:List AV}(hg:Az env c A3g A1h d159 (As env Tryz.f159.results.toList k) m 0 (Ab a) h):zqs 159 a h k:=Ba mixed Bn hc A3g Tryz.func159 rfl (by kernel_rfl) (by kernel_rfl) (by kernel_rfl) (by simp[A1h]) hg
theorem A65(J:Tn)(l_0 c_0:Nat):zqe c k Ajq Aje (f161 J) d161 Tryz.f161 .root (Ah f 0 (.str l_0 c_0)) h=Ad1 c k J l_0 c_0 h:=by kernel_rfl
theorem A64(J:Tn)(l_0 c_0:Nat)(b_3 b_4:Bool)(n_5:Int):zqe c k Ajq Aje (f161 J) d161 Tryz.f161 (.l (.r (.l (.r (.r .root))))) (Ah (Ah (Ah (Ah f 0 (.str l_0 c_0)) 3 (.bool b_3)) 4 (.bool b_4)) 5 (.int .i64 n_5)) h=Ad0 c k J l_0 c_0 b_3 b_4 n_5 h:=by kernel_rfl
theorem A63(J:Tn)(l_0 c_0:Nat)(n_8 n_9:Int):zqe c k Ajq Aje (f161 J) d161 Tryz.f161 (.l (.r (.l (.r (.r (.r (.r (.l (.r (.l (.r (.r (.r .root))))))))))))) (Ah (Ah (Ah f 0 (.str l_0 c_0)) 8 (.int .i64 n_8)) 9 (.int .i64 n_9)) h=Adz c k J l_0 c_0 (f 7) n_8 n_9 h:=by kernel_rfl
theorem A62(J:Tn)(l_0 c_0:Nat)(n_9 n_10:Int):zqe c k Ajq Aje (f161 J) d161 Tryz.f161 (.r (.r (.l (.r (.r (.l (.l (.r (.l (.l (.r (.l (.r (.r (.r (.r (.l (.r (.l (.r (.r (.r .root)))))))))))))))))))))) (Ah (Ah (Ah f 0 (.str l_0 c_0)) 9 (.int .i64 n_9)) 10 (.int .u8 n_10)) h=Ady c k J l_0 c_0 (f 7) n_9 n_10 h:=by kernel_rfl
theorem A61(J:Tn)(l_0 c_0:Nat)(n_8 n_9:Int):zqe c k Ajq Aje (f161 J) d161 Tryz.f161 (.r (.r (.l (.l (.r (.l (.r (.r (.r (.r (.l (.r (.l (.r (.r (.r .root)))))))))))))))) (Ah (Ah (Ah f 0 (.str l_0 c_0)) 8 (.int .i64 n_8)) 9 (.int .i64 n_9)) h=Ys c k J l_0 c_0 (f 7) n_8 n_9 h:=by kernel_rfl
theorem A60(J:Tn)(l_0 c_0:Nat)(b_3 b_4:Bool):zqe c k Ajq Aje (f161 J) d161 Tryz.f161 (.r (.r (.r .root))) (Ah (Ah (Ah f 0 (.str l_0 c_0)) 3 (.bool b_3)) 4 (.bool b_4)) h=Adx c k J l_0 c_0 b_3 b_4 h:=by kernel_rfl
theorem A9n(hc:Be c){n:Nat}{a:List AV}(hg:f161 (Ns c k n) 0 (Ab a) h):zqs 161 a h k:=
 zqw hc Ajq Tryz.func161 rfl (by kernel_rfl) (by kernel_rfl) k Aje (fun n=>f161 (Ns c k n)) (fun L _ _ hl=>match L,hl with
  |0,hl=>Bv hl fun _ _ hl=>hl
  |1,hl=>Bv hl fun _ _ hl=>Gc hl fun _ hl=>Gc hl fun _ hl=>Bq hl fun _ hl=>hl
  |2,hl=>Bv hl fun _ _ hl=>Bq hl fun _ hl=>Bq hl fun _ hl=>hl
  |3,hl=>Bv hl fun _ _ hl=>Bq hl fun _ hl=>Bq hl fun _ hl=>hl
  |4,hl=>Bv hl fun _ _ hl=>Bq hl fun _ hl=>Bq hl fun _ hl=>hl
  |5,hl=>Bv hl fun _ _ hl=>Gc hl fun _ hl=>Gc hl fun _ hl=>hl
  |_+6,hl=>hl) (fun n=>⟨
  fun f h hl=>by
    refine Bu 0 hl fun _ _ hl=>?_;exact Eq.mpr (A65 ..) hl,
  fun f h hl=>by
    refine Bu 0 hl fun _ _ hl=>?_;refine Gb 3 hl fun _ hl=>?_;refine Gb 4 hl fun _ hl=>?_;refine Bp 5 hl fun _ hl=>?_;exact Eq.mpr (A64 ..) hl,
  fun f h hl=>by
    refine Bu 0 hl fun _ _ hl=>?_;refine Bp 8 hl fun _ hl=>?_;refine Bp 9 hl fun _ hl=>?_;exact Eq.mpr (A63 ..) hl,
  fun f h hl=>by
    refine Bu 0 hl fun _ _ hl=>?_;refine Bp 9 hl fun _ hl=>?_;refine Bp 10 hl fun _ hl=>?_;exact Eq.mpr (A62 ..) hl,
  fun f h hl=>by
    refine Bu 0 hl fun _ _ hl=>?_;refine Bp 8 hl fun _ hl=>?_;refine Bp 9 hl fun _ hl=>?_;exact Eq.mpr (A61 ..) hl,
  fun f h hl=>by
    refine Bu 0 hl fun _ _ hl=>?_;refine Gb 3 hl fun _ hl=>?_;refine Gb 4 hl fun _ hl=>?_;exact Eq.mpr (A60 ..) hl,
  trivial⟩) rfl hg
theorem A6y(J:Avs)(l_0 c_0:Nat)(l_1 c_1:Nat):zqe c k Bbo Bah (f163 J) d163 Tryz.f163 .root (Ah (Ah f 0 (.str l_0 c_0)) 1 (.str l_1 c_1)) h=Adv c k J l_0 c_0 l_1 c_1 h:=by kernel_rfl
theorem A9l(hc:Be c){n:Nat}{a:List AV}(hg:f163 (Arf c k n) 0 (Ab a) h):zqs 163 a h k:=
 zqw hc Bbo Tryz.func163 rfl (by kernel_rfl) (by kernel_rfl) k Bah (fun n=>f163 (Arf c k n)) (fun L _ _ hl=>match L,hl with
  |0,hl=>Bv hl fun _ _ hl=>Bv hl fun _ _ hl=>hl
  |_+1,hl=>hl) (fun n=>⟨
  fun f h hl=>by
    refine Bu 0 hl fun _ _ hl=>?_;refine Bu 1 hl fun _ _ hl=>?_;exact Eq.mpr (A6y ..) hl,
  trivial⟩) rfl hg
theorem A6u(J:Avq)(l_0 c_0:Nat)(l_1 c_1:Nat):zqe c k Bbm Baf (f172 J) d172 Tryz.f172 .root (Ah (Ah f 0 (.str l_0 c_0)) 1 (.str l_1 c_1)) h=Adr c k J l_0 c_0 l_1 c_1 h:=by kernel_rfl
theorem A9i(hc:Be c){n:Nat}{a:List AV}(hg:f172 (Ard c k n) 0 (Ab a) h):zqs 172 a h k:=
 zqw hc Bbm Tryz.func172 rfl (by kernel_rfl) (by kernel_rfl) k Baf (fun n=>f172 (Ard c k n)) (fun L _ _ hl=>match L,hl with
  |0,hl=>Bv hl fun _ _ hl=>Bv hl fun _ _ hl=>hl
  |_+1,hl=>hl) (fun n=>⟨
  fun f h hl=>by
    refine Bu 0 hl fun _ _ hl=>?_;refine Bu 1 hl fun _ _ hl=>?_;exact Eq.mpr (A6u ..) hl,
  trivial⟩) rfl hg
theorem Bhy(hc:Be c){m:Nat}{a:List AV}(hg:Az env c A3d A1e d182 (As env Tryz.f182.results.toList k) m 0 (Ab a) h):zqs 182 a h k:=Ba mixed Bn hc A3d Tryz.func182 rfl (by kernel_rfl) (by kernel_rfl) (by kernel_rfl) (by simp[A1e]) hg
theorem A6n(J:Ak3):zqe c k A3b A1c (f184 J) d184 Tryz.f184 .root f h=Adk c k J (f 0) h:=by kernel_rfl
theorem A6m(J:Ak3)(b_3:Bool):zqe c k A3b A1c (f184 J) d184 Tryz.f184 (.r (.r (.r .root))) (Ah f 3 (.bool b_3)) h=Adj c k J (f 0) (f 2) b_3 h:=by kernel_rfl
theorem A9g(hc:Be c){n:Nat}{a:List AV}(hg:f184 (Aew c k n) 0 (Ab a) h):zqs 184 a h k:=
 zqw hc A3b Tryz.func184 rfl (by kernel_rfl) (by kernel_rfl) k A1c (fun n=>f184 (Aew c k n)) (fun L _ _ hl=>match L,hl with
  |0,hl=>hl
  |1,hl=>Gc hl fun _ hl=>hl
  |_+2,hl=>hl) (fun n=>⟨
  fun f h hl=>Eq.mpr (A6n ..) hl,
  fun f h hl=>by
    refine Gb 3 hl fun _ hl=>?_;exact Eq.mpr (A6m ..) hl,
  trivial⟩) rfl hg
theorem A6l(J:Avp)(l_1 c_1:Nat):zqe c k Bbl Bae (f185 J) d185 Tryz.f185 .root (Ah f 1 (.str l_1 c_1)) h=Adi c k J (f 0) l_1 c_1 h:=by kernel_rfl
theorem A9f(hc:Be c){n:Nat}{a:List AV}(hg:f185 (Arc c k n) 0 (Ab a) h):zqs 185 a h k:=
 zqw hc Bbl Tryz.func185 rfl (by kernel_rfl) (by kernel_rfl) k Bae (fun n=>f185 (Arc c k n)) (fun L _ _ hl=>match L,hl with
  |0,hl=>Bv hl fun _ _ hl=>hl
  |_+1,hl=>hl) (fun n=>⟨
  fun f h hl=>by
    refine Bu 1 hl fun _ _ hl=>?_;exact Eq.mpr (A6l ..) hl,
  trivial⟩) rfl hg
theorem A6k(J:Avo)(l_0 c_0:Nat)(n_1 n_2:Int)(b_3:Bool):zqe c k Bbk Bad (f186 J) d186 Tryz.f186 .root (Ah (Ah (Ah (Ah f 0 (.str l_0 c_0)) 1 (.int .u64 n_1)) 2 (.int .u64 n_2)) 3 (.bool b_3)) h=Adh c k J l_0 c_0 n_1 n_2 b_3 h:=by kernel_rfl
theorem A9e(hc:Be c){n:Nat}{a:List AV}(hg:f186 (Arb c k n) 0 (Ab a) h):zqs 186 a h k:=
 zqw hc Bbk Tryz.func186 rfl (by kernel_rfl) (by kernel_rfl) k Bad (fun n=>f186 (Arb c k n)) (fun L _ _ hl=>match L,hl with
  |0,hl=>Bv hl fun _ _ hl=>Bq hl fun _ hl=>Bq hl fun _ hl=>Gc hl fun _ hl=>hl
  |_+1,hl=>hl) (fun n=>⟨
  fun f h hl=>by
    refine Bu 0 hl fun _ _ hl=>?_;refine Bp 1 hl fun _ hl=>?_;refine Bp 2 hl fun _ hl=>?_;refine Gb 3 hl fun _ hl=>?_;exact Eq.mpr (A6k ..) hl,
  trivial⟩) rfl hg
theorem A6j(J:Avn)(l_0 c_0:Nat)(n_2:Int):zqe c k Bbj Bac (f187 J) d187 Tryz.f187 .root (Ah (Ah f 0 (.str l_0 c_0)) 2 (.int .u64 n_2)) h=Adg c k J l_0 c_0 (f 1) n_2 h:=by kernel_rfl
theorem A9d(hc:Be c){n:Nat}{a:List AV}(hg:f187 (Ara c k n) 0 (Ab a) h):zqs 187 a h k:=
 zqw hc Bbj Tryz.func187 rfl (by kernel_rfl) (by kernel_rfl) k Bac (fun n=>f187 (Ara c k n)) (fun L _ _ hl=>match L,hl with
  |0,hl=>Bv hl fun _ _ hl=>Bq hl fun _ hl=>hl
  |_+1,hl=>hl) (fun n=>⟨
  fun f h hl=>by
    refine Bu 0 hl fun _ _ hl=>?_;refine Bp 2 hl fun _ hl=>?_;exact Eq.mpr (A6j ..) hl,
  trivial⟩) rfl hg
theorem Bhv(hc:Be c){m:Nat}{a:List AV}(hg:Az env c A29 A1a d190 (As env Tryz.f190.results.toList k) m 0 (Ab a) h):zqs 190 a h k:=Ba mixed Bn hc A29 Tryz.func190 rfl (by kernel_rfl) (by kernel_rfl) (by kernel_rfl) (by simp[A1a]) hg
theorem Bht(hc:Be c){m:Nat}{a:List AV}(hg:Az env c A27 A08 d192 (As env Tryz.f192.results.toList k) m 0 (Ab a) h):zqs 192 a h k:=Ba mixed Bn hc A27 Tryz.func192 rfl (by kernel_rfl) (by kernel_rfl) (by kernel_rfl) (by simp[A08]) hg
theorem Bhr(hc:Be c){m:Nat}{a:List AV}(hg:Az env c A25 A06 d195 (As env Tryz.f195.results.toList k) m 0 (Ab a) h):zqs 195 a h k:=Ba mixed Bn hc A25 Tryz.func195 rfl (by kernel_rfl) (by kernel_rfl) (by kernel_rfl) (by simp[A06]) hg
theorem Bhp(hc:Be c){m:Nat}{a:List AV}(hg:Az env c A23 A04 d202 (As env Tryz.f202.results.toList k) m 0 (Ab a) h):zqs 202 a h k:=Ba mixed Bn hc A23 Tryz.func202 rfl (by kernel_rfl) (by kernel_rfl) (by kernel_rfl) (by simp[A04]) hg
theorem A6c(J:Avk)(n_1:Int):zqe c k Bbg A99 (f215 J) d215 Tryz.f215 .root (Ah f 1 (.int .u8 n_1)) h=Ac8 c k J (f 0) n_1 h:=by kernel_rfl
theorem A89(hc:Be c){n:Nat}{a:List AV}(hg:f215 (Aq8 c k n) 0 (Ab a) h):zqs 215 a h k:=
 zqw hc Bbg Tryz.func215 rfl (by kernel_rfl) (by kernel_rfl) k A99 (fun n=>f215 (Aq8 c k n)) (fun L _ _ hl=>match L,hl with
  |0,hl=>Bq hl fun _ hl=>hl
  |_+1,hl=>hl) (fun n=>⟨
  fun f h hl=>by
    refine Bp 1 hl fun _ hl=>?_;exact Eq.mpr (A6c ..) hl,
  trivial⟩) rfl hg
theorem A6b(J:Ak0)(l_0 c_0:Nat):zqe c k A20 A01 (f219 J) d219 Tryz.f219 .root (Ah f 0 (.str l_0 c_0)) h=Ac7 c k J l_0 c_0 (f 1) h:=by kernel_rfl
theorem A6a(J:Ak0)(l_0 c_0:Nat):zqe c k A20 A01 (f219 J) d219 Tryz.f219 (.l (.l (.r .root))) (Ah f 0 (.str l_0 c_0)) h=Yr c k J l_0 c_0 (f 1) h:=by kernel_rfl
theorem A88(hc:Be c){n:Nat}{a:List AV}(hg:f219 (Ag7 c k n) 0 (Ab a) h):zqs 219 a h k:=
 zqw hc A20 Tryz.func219 rfl (by kernel_rfl) (by kernel_rfl) k A01 (fun n=>f219 (Ag7 c k n)) (fun L _ _ hl=>match L,hl with
  |0,hl=>Bv hl fun _ _ hl=>hl
  |1,hl=>Bv hl fun _ _ hl=>hl
  |_+2,hl=>hl) (fun n=>⟨
  fun f h hl=>by
    refine Bu 0 hl fun _ _ hl=>?_;exact Eq.mpr (A6b ..) hl,
  fun f h hl=>by
    refine Bu 0 hl fun _ _ hl=>?_;exact Eq.mpr (A6a ..) hl,
  trivial⟩) rfl hg
theorem A59(J:Avj)(n_0:Int):zqe c k Bbf A98 (f221 J) d221 Tryz.f221 .root (Ah f 0 (.int .u8 n_0)) h=Ac6 c k J n_0 h:=by kernel_rfl
theorem A87(hc:Be c){n:Nat}{a:List AV}(hg:f221 (Aq7 c k n) 0 (Ab a) h):zqs 221 a h k:=
 zqw hc Bbf Tryz.func221 rfl (by kernel_rfl) (by kernel_rfl) k A98 (fun n=>f221 (Aq7 c k n)) (fun L _ _ hl=>match L,hl with
  |0,hl=>Bq hl fun _ hl=>hl
  |_+1,hl=>hl) (fun n=>⟨
  fun f h hl=>by
    refine Bp 0 hl fun _ hl=>?_;exact Eq.mpr (A59 ..) hl,
  trivial⟩) rfl hg
theorem Bhn(hc:Be c){m:Nat}{a:List AV}(hg:Az env c A2y A0z d234 (As env Tryz.f234.results.toList k) m 0 (Ab a) h):zqs 234 a h k:=Ba mixed Bn hc A2y Tryz.func234 rfl (by kernel_rfl) (by kernel_rfl) (by kernel_rfl) (by simp[A0z]) hg
theorem Bhl(hc:Be c){m:Nat}{a:List AV}(hg:Az env c A2w A0x d247 (As env Tryz.f247.results.toList k) m 0 (Ab a) h):zqs 247 a h k:=Ba mixed Bn hc A2w Tryz.func247 rfl (by kernel_rfl) (by kernel_rfl) (by kernel_rfl) (by simp[A0x]) hg
theorem Bhj(hc:Be c){m:Nat}{a:List AV}(hg:Az env c A2u A0v d249 (As env Tryz.f249.results.toList k) m 0 (Ab a) h):zqs 249 a h k:=Ba mixed Bn hc A2u Tryz.func249 rfl (by kernel_rfl) (by kernel_rfl) (by kernel_rfl) (by simp[A0v]) hg
theorem Bhh(hc:Be c){m:Nat}{a:List AV}(hg:Az env c A2s A0t d256 (As env Tryz.f256.results.toList k) m 0 (Ab a) h):zqs 256 a h k:=Ba mixed Bn hc A2s Tryz.func256 rfl (by kernel_rfl) (by kernel_rfl) (by kernel_rfl) (by simp[A0t]) hg
theorem A55(J:Avh)(n_1:Int):zqe c k Bbd A96 (f258 J) d258 Tryz.f258 .root (Ah f 1 (.int .i64 n_1)) h=Ac2 c k J (f 0) n_1 h:=by kernel_rfl
theorem A84(hc:Be c){n:Nat}{a:List AV}(hg:f258 (Aq5 c k n) 0 (Ab a) h):zqs 258 a h k:=
 zqw hc Bbd Tryz.func258 rfl (by kernel_rfl) (by kernel_rfl) k A96 (fun n=>f258 (Aq5 c k n)) (fun L _ _ hl=>match L,hl with
  |0,hl=>Bq hl fun _ hl=>hl
  |_+1,hl=>hl) (fun n=>⟨
  fun f h hl=>by
    refine Bp 1 hl fun _ hl=>?_;exact Eq.mpr (A55 ..) hl,
  trivial⟩) rfl hg
theorem A54(J:Avg)(l_0 c_0:Nat):zqe c k Bbc A95 (f265 J) d265 Tryz.f265 .root (Ah f 0 (.str l_0 c_0)) h=Ac1 c k J l_0 c_0 h:=by kernel_rfl
theorem A83(hc:Be c){n:Nat}{a:List AV}(hg:f265 (Aq4 c k n) 0 (Ab a) h):zqs 265 a h k:=
 zqw hc Bbc Tryz.func265 rfl (by kernel_rfl) (by kernel_rfl) k A95 (fun n=>f265 (Aq4 c k n)) (fun L _ _ hl=>match L,hl with
  |0,hl=>Bv hl fun _ _ hl=>hl
  |_+1,hl=>hl) (fun n=>⟨
  fun f h hl=>by
    refine Bu 0 hl fun _ _ hl=>?_;exact Eq.mpr (A54 ..) hl,
  trivial⟩) rfl hg
theorem Bhf(hc:Be c){m:Nat}{a:List AV}(hg:Az env c A2q A0r d283 (As env Tryz.f283.results.toList k) m 0 (Ab a) h):zqs 283 a h k:=Ba mixed Bn hc A2q Tryz.func283 rfl (by kernel_rfl) (by kernel_rfl) (by kernel_rfl) (by simp[A0r]) hg
theorem Bhd(hc:Be c){m:Nat}{a:List AV}(hg:Az env c A2o A0p d288 (As env Tryz.f288.results.toList k) m 0 (Ab a) h):zqs 288 a h k:=Ba mixed Bn hc A2o Tryz.func288 rfl (by kernel_rfl) (by kernel_rfl) (by kernel_rfl) (by simp[A0p]) hg
theorem Bhb(hc:Be c){m:Nat}{a:List AV}(hg:Az env c A2m A0n d303 (As env Tryz.f303.results.toList k) m 0 (Ab a) h):zqs 303 a h k:=Ba mixed Bn hc A2m Tryz.func303 rfl (by kernel_rfl) (by kernel_rfl) (by kernel_rfl) (by simp[A0n]) hg
end Go.Den
