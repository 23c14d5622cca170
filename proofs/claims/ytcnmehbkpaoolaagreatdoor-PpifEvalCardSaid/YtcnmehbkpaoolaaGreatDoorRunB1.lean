/-
 Proof.
-/
import Derived.Test.YtcnmehbkpaoolaaGreatDoorRunA1
import Derived.KernelRfl
namespace Go.Den
open Go.Proofs
set_option maxRecDepth 100000
variable{c:CF}{k:KV}{f:FT}{h:H}
theorem Be4(J:J26):zqe c k q26 u26 (f26 J) d26 Tryz.f26 .root f h=Amr c k J (f 0) h:=by kernel_rfl
theorem w26(hc:Be c){n:Nat}{a:List AV}(hg:f26 (r26 c k n) 0 (Ab a) h):zqs 26 a h k:=
 zqw hc q26 Tryz.func26 rfl (by kernel_rfl) (by kernel_rfl) k u26 (fun n=>f26 (r26 c k n)) (fun L _ _ hl=>match L,hl with
  |0,hl=>hl
  |_+1,hl=>hl) (fun n=>⟨
  fun f h hl=>Eq.mpr (Be4 ..) hl,
  trivial⟩) rfl hg
theorem w29(hc:Be c){m:Nat}{a:List AV}(hg:Az env c q29 u29 d29 (As env Tryz.f29.results.toList k) m 0 (Ab a) h):zqs 29 a h k:=Ba mixed Bn hc q29 Tryz.func29 rfl (by kernel_rfl) (by kernel_rfl) (by kernel_rfl) (by simp[u29]) hg
theorem w31(hc:Be c){m:Nat}{a:List AV}(hg:Az env c q31 u31 d31 (As env Tryz.f31.results.toList k) m 0 (Ab a) h):zqs 31 a h k:=Ba mixed Bn hc q31 Tryz.func31 rfl (by kernel_rfl) (by kernel_rfl) (by kernel_rfl) (by simp[u31]) hg
theorem w46(hc:Be c){m:Nat}{a:List AV}(hg:Az env c q46 u46 d46 (As env Tryz.f46.results.toList k) m 0 (Ab a) h):zqs 46 a h k:=Ba mixed Bn hc q46 Tryz.func46 rfl (by kernel_rfl) (by kernel_rfl) (by kernel_rfl) (by simp[u46]) hg
theorem w48(hc:Be c){m:Nat}{a:List AV}(hg:Az env c q48 u48 d48 (As env Tryz.f48.results.toList k) m 0 (Ab a) h):zqs 48 a h k:=Ba mixed Bn hc q48 Tryz.func48 rfl (by kernel_rfl) (by kernel_rfl) (by kernel_rfl) (by simp[u48]) hg
theorem w52(hc:Be c){m:Nat}{a:List AV}(hg:Az env c q52 u52 d52 (As env Tryz.f52.results.toList k) m 0 (Ab a) h):zqs 52 a h k:=Ba mixed Bn hc q52 Tryz.func52 rfl (by kernel_rfl) (by kernel_rfl) (by kernel_rfl) (by simp[u52]) hg
theorem w54(hc:Be c){m:Nat}{a:List AV}(hg:Az env c q54 u54 d54 (As env Tryz.f54.results.toList k) m 0 (Ab a) h):zqs 54 a h k:=Ba mixed Bn hc q54 Tryz.func54 rfl (by kernel_rfl) (by kernel_rfl) (by kernel_rfl) (by simp[u54]) hg
theorem w56(hc:Be c){m:Nat}{a:List AV}(hg:Az env c q56 u56 d56 (As env Tryz.f56.results.toList k) m 0 (Ab a) h):zqs 56 a h k:=Ba mixed Bn hc q56 Tryz.func56 rfl (by kernel_rfl) (by kernel_rfl) (by kernel_rfl) (by simp[u56]) hg
theorem w58(hc:Be c){m:Nat}{a:List AV}(hg:Az env c q58 u58 d58 (As env Tryz.f58.results.toList k) m 0 (Ab a) h):zqs 58 a h k:=Ba mixed Bn hc q58 Tryz.func58 rfl (by kernel_rfl) (by kernel_rfl) (by kernel_rfl) (by simp[u58]) hg
theorem Bej(J:J59)(l_0 c_0:Nat):zqe c k q59 u59 (f59 J) d59 Tryz.f59 .root (Ah f 0 (.str l_0 c_0)) h=Al8 c k J l_0 c_0 h:=by kernel_rfl
theorem Bei(J:J59)(l_0 c_0:Nat)(l_5 c_5:Nat):zqe c k q59 u59 (f59 J) d59 Tryz.f59 (.lab (.r .root) 1) (Ah (Ah f 0 (.str l_0 c_0)) 5 (.str l_5 c_5)) h=Agx c k J l_0 c_0 (f 4) l_5 c_5 h:=by kernel_rfl
theorem Beh(J:J59):zqe c k q59 u59 (f59 J) d59 Tryz.f59 (.lab (.r .root) 0) f h=Agw c k J  h:=by kernel_rfl
theorem Beg(J:J59)(l_0 c_0:Nat)(l_5 c_5:Nat)(n_8 n_9:Int):zqe c k q59 u59 (f59 J) d59 Tryz.f59 (.r (.l (.r (.r (.r (.r (.r (.r (.r (.l (.r .root))))))))))) (Ah (Ah (Ah (Ah f 0 (.str l_0 c_0)) 5 (.str l_5 c_5)) 8 (.int .u8 n_8)) 9 (.int .i64 n_9)) h=Al7 c k J l_0 c_0 (f 4) l_5 c_5 n_8 n_9 h:=by kernel_rfl
theorem w59(hc:Be c){n:Nat}{a:List AV}(hg:f59 (r59 c k n) 0 (Ab a) h):zqs 59 a h k:=
 zqw hc q59 Tryz.func59 rfl (by kernel_rfl) (by kernel_rfl) k u59 (fun n=>f59 (r59 c k n)) (fun L _ _ hl=>match L,hl with
  |0,hl=>Bv hl fun _ _ hl=>hl
  |1,hl=>Bv hl fun _ _ hl=>Bv hl fun _ _ hl=>hl
  |2,hl=>hl
  |3,hl=>Bv hl fun _ _ hl=>Bv hl fun _ _ hl=>Bq hl fun _ hl=>Bq hl fun _ hl=>hl
  |_+4,hl=>hl) (fun n=>⟨
  fun f h hl=>by
    refine Bu 0 hl fun _ _ hl=>?_;exact Eq.mpr (Bej ..) hl,
  fun f h hl=>by
    refine Bu 0 hl fun _ _ hl=>?_;refine Bu 5 hl fun _ _ hl=>?_;exact Eq.mpr (Bei ..) hl,
  fun f h hl=>Eq.mpr (Beh ..) hl,
  fun f h hl=>by
    refine Bu 0 hl fun _ _ hl=>?_;refine Bu 5 hl fun _ _ hl=>?_;refine Bp 8 hl fun _ hl=>?_;refine Bp 9 hl fun _ hl=>?_;exact Eq.mpr (Beg ..) hl,
  trivial⟩) rfl hg
theorem Bef(J:J60)(l_0 c_0:Nat):zqe c k q60 u60 (f60 J) d60 Tryz.f60 .root (Ah f 0 (.str l_0 c_0)) h=Al6 c k J l_0 c_0 h:=by kernel_rfl
theorem Bee(J:J60)(l_0 c_0:Nat)(n_9 n_10:Int):zqe c k q60 u60 (f60 J) d60 Tryz.f60 (.l (.r (.l (.r .root)))) (Ah (Ah (Ah f 0 (.str l_0 c_0)) 9 (.int .i64 n_9)) 10 (.int .i64 n_10)) h=Al5 c k J l_0 c_0 (f 8) n_9 n_10 h:=by kernel_rfl
theorem w60(hc:Be c){n:Nat}{a:List AV}(hg:f60 (r60 c k n) 0 (Ab a) h):zqs 60 a h k:=
 zqw hc q60 Tryz.func60 rfl (by kernel_rfl) (by kernel_rfl) k u60 (fun n=>f60 (r60 c k n)) (fun L _ _ hl=>match L,hl with
  |0,hl=>Bv hl fun _ _ hl=>hl
  |1,hl=>Bv hl fun _ _ hl=>Bq hl fun _ hl=>Bq hl fun _ hl=>hl
  |_+2,hl=>hl) (fun n=>⟨
  fun f h hl=>by
    refine Bu 0 hl fun _ _ hl=>?_;exact Eq.mpr (Bef ..) hl,
  fun f h hl=>by
    refine Bu 0 hl fun _ _ hl=>?_;refine Bp 9 hl fun _ hl=>?_;refine Bp 10 hl fun _ hl=>?_;exact Eq.mpr (Bee ..) hl,
  trivial⟩) rfl hg
theorem Bed(J:J61)(l_1 c_1:Nat):zqe c k q61 u61 (f61 J) d61 Tryz.f61 .root (Ah f 1 (.str l_1 c_1)) h=Al4 c k J (f 0) l_1 c_1 h:=by kernel_rfl
theorem w61(hc:Be c){n:Nat}{a:List AV}(hg:f61 (r61 c k n) 0 (Ab a) h):zqs 61 a h k:=
 zqw hc q61 Tryz.func61 rfl (by kernel_rfl) (by kernel_rfl) k u61 (fun n=>f61 (r61 c k n)) (fun L _ _ hl=>match L,hl with
  |0,hl=>Bv hl fun _ _ hl=>hl
  |_+1,hl=>hl) (fun n=>⟨
  fun f h hl=>by
    refine Bu 1 hl fun _ _ hl=>?_;exact Eq.mpr (Bed ..) hl,
  trivial⟩) rfl hg
theorem w78(hc:Be c){m:Nat}{a:List AV}(hg:Az env c q78 u78 d78 (As env Tryz.f78.results.toList k) m 0 (Ab a) h):zqs 78 a h k:=Ba mixed Bn hc q78 Tryz.func78 rfl (by kernel_rfl) (by kernel_rfl) (by kernel_rfl) (by simp[u78]) hg
theorem w80(hc:Be c){m:Nat}{a:List AV}(hg:Az env c q80 u80 d80 (As env Tryz.f80.results.toList k) m 0 (Ab a) h):zqs 80 a h k:=Ba mixed Bn hc q80 Tryz.func80 rfl (by kernel_rfl) (by kernel_rfl) (by kernel_rfl) (by simp[u80]) hg
theorem w82(hc:Be c){m:Nat}{a:List AV}(hg:Az env c q82 u82 d82 (As env Tryz.f82.results.toList k) m 0 (Ab a) h):zqs 82 a h k:=Ba mixed Bn hc q82 Tryz.func82 rfl (by kernel_rfl) (by kernel_rfl) (by kernel_rfl) (by simp[u82]) hg
theorem w84(hc:Be c){m:Nat}{a:List AV}(hg:Az env c q84 u84 d84 (As env Tryz.f84.results.toList k) m 0 (Ab a) h):zqs 84 a h k:=Ba mixed Bn hc q84 Tryz.func84 rfl (by kernel_rfl) (by kernel_rfl) (by kernel_rfl) (by simp[u84]) hg
theorem w86(hc:Be c){m:Nat}{a:List AV}(hg:Az env c q86 u86 d86 (As env Tryz.f86.results.toList k) m 0 (Ab a) h):zqs 86 a h k:=Ba mixed Bn hc q86 Tryz.func86 rfl (by kernel_rfl) (by kernel_rfl) (by kernel_rfl) (by simp[u86]) hg
theorem Bdj(J:J93)(l_1 c_1:Nat):zqe c k q93 u93 (f93 J) d93 Tryz.f93 .root (Ah f 1 (.str l_1 c_1)) h=Alf c k J (f 0) l_1 c_1 h:=by kernel_rfl
theorem w93(hc:Be c){n:Nat}{a:List AV}(hg:f93 (r93 c k n) 0 (Ab a) h):zqs 93 a h k:=
 zqw hc q93 Tryz.func93 rfl (by kernel_rfl) (by kernel_rfl) k u93 (fun n=>f93 (r93 c k n)) (fun L _ _ hl=>match L,hl with
  |0,hl=>Bv hl fun _ _ hl=>hl
  |_+1,hl=>hl) (fun n=>⟨
  fun f h hl=>by
    refine Bu 1 hl fun _ _ hl=>?_;exact Eq.mpr (Bdj ..) hl,
  trivial⟩) rfl hg
theorem w95(hc:Be c){m:Nat}{a:List AV}(hg:Az env c q95 u95 d95 (As env Tryz.f95.results.toList k) m 0 (Ab a) h):zqs 95 a h k:=Ba mixed Bn hc q95 Tryz.func95 rfl (by kernel_rfl) (by kernel_rfl) (by kernel_rfl) (by simp[u95]) hg
theorem w98(hc:Be c){m:Nat}{a:List AV}(hg:Az env c q98 u98 d98 (As env Tryz.f98.results.toList k) m 0 (Ab a) h):zqs 98 a h k:=Ba mixed Bn hc q98 Tryz.func98 rfl (by kernel_rfl) (by kernel_rfl) (by kernel_rfl) (by simp[u98]) hg
theorem Bis(hc:Be c){m:Nat}{a:List AV}(hg:Az env c A38 A19 d100 (As env Tryz.f100.results.toList k) m 0 (Ab a) h):zqs 100 a h k:=Ba mixed Bn hc A38 Tryz.func100 rfl (by kernel_rfl) (by kernel_rfl) (by kernel_rfl) (by simp[A19]) hg
theorem Biq(hc:Be c){m:Nat}{a:List AV}(hg:Az env c A36 A17 d102 (As env Tryz.f102.results.toList k) m 0 (Ab a) h):zqs 102 a h k:=Ba mixed Bn hc A36 Tryz.func102 rfl (by kernel_rfl) (by kernel_rfl) (by kernel_rfl) (by simp[A17]) hg
theorem Bio(hc:Be c){m:Nat}{a:List AV}(hg:Az env c A34 A15 d104 (As env Tryz.f104.results.toList k) m 0 (Ab a) h):zqs 104 a h k:=Ba mixed Bn hc A34 Tryz.func104 rfl (by kernel_rfl) (by kernel_rfl) (by kernel_rfl) (by simp[A15]) hg
theorem A70(J:Av5)(n_1:Int):zqe c k Bb1 Bau (f107 J) d107 Tryz.f107 .root (Ah f 1 (.int .u8 n_1)) h=Aeu c k J (f 0) n_1 h:=by kernel_rfl
theorem A93(hc:Be c){n:Nat}{a:List AV}(hg:f107 (Ars c k n) 0 (Ab a) h):zqs 107 a h k:=
 zqw hc Bb1 Tryz.func107 rfl (by kernel_rfl) (by kernel_rfl) k Bau (fun n=>f107 (Ars c k n)) (fun L _ _ hl=>match L,hl with
  |0,hl=>Bq hl fun _ hl=>hl
  |_+1,hl=>hl) (fun n=>⟨
  fun f h hl=>by
    refine Bp 1 hl fun _ hl=>?_;exact Eq.mpr (A70 ..) hl,
  trivial⟩) rfl hg
theorem A7v(J:Av3):zqe c k Bbz Bas (f110 J) d110 Tryz.f110 .root f h=Aep c k J (f 0) h:=by kernel_rfl
theorem A90(hc:Be c){n:Nat}{a:List AV}(hg:f110 (Arq c k n) 0 (Ab a) h):zqs 110 a h k:=
 zqw hc Bbz Tryz.func110 rfl (by kernel_rfl) (by kernel_rfl) k Bas (fun n=>f110 (Arq c k n)) (fun L _ _ hl=>match L,hl with
  |0,hl=>hl
  |_+1,hl=>hl) (fun n=>⟨
  fun f h hl=>Eq.mpr (A7v ..) hl,
  trivial⟩) rfl hg
theorem A7u(J:Av2)(l_0 c_0:Nat)(l_1 c_1:Nat):zqe c k Bby Bar (f112 J) d112 Tryz.f112 .root (Ah (Ah f 0 (.str l_0 c_0)) 1 (.str l_1 c_1)) h=Aeo c k J l_0 c_0 l_1 c_1 h:=by kernel_rfl
theorem A9z(hc:Be c){n:Nat}{a:List AV}(hg:f112 (Arp c k n) 0 (Ab a) h):zqs 112 a h k:=
 zqw hc Bby Tryz.func112 rfl (by kernel_rfl) (by kernel_rfl) k Bar (fun n=>f112 (Arp c k n)) (fun L _ _ hl=>match L,hl with
  |0,hl=>Bv hl fun _ _ hl=>Bv hl fun _ _ hl=>hl
  |_+1,hl=>hl) (fun n=>⟨
  fun f h hl=>by
    refine Bu 0 hl fun _ _ hl=>?_;refine Bu 1 hl fun _ _ hl=>?_;exact Eq.mpr (A7u ..) hl,
  trivial⟩) rfl hg
theorem A7r(J:Av1)(l_0 c_0:Nat):zqe c k Bbx Baq (f114 J) d114 Tryz.f114 .root (Ah f 0 (.str l_0 c_0)) h=Ael c k J l_0 c_0 h:=by kernel_rfl
theorem A9x(hc:Be c){n:Nat}{a:List AV}(hg:f114 (Aro c k n) 0 (Ab a) h):zqs 114 a h k:=
 zqw hc Bbx Tryz.func114 rfl (by kernel_rfl) (by kernel_rfl) k Baq (fun n=>f114 (Aro c k n)) (fun L _ _ hl=>match L,hl with
  |0,hl=>Bv hl fun _ _ hl=>hl
  |_+1,hl=>hl) (fun n=>⟨
  fun f h hl=>by
    refine Bu 0 hl fun _ _ hl=>?_;exact Eq.mpr (A7r ..) hl,
  trivial⟩) rfl hg
theorem A7p(J:Avz)(l_0 c_0:Nat)(l_1 c_1:Nat):zqe c k Bbv Bao (f116 J) d116 Tryz.f116 .root (Ah (Ah f 0 (.str l_0 c_0)) 1 (.str l_1 c_1)) h=Aek c k J l_0 c_0 l_1 c_1 h:=by kernel_rfl
theorem A9v(hc:Be c){n:Nat}{a:List AV}(hg:f116 (Arm c k n) 0 (Ab a) h):zqs 116 a h k:=
 zqw hc Bbv Tryz.func116 rfl (by kernel_rfl) (by kernel_rfl) k Bao (fun n=>f116 (Arm c k n)) (fun L _ _ hl=>match L,hl with
  |0,hl=>Bv hl fun _ _ hl=>Bv hl fun _ _ hl=>hl
  |_+1,hl=>hl) (fun n=>⟨
  fun f h hl=>by
    refine Bu 0 hl fun _ _ hl=>?_;refine Bu 1 hl fun _ _ hl=>?_;exact Eq.mpr (A7p ..) hl,
  trivial⟩) rfl hg
theorem A7o(J:Avy)(l_0 c_0:Nat)(n_1 n_2:Int):zqe c k Bbu Ban (f117 J) d117 Tryz.f117 .root (Ah (Ah (Ah f 0 (.str l_0 c_0)) 1 (.int .i64 n_1)) 2 (.int .i64 n_2)) h=Aej c k J l_0 c_0 n_1 n_2 h:=by kernel_rfl
theorem A9u(hc:Be c){n:Nat}{a:List AV}(hg:f117 (Arl c k n) 0 (Ab a) h):zqs 117 a h k:=
 zqw hc Bbu Tryz.func117 rfl (by kernel_rfl) (by kernel_rfl) k Ban (fun n=>f117 (Arl c k n)) (fun L _ _ hl=>match L,hl with
  |0,hl=>Bv hl fun _ _ hl=>Bq hl fun _ hl=>Bq hl fun _ hl=>hl
  |_+1,hl=>hl) (fun n=>⟨
  fun f h hl=>by
    refine Bu 0 hl fun _ _ hl=>?_;refine Bp 1 hl fun _ hl=>?_;refine Bp 2 hl fun _ hl=>?_;exact Eq.mpr (A7o ..) hl,
  trivial⟩) rfl hg
theorem Bim(hc:Be c){m:Nat}{a:List AV}(hg:Az env c A31 A12 d120 (As env Tryz.f120.results.toList k) m 0 (Ab a) h):zqs 120 a h k:=Ba mixed Bn hc A31 Tryz.func120 rfl (by kernel_rfl) (by kernel_rfl) (by kernel_rfl) (by simp[A12]) hg
theorem Bij(hc:Be c){m:Nat}{a:List AV}(hg:Az env c A3y A1z d128 (As env Tryz.f128.results.toList k) m 0 (Ab a) h):zqs 128 a h k:=Ba mixed Bn hc A3y Tryz.func128 rfl (by kernel_rfl) (by kernel_rfl) (by kernel_rfl) (by simp[A1z]) hg
theorem Bih(hc:Be c){m:Nat}{a:List AV}(hg:Az env c A3w A1x d130 (As env Tryz.f130.results.toList k) m 0 (Ab a) h):zqs 130 a h k:=Ba mixed Bn hc A3w Tryz.func130 rfl (by kernel_rfl) (by kernel_rfl) (by kernel_rfl) (by simp[A1x]) hg
theorem Bif(hc:Be c){m:Nat}{a:List AV}(hg:Az env c A3u A1v d133 (As env Tryz.f133.results.toList k) m 0 (Ab a) h):zqs 133 a h k:=Ba mixed Bn hc A3u Tryz.func133 rfl (by kernel_rfl) (by kernel_rfl) (by kernel_rfl) (by simp[A1v]) hg
theorem Bid(hc:Be c){m:Nat}{a:List AV}(hg:Az env c A3s A1t d135 (As env Tryz.f135.results.toList k) m 0 (Ab a) h):zqs 135 a h k:=Ba mixed Bn hc A3s Tryz.func135 rfl (by kernel_rfl) (by kernel_rfl) (by kernel_rfl) (by simp[A1t]) hg
theorem Bib(hc:Be c){m:Nat}{a:List AV}(hg:Az env c A3q A1r d138 (As env Tryz.f138.results.toList k) m 0 (Ab a) h):zqs 138 a h k:=Ba mixed Bn hc A3q Tryz.func138 rfl (by kernel_rfl) (by kernel_rfl) (by kernel_rfl) (by simp[A1r]) hg
theorem A7k(J:Avw)(b_1:Bool):zqe c k Bbs Bal (f139 J) d139 Tryz.f139 .root (Ah f 1 (.bool b_1)) h=Aef c k J (f 0) b_1 h:=by kernel_rfl
theorem A9s(hc:Be c){n:Nat}{a:List AV}(hg:f139 (Arj c k n) 0 (Ab a) h):zqs 139 a h k:=
 zqw hc Bbs Tryz.func139 rfl (by kernel_rfl) (by kernel_rfl) k Bal (fun n=>f139 (Arj c k n)) (fun L _ _ hl=>match L,hl with
  |0,hl=>Gc hl fun _ hl=>hl
  |_+1,hl=>hl) (fun n=>⟨
  fun f h hl=>by
    refine Gb 1 hl fun _ hl=>?_;exact Eq.mpr (A7k ..) hl,
  trivial⟩) rfl hg
theorem A7j(J:Ak5):zqe c k A3p A1q (f140 J) d140 Tryz.f140 .root f h=Aee c k J (f 0) h:=by kernel_rfl
theorem A7i(J:Ak5)(l_2 c_2:Nat)(n_52 n_53:Int):zqe c k A3p A1q (f140 J) d140 Tryz.f140 (.l (.r (.l (.r (.r (.r .root)))))) (Ah (Ah (Ah f 2 (.str l_2 c_2)) 52 (.int .i64 n_52)) 53 (.int .i64 n_53)) h=Aed c k J l_2 c_2 (f 51) n_52 n_53 h:=by kernel_rfl
theorem A9r(hc:Be c){n:Nat}{a:List AV}(hg:f140 (Aex c k n) 0 (Ab a) h):zqs 140 a h k:=
 zqw hc A3p Tryz.func140 rfl (by kernel_rfl) (by kernel_rfl) k A1q (fun n=>f140 (Aex c k n)) (fun L _ _ hl=>match L,hl with
  |0,hl=>hl
  |1,hl=>Bv hl fun _ _ hl=>Bq hl fun _ hl=>Bq hl fun _ hl=>hl
  |_+2,hl=>hl) (fun n=>⟨
  fun f h hl=>Eq.mpr (A7j ..) hl,
  fun f h hl=>by
    refine Bu 2 hl fun _ _ hl=>?_;refine Bp 52 hl fun _ hl=>?_;refine Bp 53 hl fun _ hl=>?_;exact Eq.mpr (A7i ..) hl,
  trivial⟩) rfl hg
theorem Bh7(hc:Be c){m:Nat}{a:List AV}(hg:Az env c A3n A1o d147 (As env Tryz.f147.results.toList k) m 0 (Ab a) h):zqs 147 a h k:=Ba mixed Bn hc A3n Tryz.func147 rfl (by kernel_rfl) (by kernel_rfl) (by kernel_rfl) (by simp[A1o]) hg
theorem Bh5(hc:Be c){m:Nat}{a:List AV}(hg:Az env c A3l A1m d154 (As env Tryz.f154.results.toList k) m 0 (Ab a) h):zqs 154 a h k:=Ba mixed Bn hc A3l Tryz.func154 rfl (by kernel_rfl) (by kernel_rfl) (by kernel_rfl) (by simp[A1m]) hg
theorem Bh3(hc:Be c){m:Nat}{a:List AV}(hg:Az env c A3j A1k d156 (As env Tryz.f156.results.toList k) m 0 (Ab a) h):zqs 156 a h k:=Ba mixed Bn hc A3j Tryz.func156 rfl (by kernel_rfl) (by kernel_rfl) (by kernel_rfl) (by simp[A1k]) hg
theorem Bh1(hc:Be c){m:Nat}{a:List AV}(hg:Az env c A3h A1i d158 (As env Tryz.f158.results.toList k) m 0 (Ab a) h):zqs 158 a h k:=Ba mixed Bn hc A3h Tryz.func158 rfl (by kernel_rfl) (by kernel_rfl) (by kernel_rfl) (by simp[A1i]) hg
theorem A66(J:Avu)(l_0 c_0:Nat)(n_1:Int):zqe c k Bbq Baj (f160 J) d160 Tryz.f160 .root (Ah (Ah f 0 (.str l_0 c_0)) 1 (.int .u8 n_1)) h=Ad2 c k J l_0 c_0 n_1 h:=by kernel_rfl
theorem A9o(hc:Be c){n:Nat}{a:List AV}(hg:f160 (Ari c k n) 0 (Ab a) h):zqs 160 a h k:=
 zqw hc Bbq Tryz.func160 rfl (by kernel_rfl) (by kernel_rfl) k Baj (fun n=>f160 (Ari c k n)) (fun L _ _ hl=>match L,hl with
  |0,hl=>Bv hl fun _ _ hl=>Bq hl fun _ hl=>hl
  |_+1,hl=>hl) (fun n=>⟨
  fun f h hl=>by
    refine Bu 0 hl fun _ _ hl=>?_;refine Bp 1 hl fun _ hl=>?_;exact Eq.mpr (A66 ..) hl,
  trivial⟩) rfl hg
theorem A6z(J:Avt)(l_0 c_0:Nat)(n_1:Int):zqe c k Bbp Bai (f162 J) d162 Tryz.f162 .root (Ah (Ah f 0 (.str l_0 c_0)) 1 (.int .i32 n_1)) h=Adw c k J l_0 c_0 n_1 h:=by kernel_rfl
theorem A9m(hc:Be c){n:Nat}{a:List AV}(hg:f162 (Arh c k n) 0 (Ab a) h):zqs 162 a h k:=
 zqw hc Bbp Tryz.func162 rfl (by kernel_rfl) (by kernel_rfl) k Bai (fun n=>f162 (Arh c k n)) (fun L _ _ hl=>match L,hl with
  |0,hl=>Bv hl fun _ _ hl=>Bq hl fun _ hl=>hl
  |1,hl=>hl
  |2,hl=>hl
  |3,hl=>hl
  |4,hl=>hl
  |5,hl=>hl
  |6,hl=>hl
  |7,hl=>hl
  |8,hl=>hl
  |9,hl=>hl
  |10,hl=>hl
  |11,hl=>hl
  |12,hl=>hl
  |13,hl=>hl
  |14,hl=>hl
  |15,hl=>hl
  |16,hl=>hl
  |17,hl=>hl
  |18,hl=>hl
  |19,hl=>hl
  |20,hl=>hl
  |21,hl=>hl
  |22,hl=>hl
  |_+23,hl=>hl) (fun n=>⟨
  fun f h hl=>by
    refine Bu 0 hl fun _ _ hl=>?_;refine Bp 1 hl fun _ hl=>?_;exact Eq.mpr (A6z ..) hl,
  fun _ _ hl=>False.elim hl,
  fun _ _ hl=>False.elim hl,
  fun _ _ hl=>False.elim hl,
  fun _ _ hl=>False.elim hl,
  fun _ _ hl=>False.elim hl,
  fun _ _ hl=>False.elim hl,
  fun _ _ hl=>False.elim hl,
  fun _ _ hl=>False.elim hl,
  fun _ _ hl=>False.elim hl,
  fun _ _ hl=>False.elim hl,
  fun _ _ hl=>False.elim hl,
  fun _ _ hl=>False.elim hl,
  fun _ _ hl=>False.elim hl,
  fun _ _ hl=>False.elim hl,
  fun _ _ hl=>False.elim hl,
  fun _ _ hl=>False.elim hl,
  fun _ _ hl=>False.elim hl,
  fun _ _ hl=>False.elim hl,
  fun _ _ hl=>False.elim hl,
  fun _ _ hl=>False.elim hl,
  fun _ _ hl=>False.elim hl,
  fun _ _ hl=>False.elim hl,
  trivial⟩) rfl hg
theorem Bhz(hc:Be c){m:Nat}{a:List AV}(hg:Az env c A3f A1g d168 (As env Tryz.f168.results.toList k) m 0 (Ab a) h):zqs 168 a h k:=Ba mixed Bn hc A3f Tryz.func168 rfl (by kernel_rfl) (by kernel_rfl) (by kernel_rfl) (by simp[A1g]) hg
theorem A6x(J:Ak4)(l_0 c_0:Nat):zqe c k A3e A1f (f169 J) d169 Tryz.f169 .root (Ah f 0 (.str l_0 c_0)) h=Adu c k J l_0 c_0 (f 1) h:=by kernel_rfl
theorem A6w(J:Ak4)(l_0 c_0:Nat):zqe c k A3e A1f (f169 J) d169 Tryz.f169 (.l (.l (.r .root))) (Ah f 0 (.str l_0 c_0)) h=Adt c k J l_0 c_0 (f 1) h:=by kernel_rfl
theorem A9k(hc:Be c){n:Nat}{a:List AV}(hg:f169 (Ag9 c k n) 0 (Ab a) h):zqs 169 a h k:=
 zqw hc A3e Tryz.func169 rfl (by kernel_rfl) (by kernel_rfl) k A1f (fun n=>f169 (Ag9 c k n)) (fun L _ _ hl=>match L,hl with
  |0,hl=>Bv hl fun _ _ hl=>hl
  |1,hl=>Bv hl fun _ _ hl=>hl
  |_+2,hl=>hl) (fun n=>⟨
  fun f h hl=>by
    refine Bu 0 hl fun _ _ hl=>?_;exact Eq.mpr (A6x ..) hl,
  fun f h hl=>by
    refine Bu 0 hl fun _ _ hl=>?_;exact Eq.mpr (A6w ..) hl,
  trivial⟩) rfl hg
theorem A6v(J:Avr)(l_0 c_0:Nat)(l_1 c_1:Nat):zqe c k Bbn Bag (f171 J) d171 Tryz.f171 .root (Ah (Ah f 0 (.str l_0 c_0)) 1 (.str l_1 c_1)) h=Ads c k J l_0 c_0 l_1 c_1 h:=by kernel_rfl
theorem A9j(hc:Be c){n:Nat}{a:List AV}(hg:f171 (Are c k n) 0 (Ab a) h):zqs 171 a h k:=
 zqw hc Bbn Tryz.func171 rfl (by kernel_rfl) (by kernel_rfl) k Bag (fun n=>f171 (Are c k n)) (fun L _ _ hl=>match L,hl with
  |0,hl=>Bv hl fun _ _ hl=>Bv hl fun _ _ hl=>hl
  |_+1,hl=>hl) (fun n=>⟨
  fun f h hl=>by
    refine Bu 0 hl fun _ _ hl=>?_;refine Bu 1 hl fun _ _ hl=>?_;exact Eq.mpr (A6v ..) hl,
  trivial⟩) rfl hg
theorem A6t(J:Tl)(l_0 c_0:Nat)(n_1 n_2:Int):zqe c k Ajp Ajd (f173 J) d173 Tryz.f173 .root (Ah (Ah (Ah f 0 (.str l_0 c_0)) 1 (.int .i64 n_1)) 2 (.int .i64 n_2)) h=Adq c k J l_0 c_0 n_1 n_2 h:=by kernel_rfl
theorem A6s(J:Tl)(n_1:Int)(b_8:Bool)(l_9 c_9:Nat)(n_10 n_11:Int)(b_12:Bool)(n_13 n_100 n_101:Int):zqe c k Ajp Ajd (f173 J) d173 Tryz.f173 (.l (.r (.l (.r (.r (.r (.r (.r (.r (.r (.r (.r (.r (.r .root)))))))))))))) (Ah (Ah (Ah (Ah (Ah (Ah (Ah (Ah (Ah f 1 (.int .i64 n_1)) 8 (.bool b_8)) 9 (.str l_9 c_9)) 10 (.int .u64 n_10)) 11 (.int .u64 n_11)) 12 (.bool b_12)) 13 (.int .u64 n_13)) 100 (.int .i64 n_100)) 101 (.int .i64 n_101)) h=Adp c k J n_1 b_8 l_9 c_9 n_10 n_11 b_12 n_13 (f 99) n_100 n_101 h:=by kernel_rfl
theorem A6r(J:Tl)(n_1:Int)(b_8:Bool)(l_9 c_9:Nat)(n_10 n_11:Int)(b_12:Bool)(n_13 n_16:Int)(n_100 n_101:Int):zqe c k Ajp Ajd (f173 J) d173 Tryz.f173 (.r (.r (.r (.l (.l (.r (.r (.l (.l (.r (.l (.r (.r (.r (.r (.r (.r (.r (.r (.r (.r (.r .root)))))))))))))))))))))) (Ah (Ah (Ah (Ah (Ah (Ah (Ah (Ah (Ah (Ah f 1 (.int .i64 n_1)) 8 (.bool b_8)) 9 (.str l_9 c_9)) 10 (.int .u64 n_10)) 11 (.int .u64 n_11)) 12 (.bool b_12)) 13 (.int .u64 n_13)) 16 (.int .u8 n_16)) 100 (.int .i64 n_100)) 101 (.int .i64 n_101)) h=Ado c k J n_1 b_8 l_9 c_9 n_10 n_11 b_12 n_13 n_16 (f 99) n_100 n_101 h:=by kernel_rfl
theorem A6q(J:Tl)(l_0 c_0:Nat)(n_1 n_2:Int)(b_8:Bool)(l_9 c_9:Nat)(n_10:Int):zqe c k Ajp Ajd (f173 J) d173 Tryz.f173 (.r (.r (.r (.r (.r (.r (.r (.r .root)))))))) (Ah (Ah (Ah (Ah (Ah (Ah f 0 (.str l_0 c_0)) 1 (.int .i64 n_1)) 2 (.int .i64 n_2)) 8 (.bool b_8)) 9 (.str l_9 c_9)) 10 (.int .u64 n_10)) h=Adn c k J l_0 c_0 n_1 n_2 b_8 l_9 c_9 n_10 h:=by kernel_rfl
theorem A6p(J:Tl)(l_0 c_0:Nat)(n_1 n_2:Int)(b_8:Bool)(l_9 c_9:Nat):zqe c k Ajp Ajd (f173 J) d173 Tryz.f173 (.r (.r (.r (.r (.r (.r .root)))))) (Ah (Ah (Ah (Ah (Ah f 0 (.str l_0 c_0)) 1 (.int .i64 n_1)) 2 (.int .i64 n_2)) 8 (.bool b_8)) 9 (.str l_9 c_9)) h=Adm c k J l_0 c_0 n_1 n_2 b_8 l_9 c_9 h:=by kernel_rfl
theorem A6o(J:Tl)(l_0 c_0:Nat)(n_1 n_2:Int)(b_8:Bool)(l_9 c_9:Nat):zqe c k Ajp Ajd (f173 J) d173 Tryz.f173 (.r (.r (.r (.r (.r .root))))) (Ah (Ah (Ah (Ah (Ah f 0 (.str l_0 c_0)) 1 (.int .i64 n_1)) 2 (.int .i64 n_2)) 8 (.bool b_8)) 9 (.str l_9 c_9)) h=Adl c k J l_0 c_0 n_1 n_2 b_8 l_9 c_9 h:=by kernel_rfl
theorem A9h(hc:Be c){n:Nat}{a:List AV}(hg:f173 (Pf c k n) 0 (Ab a) h):zqs 173 a h k:=
 zqw hc Ajp Tryz.func173 rfl (by kernel_rfl) (by kernel_rfl) k Ajd (fun n=>f173 (Pf c k n)) (fun L _ _ hl=>match L,hl with
  |0,hl=>Bv hl fun _ _ hl=>Bq hl fun _ hl=>Bq hl fun _ hl=>hl
  |1,hl=>Bq hl fun _ hl=>Gc hl fun _ hl=>Bv hl fun _ _ hl=>Bq hl fun _ hl=>Bq hl fun _ hl=>Gc hl fun _ hl=>Bq hl fun _ hl=>Bq hl fun _ hl=>Bq hl fun _ hl=>hl
  |2,hl=>Bq hl fun _ hl=>Gc hl fun _ hl=>Bv hl fun _ _ hl=>Bq hl fun _ hl=>Bq hl fun _ hl=>Gc hl fun _ hl=>Bq hl fun _ hl=>Bq hl fun _ hl=>Bq hl fun _ hl=>Bq hl fun _ hl=>hl
  |3,hl=>Bv hl fun _ _ hl=>Bq hl fun _ hl=>Bq hl fun _ hl=>Gc hl fun _ hl=>Bv hl fun _ _ hl=>Bq hl fun _ hl=>hl
  |4,hl=>Bv hl fun _ _ hl=>Bq hl fun _ hl=>Bq hl fun _ hl=>Gc hl fun _ hl=>Bv hl fun _ _ hl=>hl
  |5,hl=>Bv hl fun _ _ hl=>Bq hl fun _ hl=>Bq hl fun _ hl=>Gc hl fun _ hl=>Bv hl fun _ _ hl=>hl
  |_+6,hl=>hl) (fun n=>⟨
  fun f h hl=>by
    refine Bu 0 hl fun _ _ hl=>?_;refine Bp 1 hl fun _ hl=>?_;refine Bp 2 hl fun _ hl=>?_;exact Eq.mpr (A6t ..) hl,
  fun f h hl=>by
    refine Bp 1 hl fun _ hl=>?_;refine Gb 8 hl fun _ hl=>?_;refine Bu 9 hl fun _ _ hl=>?_;refine Bp 10 hl fun _ hl=>?_;refine Bp 11 hl fun _ hl=>?_;refine Gb 12 hl fun _ hl=>?_;refine Bp 13 hl fun _ hl=>?_;refine Bp 100 hl fun _ hl=>?_;refine Bp 101 hl fun _ hl=>?_;exact Eq.mpr (A6s ..) hl,
  fun f h hl=>by
    refine Bp 1 hl fun _ hl=>?_;refine Gb 8 hl fun _ hl=>?_;refine Bu 9 hl fun _ _ hl=>?_;refine Bp 10 hl fun _ hl=>?_;refine Bp 11 hl fun _ hl=>?_;refine Gb 12 hl fun _ hl=>?_;refine Bp 13 hl fun _ hl=>?_;refine Bp 16 hl fun _ hl=>?_;refine Bp 100 hl fun _ hl=>?_;refine Bp 101 hl fun _ hl=>?_;exact Eq.mpr (A6r ..) hl,
  fun f h hl=>by
    refine Bu 0 hl fun _ _ hl=>?_;refine Bp 1 hl fun _ hl=>?_;refine Bp 2 hl fun _ hl=>?_;refine Gb 8 hl fun _ hl=>?_;refine Bu 9 hl fun _ _ hl=>?_;refine Bp 10 hl fun _ hl=>?_;exact Eq.mpr (A6q ..) hl,
  fun f h hl=>by
    refine Bu 0 hl fun _ _ hl=>?_;refine Bp 1 hl fun _ hl=>?_;refine Bp 2 hl fun _ hl=>?_;refine Gb 8 hl fun _ hl=>?_;refine Bu 9 hl fun _ _ hl=>?_;exact Eq.mpr (A6p ..) hl,
  fun f h hl=>by
    refine Bu 0 hl fun _ _ hl=>?_;refine Bp 1 hl fun _ hl=>?_;refine Bp 2 hl fun _ hl=>?_;refine Gb 8 hl fun _ hl=>?_;refine Bu 9 hl fun _ _ hl=>?_;exact Eq.mpr (A6o ..) hl,
  trivial⟩) rfl hg
theorem Bhx(hc:Be c){m:Nat}{a:List AV}(hg:Az env c A3c A1d d183 (As env Tryz.f183.results.toList k) m 0 (Ab a) h):zqs 183 a h k:=Ba mixed Bn hc A3c Tryz.func183 rfl (by kernel_rfl) (by kernel_rfl) (by kernel_rfl) (by simp[A1d]) hg
theorem A6i(J:Ak2)(l_0 c_0:Nat)(n_1 n_2:Int)(b_3:Bool):zqe c k A3a A1b (f188 J) d188 Tryz.f188 .root (Ah (Ah (Ah (Ah f 0 (.str l_0 c_0)) 1 (.int .u64 n_1)) 2 (.int .u64 n_2)) 3 (.bool b_3)) h=Adf c k J l_0 c_0 n_1 n_2 b_3 h:=by kernel_rfl
theorem A6h(J:Ak2)(l_0 c_0:Nat)(n_1 n_2:Int)(b_9:Bool):zqe c k A3a A1b (f188 J) d188 Tryz.f188 (.r (.r (.r .root))) (Ah (Ah (Ah (Ah f 0 (.str l_0 c_0)) 1 (.int .u64 n_1)) 2 (.int .u64 n_2)) 9 (.bool b_9)) h=Ade c k J l_0 c_0 n_1 n_2 b_9 h:=by kernel_rfl
theorem A9c(hc:Be c){n:Nat}{a:List AV}(hg:f188 (Ag8 c k n) 0 (Ab a) h):zqs 188 a h k:=
 zqw hc A3a Tryz.func188 rfl (by kernel_rfl) (by kernel_rfl) k A1b (fun n=>f188 (Ag8 c k n)) (fun L _ _ hl=>match L,hl with
  |0,hl=>Bv hl fun _ _ hl=>Bq hl fun _ hl=>Bq hl fun _ hl=>Gc hl fun _ hl=>hl
  |1,hl=>Bv hl fun _ _ hl=>Bq hl fun _ hl=>Bq hl fun _ hl=>Gc hl fun _ hl=>hl
  |_+2,hl=>hl) (fun n=>⟨
  fun f h hl=>by
    refine Bu 0 hl fun _ _ hl=>?_;refine Bp 1 hl fun _ hl=>?_;refine Bp 2 hl fun _ hl=>?_;refine Gb 3 hl fun _ hl=>?_;exact Eq.mpr (A6i ..) hl,
  fun f h hl=>by
    refine Bu 0 hl fun _ _ hl=>?_;refine Bp 1 hl fun _ hl=>?_;refine Bp 2 hl fun _ hl=>?_;refine Gb 9 hl fun _ hl=>?_;exact Eq.mpr (A6h ..) hl,
  trivial⟩) rfl hg
theorem Bhu(hc:Be c){m:Nat}{a:List AV}(hg:Az env c A28 A09 d191 (As env Tryz.f191.results.toList k) m 0 (Ab a) h):zqs 191 a h k:=Ba mixed Bn hc A28 Tryz.func191 rfl (by kernel_rfl) (by kernel_rfl) (by kernel_rfl) (by simp[A09]) hg
theorem Bhs(hc:Be c){m:Nat}{a:List AV}(hg:Az env c A26 A07 d194 (As env Tryz.f194.results.toList k) m 0 (Ab a) h):zqs 194 a h k:=Ba mixed Bn hc A26 Tryz.func194 rfl (by kernel_rfl) (by kernel_rfl) (by kernel_rfl) (by simp[A07]) hg
theorem Bhq(hc:Be c){m:Nat}{a:List AV}(hg:Az env c A24 A05 d196 (As env Tryz.f196.results.toList k) m 0 (Ab a) h):zqs 196 a h k:=Ba mixed Bn hc A24 Tryz.func196 rfl (by kernel_rfl) (by kernel_rfl) (by kernel_rfl) (by simp[A05]) hg
theorem Bho(hc:Be c){m:Nat}{a:List AV}(hg:Az env c A22 A03 d206 (As env Tryz.f206.results.toList k) m 0 (Ab a) h):zqs 206 a h k:=Ba mixed Bn hc A22 Tryz.func206 rfl (by kernel_rfl) (by kernel_rfl) (by kernel_rfl) (by simp[A03]) hg
theorem A6f(J:Avl)(l_0 c_0:Nat)(n_1:Int):zqe c k Bbh Baa (f207 J) d207 Tryz.f207 .root (Ah (Ah f 0 (.str l_0 c_0)) 1 (.int .u8 n_1)) h=Adb c k J l_0 c_0 n_1 h:=by kernel_rfl
theorem A9b(hc:Be c){n:Nat}{a:List AV}(hg:f207 (Aq9 c k n) 0 (Ab a) h):zqs 207 a h k:=
 zqw hc Bbh Tryz.func207 rfl (by kernel_rfl) (by kernel_rfl) k Baa (fun n=>f207 (Aq9 c k n)) (fun L _ _ hl=>match L,hl with
  |0,hl=>Bv hl fun _ _ hl=>Bq hl fun _ hl=>hl
  |_+1,hl=>hl) (fun n=>⟨
  fun f h hl=>by
    refine Bu 0 hl fun _ _ hl=>?_;refine Bp 1 hl fun _ hl=>?_;exact Eq.mpr (A6f ..) hl,
  trivial⟩) rfl hg
theorem A6e(J:Ak1)(n_1:Int):zqe c k A21 A02 (f208 J) d208 Tryz.f208 .root (Ah f 1 (.int .i64 n_1)) h=Ada c k J (f 0) n_1 h:=by kernel_rfl
theorem A6d(J:Ak1)(n_1:Int):zqe c k A21 A02 (f208 J) d208 Tryz.f208 (.r (.r .root)) (Ah f 1 (.int .i64 n_1)) h=Ac9 c k J (f 0) n_1 h:=by kernel_rfl
theorem A9a(hc:Be c){n:Nat}{a:List AV}(hg:f208 (Ajo c k n) 0 (Ab a) h):zqs 208 a h k:=
 zqw hc A21 Tryz.func208 rfl (by kernel_rfl) (by kernel_rfl) k A02 (fun n=>f208 (Ajo c k n)) (fun L _ _ hl=>match L,hl with
  |0,hl=>Bq hl fun _ hl=>hl
  |1,hl=>Bq hl fun _ hl=>hl
  |_+2,hl=>hl) (fun n=>⟨
  fun f h hl=>by
    refine Bp 1 hl fun _ hl=>?_;exact Eq.mpr (A6e ..) hl,
  fun f h hl=>by
    refine Bp 1 hl fun _ hl=>?_;exact Eq.mpr (A6d ..) hl,
  trivial⟩) rfl hg
theorem A58(J:Avi)(l_0 c_0:Nat)(l_1 c_1:Nat):zqe c k Bbe A97 (f224 J) d224 Tryz.f224 .root (Ah (Ah f 0 (.str l_0 c_0)) 1 (.str l_1 c_1)) h=Ac5 c k J l_0 c_0 l_1 c_1 h:=by kernel_rfl
theorem A86(hc:Be c){n:Nat}{a:List AV}(hg:f224 (Aq6 c k n) 0 (Ab a) h):zqs 224 a h k:=
 zqw hc Bbe Tryz.func224 rfl (by kernel_rfl) (by kernel_rfl) k A97 (fun n=>f224 (Aq6 c k n)) (fun L _ _ hl=>match L,hl with
  |0,hl=>Bv hl fun _ _ hl=>Bv hl fun _ _ hl=>hl
  |_+1,hl=>hl) (fun n=>⟨
  fun f h hl=>by
    refine Bu 0 hl fun _ _ hl=>?_;refine Bu 1 hl fun _ _ hl=>?_;exact Eq.mpr (A58 ..) hl,
  trivial⟩) rfl hg
theorem A57(J:Akz)(l_1 c_1:Nat):zqe c k A2z A00 (f233 J) d233 Tryz.f233 .root (Ah f 1 (.str l_1 c_1)) h=Ac4 c k J (f 0) l_1 c_1 h:=by kernel_rfl
theorem A56(J:Akz)(l_1 c_1:Nat)(n_7 n_8:Int):zqe c k A2z A00 (f233 J) d233 Tryz.f233 (.l (.r (.l (.r .root)))) (Ah (Ah (Ah f 1 (.str l_1 c_1)) 7 (.int .i64 n_7)) 8 (.int .i64 n_8)) h=Ac3 c k J (f 0) l_1 c_1 n_7 n_8 h:=by kernel_rfl
theorem A85(hc:Be c){n:Nat}{a:List AV}(hg:f233 (Ag6 c k n) 0 (Ab a) h):zqs 233 a h k:=
 zqw hc A2z Tryz.func233 rfl (by kernel_rfl) (by kernel_rfl) k A00 (fun n=>f233 (Ag6 c k n)) (fun L _ _ hl=>match L,hl with
  |0,hl=>Bv hl fun _ _ hl=>hl
  |1,hl=>Bv hl fun _ _ hl=>Bq hl fun _ hl=>Bq hl fun _ hl=>hl
  |_+2,hl=>hl) (fun n=>⟨
  fun f h hl=>by
    refine Bu 1 hl fun _ _ hl=>?_;exact Eq.mpr (A57 ..) hl,
  fun f h hl=>by
    refine Bu 1 hl fun _ _ hl=>?_;refine Bp 7 hl fun _ hl=>?_;refine Bp 8 hl fun _ hl=>?_;exact Eq.mpr (A56 ..) hl,
  trivial⟩) rfl hg
theorem Bhm(hc:Be c){m:Nat}{a:List AV}(hg:Az env c A2x A0y d235 (As env Tryz.f235.results.toList k) m 0 (Ab a) h):zqs 235 a h k:=Ba mixed Bn hc A2x Tryz.func235 rfl (by kernel_rfl) (by kernel_rfl) (by kernel_rfl) (by simp[A0y]) hg
theorem Bhk(hc:Be c){m:Nat}{a:List AV}(hg:Az env c A2v A0w d248 (As env Tryz.f248.results.toList k) m 0 (Ab a) h):zqs 248 a h k:=Ba mixed Bn hc A2v Tryz.func248 rfl (by kernel_rfl) (by kernel_rfl) (by kernel_rfl) (by simp[A0w]) hg
theorem Bhi(hc:Be c){m:Nat}{a:List AV}(hg:Az env c A2t A0u d250 (As env Tryz.f250.results.toList k) m 0 (Ab a) h):zqs 250 a h k:=Ba mixed Bn hc A2t Tryz.func250 rfl (by kernel_rfl) (by kernel_rfl) (by kernel_rfl) (by simp[A0u]) hg
theorem Bhg(hc:Be c){m:Nat}{a:List AV}(hg:Az env c A2r A0s d276 (As env Tryz.f276.results.toList k) m 0 (Ab a) h):zqs 276 a h k:=Ba mixed Bn hc A2r Tryz.func276 rfl (by kernel_rfl) (by kernel_rfl) (by kernel_rfl) (by simp[A0s]) hg
theorem Bhe(hc:Be c){m:Nat}{a:List AV}(hg:Az env c A2p A0q d286 (As env Tryz.f286.results.toList k) m 0 (Ab a) h):zqs 286 a h k:=Ba mixed Bn hc A2p Tryz.func286 rfl (by kernel_rfl) (by kernel_rfl) (by kernel_rfl) (by simp[A0q]) hg
theorem Bhc(hc:Be c){m:Nat}{a:List AV}(hg:Az env c A2n A0o d302 (As env Tryz.f302.results.toList k) m 0 (Ab a) h):zqs 302 a h k:=Ba mixed Bn hc A2n Tryz.func302 rfl (by kernel_rfl) (by kernel_rfl) (by kernel_rfl) (by simp[A0o]) hg
theorem Bha(hc:Be c){m:Nat}{a:List AV}(hg:Az env c A2l A0m d307 (As env Tryz.f307.results.toList k) m 0 (Ab a) h):zqs 307 a h k:=Ba mixed Bn hc A2l Tryz.func307 rfl (by kernel_rfl) (by kernel_rfl) (by kernel_rfl) (by simp[A0m]) hg
end Go.Den
