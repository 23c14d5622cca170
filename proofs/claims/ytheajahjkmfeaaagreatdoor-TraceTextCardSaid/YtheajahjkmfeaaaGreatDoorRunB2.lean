/-
 Proof. the pieces are what the program Aja.
-/
import Derived.Test.YtheajahjkmfeaaaGreatDoorRunA1
import Derived.KernelRfl
namespace Go.Den
open Go.Proofs
set_option maxRecDepth 100000
variable{c:CF}{k:KV}{f:FT}{h:H}
theorem w11(hc:Bi c){m:Nat}{a:List AV}(hg:Cv env c q11 u11 d11 (Cr env Tryz.f11.results.toList k) m 0 (Ab a) h):zqs 11 a h k:=Cw mixed Dn hc q11 Tryz.func11 rfl (by kernel_rfl) (by kernel_rfl) (by kernel_rfl) (by simp[u11]) hg
theorem Bi0(J:J15)(l_1 c_1:Nat)(l_2 c_2:Nat):zqe c k q15 u15 (f15 J) d15 Tryz.f15 .root (Ao (Ao f 1 (.str l_1 c_1)) 2 (.str l_2 c_2)) h=Ao1 c k J (f 0) l_1 c_1 l_2 c_2 h:=by kernel_rfl
theorem w15(hc:Bi c){n:Nat}{a:List AV}(hg:f15 (r15 c k n) 0 (Ab a) h):zqs 15 a h k:=
 zqw hc q15 Tryz.func15 rfl (by kernel_rfl) (by kernel_rfl) k u15 (fun n=>f15 (r15 c k n)) (fun L _ _ hl=>match L,hl with
  |0,hl=>Dl hl fun _ _ hl=>Dl hl fun _ _ hl=>hl
  |_+1,hl=>hl) (fun n=>⟨
  fun f h hl=>by
    refine Dk 1 hl fun _ _ hl=>?_;refine Dk 2 hl fun _ _ hl=>?_;exact Eq.mpr (Bi0 ..) hl,
  trivial⟩) rfl hg
theorem Biz(J:J16)(l_1 c_1:Nat):zqe c k q16 u16 (f16 J) d16 Tryz.f16 .root (Ao f 1 (.str l_1 c_1)) h=Ao0 c k J (f 0) l_1 c_1 (f 2) (f 3) h:=by kernel_rfl
theorem w16(hc:Bi c){n:Nat}{a:List AV}(hg:f16 (r16 c k n) 0 (Ab a) h):zqs 16 a h k:=
 zqw hc q16 Tryz.func16 rfl (by kernel_rfl) (by kernel_rfl) k u16 (fun n=>f16 (r16 c k n)) (fun L _ _ hl=>match L,hl with
  |0,hl=>Dl hl fun _ _ hl=>hl
  |_+1,hl=>hl) (fun n=>⟨
  fun f h hl=>by
    refine Dk 1 hl fun _ _ hl=>?_;exact Eq.mpr (Biz ..) hl,
  trivial⟩) rfl hg
theorem Bim(J:J25):zqe c k q25 u25 (f25 J) d25 Tryz.f25 .root f h=Aoq c k J (f 0) (f 1) h:=by kernel_rfl
theorem w25(hc:Bi c){n:Nat}{a:List AV}(hg:f25 (r25 c k n) 0 (Ab a) h):zqs 25 a h k:=
 zqw hc q25 Tryz.func25 rfl (by kernel_rfl) (by kernel_rfl) k u25 (fun n=>f25 (r25 c k n)) (fun L _ _ hl=>match L,hl with
  |0,hl=>hl
  |_+1,hl=>hl) (fun n=>⟨
  fun f h hl=>Eq.mpr (Bim ..) hl,
  trivial⟩) rfl hg
theorem Big(J:J30)(l_0 c_0:Nat):zqe c k q30 u30 (f30 J) d30 Tryz.f30 .root (Ao f 0 (.str l_0 c_0)) h=Aok c k J l_0 c_0 h:=by kernel_rfl
theorem Bif(J:J30)(n_4:Int):zqe c k q30 u30 (f30 J) d30 Tryz.f30 (.l (.r (.l (.r (.r (.r .root)))))) (Ao f 4 (.int .i64 n_4)) h=Aoj c k J (f 3) n_4 h:=by kernel_rfl
theorem w30(hc:Bi c){n:Nat}{a:List AV}(hg:f30 (r30 c k n) 0 (Ab a) h):zqs 30 a h k:=
 zqw hc q30 Tryz.func30 rfl (by kernel_rfl) (by kernel_rfl) k u30 (fun n=>f30 (r30 c k n)) (fun L _ _ hl=>match L,hl with
  |0,hl=>Dl hl fun _ _ hl=>hl
  |1,hl=>Bz hl fun _ hl=>hl
  |_+2,hl=>hl) (fun n=>⟨
  fun f h hl=>by
    refine Dk 0 hl fun _ _ hl=>?_;exact Eq.mpr (Big ..) hl,
  fun f h hl=>by
    refine By 4 hl fun _ hl=>?_;exact Eq.mpr (Bif ..) hl,
  trivial⟩) rfl hg
theorem Bib(J:J34):zqe c k q34 u34 (f34 J) d34 Tryz.f34 .root f h=Aof c k J  h:=by kernel_rfl
theorem w34(hc:Bi c){n:Nat}{a:List AV}(hg:f34 (r34 c k n) 0 (Ab a) h):zqs 34 a h k:=
 zqw hc q34 Tryz.func34 rfl (by kernel_rfl) (by kernel_rfl) k u34 (fun n=>f34 (r34 c k n)) (fun L _ _ hl=>match L,hl with
  |0,hl=>hl
  |_+1,hl=>hl) (fun n=>⟨
  fun f h hl=>Eq.mpr (Bib ..) hl,
  trivial⟩) rfl hg
theorem Bia(J:J35)(n_0:Int):zqe c k q35 u35 (f35 J) d35 Tryz.f35 .root (Ao f 0 (.int .i64 n_0)) h=Aoe c k J n_0 h:=by kernel_rfl
theorem w35(hc:Bi c){n:Nat}{a:List AV}(hg:f35 (r35 c k n) 0 (Ab a) h):zqs 35 a h k:=
 zqw hc q35 Tryz.func35 rfl (by kernel_rfl) (by kernel_rfl) k u35 (fun n=>f35 (r35 c k n)) (fun L _ _ hl=>match L,hl with
  |0,hl=>Bz hl fun _ hl=>hl
  |_+1,hl=>hl) (fun n=>⟨
  fun f h hl=>by
    refine By 0 hl fun _ hl=>?_;exact Eq.mpr (Bia ..) hl,
  trivial⟩) rfl hg
theorem Bh9(J:J36)(l_1 c_1:Nat):zqe c k q36 u36 (f36 J) d36 Tryz.f36 .root (Ao f 1 (.str l_1 c_1)) h=Aod c k J (f 0) l_1 c_1 h:=by kernel_rfl
theorem Bh8(J:J36)(n_70 n_71:Int):zqe c k q36 u36 (f36 J) d36 Tryz.f36 (.l (.r (.l (.r (.r (.r (.r (.r (.r (.r .root)))))))))) (Ao (Ao f 70 (.int .i64 n_70)) 71 (.int .i64 n_71)) h=Aoc c k J (f 0) (f 69) n_70 n_71 h:=by kernel_rfl
theorem Bh7(J:J36):zqe c k q36 u36 (f36 J) d36 Tryz.f36 (.r (.r (.r (.r (.r (.r (.r .root))))))) f h=Aob c k J (f 0) (f 7) h:=by kernel_rfl
theorem w36(hc:Bi c){n:Nat}{a:List AV}(hg:f36 (r36 c k n) 0 (Ab a) h):zqs 36 a h k:=
 zqw hc q36 Tryz.func36 rfl (by kernel_rfl) (by kernel_rfl) k u36 (fun n=>f36 (r36 c k n)) (fun L _ _ hl=>match L,hl with
  |0,hl=>Dl hl fun _ _ hl=>hl
  |1,hl=>Bz hl fun _ hl=>Bz hl fun _ hl=>hl
  |2,hl=>hl
  |_+3,hl=>hl) (fun n=>⟨
  fun f h hl=>by
    refine Dk 1 hl fun _ _ hl=>?_;exact Eq.mpr (Bh9 ..) hl,
  fun f h hl=>by
    refine By 70 hl fun _ hl=>?_;refine By 71 hl fun _ hl=>?_;exact Eq.mpr (Bh8 ..) hl,
  fun f h hl=>Eq.mpr (Bh7 ..) hl,
  trivial⟩) rfl hg
theorem Bh6(J:J38):zqe c k q38 u38 (f38 J) d38 Tryz.f38 .root f h=Aoa c k J (f 0) h:=by kernel_rfl
theorem w38(hc:Bi c){n:Nat}{a:List AV}(hg:f38 (r38 c k n) 0 (Ab a) h):zqs 38 a h k:=
 zqw hc q38 Tryz.func38 rfl (by kernel_rfl) (by kernel_rfl) k u38 (fun n=>f38 (r38 c k n)) (fun L _ _ hl=>match L,hl with
  |0,hl=>hl
  |_+1,hl=>hl) (fun n=>⟨
  fun f h hl=>Eq.mpr (Bh6 ..) hl,
  trivial⟩) rfl hg
theorem w45(hc:Bi c){m:Nat}{a:List AV}(hg:Cv env c q45 u45 d45 (Cr env Tryz.f45.results.toList k) m 0 (Ab a) h):zqs 45 a h k:=Cw mixed Dn hc q45 Tryz.func45 rfl (by kernel_rfl) (by kernel_rfl) (by kernel_rfl) (by simp[u45]) hg
theorem Bhr(J:J49):zqe c k q49 u49 (f49 J) d49 Tryz.f49 .root f h=Anu c k J (f 0) (f 1) h:=by kernel_rfl
theorem Bhq(J:J49)(n_7 n_8:Int):zqe c k q49 u49 (f49 J) d49 Tryz.f49 (.l (.r (.l (.r .root)))) (Ao (Ao f 7 (.int .i64 n_7)) 8 (.int .i64 n_8)) h=Ant c k J (f 0) (f 1) n_7 n_8 h:=by kernel_rfl
theorem w49(hc:Bi c){n:Nat}{a:List AV}(hg:f49 (r49 c k n) 0 (Ab a) h):zqs 49 a h k:=
 zqw hc q49 Tryz.func49 rfl (by kernel_rfl) (by kernel_rfl) k u49 (fun n=>f49 (r49 c k n)) (fun L _ _ hl=>match L,hl with
  |0,hl=>hl
  |1,hl=>Bz hl fun _ hl=>Bz hl fun _ hl=>hl
  |_+2,hl=>hl) (fun n=>⟨
  fun f h hl=>Eq.mpr (Bhr ..) hl,
  fun f h hl=>by
    refine By 7 hl fun _ hl=>?_;refine By 8 hl fun _ hl=>?_;exact Eq.mpr (Bhq ..) hl,
  trivial⟩) rfl hg
theorem Bhp(J:J50):zqe c k q50 u50 (f50 J) d50 Tryz.f50 .root f h=Ans c k J (f 0) h:=by kernel_rfl
theorem w50(hc:Bi c){n:Nat}{a:List AV}(hg:f50 (r50 c k n) 0 (Ab a) h):zqs 50 a h k:=
 zqw hc q50 Tryz.func50 rfl (by kernel_rfl) (by kernel_rfl) k u50 (fun n=>f50 (r50 c k n)) (fun L _ _ hl=>match L,hl with
  |0,hl=>hl
  |_+1,hl=>hl) (fun n=>⟨
  fun f h hl=>Eq.mpr (Bhp ..) hl,
  trivial⟩) rfl hg
theorem Bho(J:J51)(l_0 c_0:Nat):zqe c k q51 u51 (f51 J) d51 Tryz.f51 .root (Ao f 0 (.str l_0 c_0)) h=Anr c k J l_0 c_0 h:=by kernel_rfl
theorem w51(hc:Bi c){n:Nat}{a:List AV}(hg:f51 (r51 c k n) 0 (Ab a) h):zqs 51 a h k:=
 zqw hc q51 Tryz.func51 rfl (by kernel_rfl) (by kernel_rfl) k u51 (fun n=>f51 (r51 c k n)) (fun L _ _ hl=>match L,hl with
  |0,hl=>Dl hl fun _ _ hl=>hl
  |_+1,hl=>hl) (fun n=>⟨
  fun f h hl=>by
    refine Dk 0 hl fun _ _ hl=>?_;exact Eq.mpr (Bho ..) hl,
  trivial⟩) rfl hg
theorem Bhl(J:J53)(l_0 c_0:Nat):zqe c k q53 u53 (f53 J) d53 Tryz.f53 .root (Ao f 0 (.str l_0 c_0)) h=Ano c k J l_0 c_0 h:=by kernel_rfl
theorem Bhk(J:J53)(l_0 c_0:Nat)(n_4 n_5:Int):zqe c k q53 u53 (f53 J) d53 Tryz.f53 (.l (.r (.l (.r (.r (.r .root)))))) (Ao (Ao (Ao f 0 (.str l_0 c_0)) 4 (.int .i64 n_4)) 5 (.int .i64 n_5)) h=Aho c k J l_0 c_0 (f 3) n_4 n_5 h:=by kernel_rfl
theorem Bhj(J:J53)(l_0 c_0:Nat)(n_4 n_5:Int):zqe c k q53 u53 (f53 J) d53 Tryz.f53 (.r (.r (.l (.l (.r (.l (.r (.r (.r .root))))))))) (Ao (Ao (Ao f 0 (.str l_0 c_0)) 4 (.int .i64 n_4)) 5 (.int .i64 n_5)) h=Acv c k J l_0 c_0 (f 3) n_4 n_5 h:=by kernel_rfl
theorem w53(hc:Bi c){n:Nat}{a:List AV}(hg:f53 (r53 c k n) 0 (Ab a) h):zqs 53 a h k:=
 zqw hc q53 Tryz.func53 rfl (by kernel_rfl) (by kernel_rfl) k u53 (fun n=>f53 (r53 c k n)) (fun L _ _ hl=>match L,hl with
  |0,hl=>Dl hl fun _ _ hl=>hl
  |1,hl=>Dl hl fun _ _ hl=>Bz hl fun _ hl=>Bz hl fun _ hl=>hl
  |2,hl=>Dl hl fun _ _ hl=>Bz hl fun _ hl=>Bz hl fun _ hl=>hl
  |_+3,hl=>hl) (fun n=>⟨
  fun f h hl=>by
    refine Dk 0 hl fun _ _ hl=>?_;exact Eq.mpr (Bhl ..) hl,
  fun f h hl=>by
    refine Dk 0 hl fun _ _ hl=>?_;refine By 4 hl fun _ hl=>?_;refine By 5 hl fun _ hl=>?_;exact Eq.mpr (Bhk ..) hl,
  fun f h hl=>by
    refine Dk 0 hl fun _ _ hl=>?_;refine By 4 hl fun _ hl=>?_;refine By 5 hl fun _ hl=>?_;exact Eq.mpr (Bhj ..) hl,
  trivial⟩) rfl hg
theorem Bhi(J:J54)(l_0 c_0:Nat):zqe c k q54 u54 (f54 J) d54 Tryz.f54 .root (Ao f 0 (.str l_0 c_0)) h=Ann c k J l_0 c_0 h:=by kernel_rfl
theorem Bhh(J:J54)(l_0 c_0:Nat)(n_3:Int):zqe c k q54 u54 (f54 J) d54 Tryz.f54 (.l (.r (.l (.r .root)))) (Ao (Ao f 0 (.str l_0 c_0)) 3 (.int .i64 n_3)) h=Anm c k J l_0 c_0 n_3 h:=by kernel_rfl
theorem w54(hc:Bi c){n:Nat}{a:List AV}(hg:f54 (r54 c k n) 0 (Ab a) h):zqs 54 a h k:=
 zqw hc q54 Tryz.func54 rfl (by kernel_rfl) (by kernel_rfl) k u54 (fun n=>f54 (r54 c k n)) (fun L _ _ hl=>match L,hl with
  |0,hl=>Dl hl fun _ _ hl=>hl
  |1,hl=>Dl hl fun _ _ hl=>Bz hl fun _ hl=>hl
  |_+2,hl=>hl) (fun n=>⟨
  fun f h hl=>by
    refine Dk 0 hl fun _ _ hl=>?_;exact Eq.mpr (Bhi ..) hl,
  fun f h hl=>by
    refine Dk 0 hl fun _ _ hl=>?_;refine By 3 hl fun _ hl=>?_;exact Eq.mpr (Bhh ..) hl,
  trivial⟩) rfl hg
theorem Bhe(J:J56)(n_1:Int):zqe c k q56 u56 (f56 J) d56 Tryz.f56 .root (Ao f 1 (.int .i64 n_1)) h=Anj c k J (f 0) n_1 h:=by kernel_rfl
theorem w56(hc:Bi c){n:Nat}{a:List AV}(hg:f56 (r56 c k n) 0 (Ab a) h):zqs 56 a h k:=
 zqw hc q56 Tryz.func56 rfl (by kernel_rfl) (by kernel_rfl) k u56 (fun n=>f56 (r56 c k n)) (fun L _ _ hl=>match L,hl with
  |0,hl=>Bz hl fun _ hl=>hl
  |_+1,hl=>hl) (fun n=>⟨
  fun f h hl=>by
    refine By 1 hl fun _ hl=>?_;exact Eq.mpr (Bhe ..) hl,
  trivial⟩) rfl hg
theorem Bg3(J:J66):zqe c k q66 u66 (f66 J) d66 Tryz.f66 .root f h=Am9 c k J (f 0) (f 1) h:=by kernel_rfl
theorem Bg2(J:J66):zqe c k q66 u66 (f66 J) d66 Tryz.f66 (.r (.r (.r (.r .root)))) f h=Am8 c k J (f 0) (f 3) h:=by kernel_rfl
theorem w66(hc:Bi c){n:Nat}{a:List AV}(hg:f66 (r66 c k n) 0 (Ab a) h):zqs 66 a h k:=
 zqw hc q66 Tryz.func66 rfl (by kernel_rfl) (by kernel_rfl) k u66 (fun n=>f66 (r66 c k n)) (fun L _ _ hl=>match L,hl with
  |0,hl=>hl
  |1,hl=>hl
  |_+2,hl=>hl) (fun n=>⟨
  fun f h hl=>Eq.mpr (Bg3 ..) hl,
  fun f h hl=>Eq.mpr (Bg2 ..) hl,
  trivial⟩) rfl hg
theorem Bgf(J:J88):zqe c k q88 u88 (f88 J) d88 Tryz.f88 .root f h=Amo c k J (f 0) (f 1) h:=by kernel_rfl
theorem w88(hc:Bi c){n:Nat}{a:List AV}(hg:f88 (r88 c k n) 0 (Ab a) h):zqs 88 a h k:=
 zqw hc q88 Tryz.func88 rfl (by kernel_rfl) (by kernel_rfl) k u88 (fun n=>f88 (r88 c k n)) (fun L _ _ hl=>match L,hl with
  |0,hl=>hl
  |_+1,hl=>hl) (fun n=>⟨
  fun f h hl=>Eq.mpr (Bgf ..) hl,
  trivial⟩) rfl hg
theorem Bgc(J:J90)(l_1 c_1:Nat):zqe c k q90 u90 (f90 J) d90 Tryz.f90 .root (Ao f 1 (.str l_1 c_1)) h=Amm c k J (f 0) l_1 c_1 h:=by kernel_rfl
theorem w90(hc:Bi c){n:Nat}{a:List AV}(hg:f90 (r90 c k n) 0 (Ab a) h):zqs 90 a h k:=
 zqw hc q90 Tryz.func90 rfl (by kernel_rfl) (by kernel_rfl) k u90 (fun n=>f90 (r90 c k n)) (fun L _ _ hl=>match L,hl with
  |0,hl=>Dl hl fun _ _ hl=>hl
  |_+1,hl=>hl) (fun n=>⟨
  fun f h hl=>by
    refine Dk 1 hl fun _ _ hl=>?_;exact Eq.mpr (Bgc ..) hl,
  trivial⟩) rfl hg
theorem w93(hc:Bi c){m:Nat}{a:List AV}(hg:Cv env c q93 u93 d93 (Cr env Tryz.f93.results.toList k) m 0 (Ab a) h):zqs 93 a h k:=Cw mixed Dn hc q93 Tryz.func93 rfl (by kernel_rfl) (by kernel_rfl) (by kernel_rfl) (by simp[u93]) hg
theorem Bah(J:Ag5):zqe c k A0a Azf (f119 J) d119 Tryz.f119 .root f h=Ae7 c k J (f 0) h:=by kernel_rfl
theorem Bag(J:Ag5):zqe c k A0a Azf (f119 J) d119 Tryz.f119 (.l (.l (.l (.r (.l (.l (.r (.r .root)))))))) f h=Ae6 c k J (f 0) h:=by kernel_rfl
theorem Baf(J:Ag5)(n_4:Int):zqe c k A0a Azf (f119 J) d119 Tryz.f119 (.l (.r (.l (.r (.r (.r .root)))))) (Ao f 4 (.int .i64 n_4)) h=Ae5 c k J (f 0) n_4 h:=by kernel_rfl
theorem Bcm(hc:Bi c){n:Nat}{a:List AV}(hg:f119 (Zz c k n) 0 (Ab a) h):zqs 119 a h k:=
 zqw hc A0a Tryz.func119 rfl (by kernel_rfl) (by kernel_rfl) k Azf (fun n=>f119 (Zz c k n)) (fun L _ _ hl=>match L,hl with
  |0,hl=>hl
  |1,hl=>hl
  |2,hl=>Bz hl fun _ hl=>hl
  |_+3,hl=>hl) (fun n=>⟨
  fun f h hl=>Eq.mpr (Bah ..) hl,
  fun f h hl=>Eq.mpr (Bag ..) hl,
  fun f h hl=>by
    refine By 4 hl fun _ hl=>?_;exact Eq.mpr (Baf ..) hl,
  trivial⟩) rfl hg
theorem Bl9(hc:Bi c){m:Nat}{a:List AV}(hg:Cv env c A7c A5w d122 (Cr env Tryz.f122.results.toList k) m 0 (Ab a) h):zqs 122 a h k:=Cw mixed Dn hc A7c Tryz.func122 rfl (by kernel_rfl) (by kernel_rfl) (by kernel_rfl) (by simp[A5w]) hg
theorem Bab(J:Al6)(n_1:Int):zqe c k A7b A5v (f123 J) d123 Tryz.f123 .root (Ao f 1 (.int .i64 n_1)) h=Ae1 c k J (f 0) n_1 (f 2) h:=by kernel_rfl
theorem Baa(J:Al6):zqe c k A7b A5v (f123 J) d123 Tryz.f123 (.r (.r .root)) f h=Ae0 c k J (f 0) h:=by kernel_rfl
theorem Bcj(hc:Bi c){n:Nat}{a:List AV}(hg:f123 (Akj c k n) 0 (Ab a) h):zqs 123 a h k:=
 zqw hc A7b Tryz.func123 rfl (by kernel_rfl) (by kernel_rfl) k A5v (fun n=>f123 (Akj c k n)) (fun L _ _ hl=>match L,hl with
  |0,hl=>Bz hl fun _ hl=>hl
  |1,hl=>hl
  |_+2,hl=>hl) (fun n=>⟨
  fun f h hl=>by
    refine By 1 hl fun _ hl=>?_;exact Eq.mpr (Bab ..) hl,
  fun f h hl=>Eq.mpr (Baa ..) hl,
  trivial⟩) rfl hg
theorem Bl5(hc:Bi c){m:Nat}{a:List AV}(hg:Cv env c A67 A5r d138 (Cr env Tryz.f138.results.toList k) m 0 (Ab a) h):zqs 138 a h k:=Cw mixed Dn hc A67 Tryz.func138 rfl (by kernel_rfl) (by kernel_rfl) (by kernel_rfl) (by simp[A5r]) hg
theorem A99(J:Ay1)(l_0 c_0:Nat)(l_1 c_1:Nat):zqe c k Bdx Bc4 (f141 J) d141 Tryz.f141 .root (Ao (Ao f 0 (.str l_0 c_0)) 1 (.str l_1 c_1)) h=Akc c k J l_0 c_0 l_1 c_1 h:=by kernel_rfl
theorem Bci(hc:Bi c){n:Nat}{a:List AV}(hg:f141 (At4 c k n) 0 (Ab a) h):zqs 141 a h k:=
 zqw hc Bdx Tryz.func141 rfl (by kernel_rfl) (by kernel_rfl) k Bc4 (fun n=>f141 (At4 c k n)) (fun L _ _ hl=>match L,hl with
  |0,hl=>Dl hl fun _ _ hl=>Dl hl fun _ _ hl=>hl
  |_+1,hl=>hl) (fun n=>⟨
  fun f h hl=>by
    refine Dk 0 hl fun _ _ hl=>?_;refine Dk 1 hl fun _ _ hl=>?_;exact Eq.mpr (A99 ..) hl,
  trivial⟩) rfl hg
theorem A98(J:Ay0)(n_0:Int):zqe c k Bdw Bc3 (f142 J) d142 Tryz.f142 .root (Ao f 0 (.int .u8 n_0)) h=Aez c k J n_0 h:=by kernel_rfl
theorem Bch(hc:Bi c){n:Nat}{a:List AV}(hg:f142 (At3 c k n) 0 (Ab a) h):zqs 142 a h k:=
 zqw hc Bdw Tryz.func142 rfl (by kernel_rfl) (by kernel_rfl) k Bc3 (fun n=>f142 (At3 c k n)) (fun L _ _ hl=>match L,hl with
  |0,hl=>Bz hl fun _ hl=>hl
  |_+1,hl=>hl) (fun n=>⟨
  fun f h hl=>by
    refine By 0 hl fun _ hl=>?_;exact Eq.mpr (A98 ..) hl,
  trivial⟩) rfl hg
theorem A97(J:Ag4)(l_0 c_0:Nat)(l_1 c_1:Nat):zqe c k Az9 Aze (f145 J) d145 Tryz.f145 .root (Ao (Ao f 0 (.str l_0 c_0)) 1 (.str l_1 c_1)) h=Aey c k J l_0 c_0 l_1 c_1 h:=by kernel_rfl
theorem A96(J:Ag4)(l_0 c_0:Nat)(l_1 c_1:Nat)(n_5 n_6:Int)(n_7 n_8:Int)(n_9 n_10:Int):zqe c k Az9 Aze (f145 J) d145 Tryz.f145 (.l (.l (.r (.r (.r (.r (.r (.r (.r (.r .root)))))))))) (Ao (Ao (Ao (Ao (Ao (Ao (Ao (Ao f 0 (.str l_0 c_0)) 1 (.str l_1 c_1)) 5 (.int .i64 n_5)) 6 (.int .u8 n_6)) 7 (.int .u8 n_7)) 8 (.int .i64 n_8)) 9 (.int .i64 n_9)) 10 (.int .i64 n_10)) h=Atl c k J l_0 c_0 l_1 c_1 n_5 n_6 n_7 n_8 n_9 n_10 h:=by kernel_rfl
theorem A95(J:Ag4)(l_0 c_0:Nat)(l_1 c_1:Nat)(n_5 n_6:Int)(n_7 n_8:Int)(n_9 n_10:Int):zqe c k Az9 Aze (f145 J) d145 Tryz.f145 (.r (.l (.r (.l (.l (.l (.r (.r (.r (.r (.r (.r (.r (.r .root)))))))))))))) (Ao (Ao (Ao (Ao (Ao (Ao (Ao (Ao f 0 (.str l_0 c_0)) 1 (.str l_1 c_1)) 5 (.int .i64 n_5)) 6 (.int .u8 n_6)) 7 (.int .u8 n_7)) 8 (.int .i64 n_8)) 9 (.int .i64 n_9)) 10 (.int .i64 n_10)) h=Atk c k J l_0 c_0 l_1 c_1 n_5 n_6 n_7 n_8 n_9 n_10 h:=by kernel_rfl
theorem Bcg(hc:Bi c){n:Nat}{a:List AV}(hg:f145 (At2 c k n) 0 (Ab a) h):zqs 145 a h k:=
 zqw hc Az9 Tryz.func145 rfl (by kernel_rfl) (by kernel_rfl) k Aze (fun n=>f145 (At2 c k n)) (fun L _ _ hl=>match L,hl with
  |0,hl=>Dl hl fun _ _ hl=>Dl hl fun _ _ hl=>hl
  |1,hl=>Dl hl fun _ _ hl=>Dl hl fun _ _ hl=>Bz hl fun _ hl=>Bz hl fun _ hl=>Bz hl fun _ hl=>Bz hl fun _ hl=>Bz hl fun _ hl=>Bz hl fun _ hl=>hl
  |2,hl=>Dl hl fun _ _ hl=>Dl hl fun _ _ hl=>Bz hl fun _ hl=>Bz hl fun _ hl=>Bz hl fun _ hl=>Bz hl fun _ hl=>Bz hl fun _ hl=>Bz hl fun _ hl=>hl
  |_+3,hl=>hl) (fun n=>⟨
  fun f h hl=>by
    refine Dk 0 hl fun _ _ hl=>?_;refine Dk 1 hl fun _ _ hl=>?_;exact Eq.mpr (A97 ..) hl,
  fun f h hl=>by
    refine Dk 0 hl fun _ _ hl=>?_;refine Dk 1 hl fun _ _ hl=>?_;refine By 5 hl fun _ hl=>?_;refine By 6 hl fun _ hl=>?_;refine By 7 hl fun _ hl=>?_;refine By 8 hl fun _ hl=>?_;refine By 9 hl fun _ hl=>?_;refine By 10 hl fun _ hl=>?_;exact Eq.mpr (A96 ..) hl,
  fun f h hl=>by
    refine Dk 0 hl fun _ _ hl=>?_;refine Dk 1 hl fun _ _ hl=>?_;refine By 5 hl fun _ hl=>?_;refine By 6 hl fun _ hl=>?_;refine By 7 hl fun _ hl=>?_;refine By 8 hl fun _ hl=>?_;refine By 9 hl fun _ hl=>?_;refine By 10 hl fun _ hl=>?_;exact Eq.mpr (A95 ..) hl,
  trivial⟩) rfl hg
theorem Bl1(hc:Bi c){m:Nat}{a:List AV}(hg:Cv env c A63 A5n d152 (Cr env Tryz.f152.results.toList k) m 0 (Ab a) h):zqs 152 a h k:=Cw mixed Dn hc A63 Tryz.func152 rfl (by kernel_rfl) (by kernel_rfl) (by kernel_rfl) (by simp[A5n]) hg
theorem A92(J:Al4)(l_1 c_1:Nat):zqe c k A60 A5k (f164 J) d164 Tryz.f164 .root (Ao f 1 (.str l_1 c_1)) h=Aev c k J (f 0) l_1 c_1 h:=by kernel_rfl
theorem A91(J:Al4)(l_1 c_1:Nat)(n_20 n_21:Int):zqe c k A60 A5k (f164 J) d164 Tryz.f164 (.l (.r (.l (.r (.r .root))))) (Ao (Ao (Ao f 1 (.str l_1 c_1)) 20 (.int .i64 n_20)) 21 (.int .i64 n_21)) h=Aeu c k J (f 0) l_1 c_1 n_20 n_21 h:=by kernel_rfl
theorem Bce(hc:Bi c){n:Nat}{a:List AV}(hg:f164 (Ahv c k n) 0 (Ab a) h):zqs 164 a h k:=
 zqw hc A60 Tryz.func164 rfl (by kernel_rfl) (by kernel_rfl) k A5k (fun n=>f164 (Ahv c k n)) (fun L _ _ hl=>match L,hl with
  |0,hl=>Dl hl fun _ _ hl=>hl
  |1,hl=>Dl hl fun _ _ hl=>Bz hl fun _ hl=>Bz hl fun _ hl=>hl
  |_+2,hl=>hl) (fun n=>⟨
  fun f h hl=>by
    refine Dk 1 hl fun _ _ hl=>?_;exact Eq.mpr (A92 ..) hl,
  fun f h hl=>by
    refine Dk 1 hl fun _ _ hl=>?_;refine By 20 hl fun _ hl=>?_;refine By 21 hl fun _ hl=>?_;exact Eq.mpr (A91 ..) hl,
  trivial⟩) rfl hg
theorem A90(J:Al3):zqe c k A6z A5j (f165 J) d165 Tryz.f165 .root f h=Aet c k J (f 0) h:=by kernel_rfl
theorem A9z(J:Al3)(n_2 n_3:Int):zqe c k A6z A5j (f165 J) d165 Tryz.f165 (.r (.r (.l (.r (.r (.l (.r (.r (.r .root))))))))) (Ao (Ao f 2 (.int .i64 n_2)) 3 (.int .i64 n_3)) h=Zu c k J n_2 n_3 h:=by kernel_rfl
theorem Bcd(hc:Bi c){n:Nat}{a:List AV}(hg:f165 (Akh c k n) 0 (Ab a) h):zqs 165 a h k:=
 zqw hc A6z Tryz.func165 rfl (by kernel_rfl) (by kernel_rfl) k A5j (fun n=>f165 (Akh c k n)) (fun L _ _ hl=>match L,hl with
  |0,hl=>hl
  |1,hl=>Bz hl fun _ hl=>Bz hl fun _ hl=>hl
  |_+2,hl=>hl) (fun n=>⟨
  fun f h hl=>Eq.mpr (A90 ..) hl,
  fun f h hl=>by
    refine By 2 hl fun _ hl=>?_;refine By 3 hl fun _ hl=>?_;exact Eq.mpr (A9z ..) hl,
  trivial⟩) rfl hg
theorem Blx(hc:Bi c){m:Nat}{a:List AV}(hg:Cv env c A6v A5f d182 (Cr env Tryz.f182.results.toList k) m 0 (Ab a) h):zqs 182 a h k:=Cw mixed Dn hc A6v Tryz.func182 rfl (by kernel_rfl) (by kernel_rfl) (by kernel_rfl) (by simp[A5f]) hg
theorem A9n(J:Ayu)(l_0 c_0:Nat)(n_1:Int):zqe c k Bdq Bcx (f188 J) d188 Tryz.f188 .root (Ao (Ao f 0 (.str l_0 c_0)) 1 (.int .u8 n_1)) h=Aeh c k J l_0 c_0 n_1 h:=by kernel_rfl
theorem Bb5(hc:Bi c){n:Nat}{a:List AV}(hg:f188 (Atw c k n) 0 (Ab a) h):zqs 188 a h k:=
 zqw hc Bdq Tryz.func188 rfl (by kernel_rfl) (by kernel_rfl) k Bcx (fun n=>f188 (Atw c k n)) (fun L _ _ hl=>match L,hl with
  |0,hl=>Dl hl fun _ _ hl=>Bz hl fun _ hl=>hl
  |_+1,hl=>hl) (fun n=>⟨
  fun f h hl=>by
    refine Dk 0 hl fun _ _ hl=>?_;refine By 1 hl fun _ hl=>?_;exact Eq.mpr (A9n ..) hl,
  trivial⟩) rfl hg
theorem Bls(hc:Bi c){m:Nat}{a:List AV}(hg:Cv env c A6r A5b d201 (Cr env Tryz.f201.results.toList k) m 0 (Ab a) h):zqs 201 a h k:=Cw mixed Dn hc A6r Tryz.func201 rfl (by kernel_rfl) (by kernel_rfl) (by kernel_rfl) (by simp[A5b]) hg
theorem Blo(hc:Bi c){m:Nat}{a:List AV}(hg:Cv env c A6m A46 d218 (Cr env Tryz.f218.results.toList k) m 0 (Ab a) h):zqs 218 a h k:=Cw mixed Dn hc A6m Tryz.func218 rfl (by kernel_rfl) (by kernel_rfl) (by kernel_rfl) (by simp[A46]) hg
theorem Bli(hc:Bi c){m:Nat}{a:List AV}(hg:Cv env c A6g A40 d249 (Cr env Tryz.f249.results.toList k) m 0 (Ab a) h):zqs 249 a h k:=Cw mixed Dn hc A6g Tryz.func249 rfl (by kernel_rfl) (by kernel_rfl) (by kernel_rfl) (by simp[A40]) hg
end Go.Den
