/-
 Proof. the pieces are what the program Aja.
-/
import Derived.Test.YtheajahjkmfeaaaGreatDoorRunA1
import Derived.KernelRfl
namespace Go.Den
open Go.Proofs
set_option maxRecDepth 100000
variable{c:CF}{k:KV}{f:FT}{h:H}
theorem w4(hc:Bi c){m:Nat}{a:List AV}(hg:Cv env c q4 u4 d4 (Cr env Tryz.f4.results.toList k) m 0 (Ab a) h):zqs 4 a h k:=Cw mixed Dn hc q4 Tryz.func4 rfl (by kernel_rfl) (by kernel_rfl) (by kernel_rfl) (by simp[u4]) hg
theorem Boe(J:J6)(l_1 c_1:Nat):zqe c k q6 u6 (f6 J) d6 Tryz.f6 .root (Ao f 1 (.str l_1 c_1)) h=Azy c k J (f 0) l_1 c_1 (f 2) h:=by kernel_rfl
theorem w6(hc:Bi c){n:Nat}{a:List AV}(hg:f6 (r6 c k n) 0 (Ab a) h):zqs 6 a h k:=
 zqw hc q6 Tryz.func6 rfl (by kernel_rfl) (by kernel_rfl) k u6 (fun n=>f6 (r6 c k n)) (fun L _ _ hl=>match L,hl with
  |0,hl=>Dl hl fun _ _ hl=>hl
  |_+1,hl=>hl) (fun n=>⟨
  fun f h hl=>by
    refine Dk 1 hl fun _ _ hl=>?_;exact Eq.mpr (Boe ..) hl,
  trivial⟩) rfl hg
theorem Bn9(J:J9)(l_0 c_0:Nat)(n_1 n_2:Int):zqe c k q9 u9 (f9 J) d9 Tryz.f9 .root (Ao (Ao (Ao f 0 (.str l_0 c_0)) 1 (.int .i64 n_1)) 2 (.int .i64 n_2)) h=Azt c k J l_0 c_0 n_1 n_2 h:=by kernel_rfl
theorem Bn8(J:J9)(n_1 n_2 n_9:Int):zqe c k q9 u9 (f9 J) d9 Tryz.f9 (.l (.r (.l (.r (.r (.r .root)))))) (Ao (Ao (Ao f 1 (.int .i64 n_1)) 2 (.int .i64 n_2)) 9 (.int .i64 n_9)) h=Atd c k J n_1 n_2 (f 7) (f 8) n_9 h:=by kernel_rfl
theorem Bn7(J:J9)(n_1 n_2 n_9:Int):zqe c k q9 u9 (f9 J) d9 Tryz.f9 (.r (.r (.l (.l (.r (.l (.r (.r (.r .root))))))))) (Ao (Ao (Ao f 1 (.int .i64 n_1)) 2 (.int .i64 n_2)) 9 (.int .i64 n_9)) h=Atc c k J n_1 n_2 (f 7) (f 8) n_9 h:=by kernel_rfl
theorem w9(hc:Bi c){n:Nat}{a:List AV}(hg:f9 (r9 c k n) 0 (Ab a) h):zqs 9 a h k:=
 zqw hc q9 Tryz.func9 rfl (by kernel_rfl) (by kernel_rfl) k u9 (fun n=>f9 (r9 c k n)) (fun L _ _ hl=>match L,hl with
  |0,hl=>Dl hl fun _ _ hl=>Bz hl fun _ hl=>Bz hl fun _ hl=>hl
  |1,hl=>Bz hl fun _ hl=>Bz hl fun _ hl=>Bz hl fun _ hl=>hl
  |2,hl=>Bz hl fun _ hl=>Bz hl fun _ hl=>Bz hl fun _ hl=>hl
  |_+3,hl=>hl) (fun n=>⟨
  fun f h hl=>by
    refine Dk 0 hl fun _ _ hl=>?_;refine By 1 hl fun _ hl=>?_;refine By 2 hl fun _ hl=>?_;exact Eq.mpr (Bn9 ..) hl,
  fun f h hl=>by
    refine By 1 hl fun _ hl=>?_;refine By 2 hl fun _ hl=>?_;refine By 9 hl fun _ hl=>?_;exact Eq.mpr (Bn8 ..) hl,
  fun f h hl=>by
    refine By 1 hl fun _ hl=>?_;refine By 2 hl fun _ hl=>?_;refine By 9 hl fun _ hl=>?_;exact Eq.mpr (Bn7 ..) hl,
  trivial⟩) rfl hg
theorem Bi2(J:J13):zqe c k q13 u13 (f13 J) d13 Tryz.f13 .root f h=Ao3 c k J (f 0) h:=by kernel_rfl
theorem w13(hc:Bi c){n:Nat}{a:List AV}(hg:f13 (r13 c k n) 0 (Ab a) h):zqs 13 a h k:=
 zqw hc q13 Tryz.func13 rfl (by kernel_rfl) (by kernel_rfl) k u13 (fun n=>f13 (r13 c k n)) (fun L _ _ hl=>match L,hl with
  |0,hl=>hl
  |_+1,hl=>hl) (fun n=>⟨
  fun f h hl=>Eq.mpr (Bi2 ..) hl,
  trivial⟩) rfl hg
theorem Bi1(J:J14)(l_1 c_1:Nat)(l_2 c_2:Nat):zqe c k q14 u14 (f14 J) d14 Tryz.f14 .root (Ao (Ao f 1 (.str l_1 c_1)) 2 (.str l_2 c_2)) h=Ao2 c k J (f 0) l_1 c_1 l_2 c_2 h:=by kernel_rfl
theorem w14(hc:Bi c){n:Nat}{a:List AV}(hg:f14 (r14 c k n) 0 (Ab a) h):zqs 14 a h k:=
 zqw hc q14 Tryz.func14 rfl (by kernel_rfl) (by kernel_rfl) k u14 (fun n=>f14 (r14 c k n)) (fun L _ _ hl=>match L,hl with
  |0,hl=>Dl hl fun _ _ hl=>Dl hl fun _ _ hl=>hl
  |_+1,hl=>hl) (fun n=>⟨
  fun f h hl=>by
    refine Dk 1 hl fun _ _ hl=>?_;refine Dk 2 hl fun _ _ hl=>?_;exact Eq.mpr (Bi1 ..) hl,
  trivial⟩) rfl hg
theorem Biy(J:J17)(l_0 c_0:Nat)(l_1 c_1:Nat):zqe c k q17 u17 (f17 J) d17 Tryz.f17 .root (Ao (Ao f 0 (.str l_0 c_0)) 1 (.str l_1 c_1)) h=Aoz c k J l_0 c_0 l_1 c_1 h:=by kernel_rfl
theorem Bix(J:J17)(l_1 c_1:Nat)(n_15 n_16:Int):zqe c k q17 u17 (f17 J) d17 Tryz.f17 (.l (.r (.l (.r (.r .root))))) (Ao (Ao (Ao f 1 (.str l_1 c_1)) 15 (.int .i64 n_15)) 16 (.int .i64 n_16)) h=Aoy c k J l_1 c_1 (f 4) n_15 n_16 h:=by kernel_rfl
theorem w17(hc:Bi c){n:Nat}{a:List AV}(hg:f17 (r17 c k n) 0 (Ab a) h):zqs 17 a h k:=
 zqw hc q17 Tryz.func17 rfl (by kernel_rfl) (by kernel_rfl) k u17 (fun n=>f17 (r17 c k n)) (fun L _ _ hl=>match L,hl with
  |0,hl=>Dl hl fun _ _ hl=>Dl hl fun _ _ hl=>hl
  |1,hl=>Dl hl fun _ _ hl=>Bz hl fun _ hl=>Bz hl fun _ hl=>hl
  |_+2,hl=>hl) (fun n=>⟨
  fun f h hl=>by
    refine Dk 0 hl fun _ _ hl=>?_;refine Dk 1 hl fun _ _ hl=>?_;exact Eq.mpr (Biy ..) hl,
  fun f h hl=>by
    refine Dk 1 hl fun _ _ hl=>?_;refine By 15 hl fun _ hl=>?_;refine By 16 hl fun _ hl=>?_;exact Eq.mpr (Bix ..) hl,
  trivial⟩) rfl hg
theorem Biw(J:J18):zqe c k q18 u18 (f18 J) d18 Tryz.f18 .root f h=Aox c k J (f 0) (f 1) (f 2) (f 3) h:=by kernel_rfl
theorem Biv(J:J18)(n_43 n_44:Int):zqe c k q18 u18 (f18 J) d18 Tryz.f18 (.l (.r (.l (.r (.r (.r .root)))))) (Ao (Ao f 43 (.int .i64 n_43)) 44 (.int .i64 n_44)) h=Ahr c k J (f 8) (f 9) (f 42) n_43 n_44 h:=by kernel_rfl
theorem w18(hc:Bi c){n:Nat}{a:List AV}(hg:f18 (r18 c k n) 0 (Ab a) h):zqs 18 a h k:=
 zqw hc q18 Tryz.func18 rfl (by kernel_rfl) (by kernel_rfl) k u18 (fun n=>f18 (r18 c k n)) (fun L _ _ hl=>match L,hl with
  |0,hl=>hl
  |1,hl=>Bz hl fun _ hl=>Bz hl fun _ hl=>hl
  |_+2,hl=>hl) (fun n=>⟨
  fun f h hl=>Eq.mpr (Biw ..) hl,
  fun f h hl=>by
    refine By 43 hl fun _ hl=>?_;refine By 44 hl fun _ hl=>?_;exact Eq.mpr (Biv ..) hl,
  trivial⟩) rfl hg
theorem Bir(J:J20)(l_0 c_0:Nat):zqe c k q20 u20 (f20 J) d20 Tryz.f20 .root (Ao f 0 (.str l_0 c_0)) h=Aov c k J l_0 c_0 h:=by kernel_rfl
theorem Biq(J:J20)(l_0 c_0:Nat)(n_4:Int):zqe c k q20 u20 (f20 J) d20 Tryz.f20 (.l (.r (.l (.r (.r .root))))) (Ao (Ao f 0 (.str l_0 c_0)) 4 (.int .i64 n_4)) h=Aou c k J l_0 c_0 (f 3) n_4 h:=by kernel_rfl
theorem Bip(J:J20)(l_0 c_0:Nat)(n_4:Int):zqe c k q20 u20 (f20 J) d20 Tryz.f20 (.r (.l (.r (.l (.l (.r (.l (.r (.r .root))))))))) (Ao (Ao f 0 (.str l_0 c_0)) 4 (.int .i64 n_4)) h=Aot c k J l_0 c_0 (f 3) n_4 h:=by kernel_rfl
theorem w20(hc:Bi c){n:Nat}{a:List AV}(hg:f20 (r20 c k n) 0 (Ab a) h):zqs 20 a h k:=
 zqw hc q20 Tryz.func20 rfl (by kernel_rfl) (by kernel_rfl) k u20 (fun n=>f20 (r20 c k n)) (fun L _ _ hl=>match L,hl with
  |0,hl=>Dl hl fun _ _ hl=>hl
  |1,hl=>Dl hl fun _ _ hl=>Bz hl fun _ hl=>hl
  |2,hl=>Dl hl fun _ _ hl=>Bz hl fun _ hl=>hl
  |_+3,hl=>hl) (fun n=>⟨
  fun f h hl=>by
    refine Dk 0 hl fun _ _ hl=>?_;exact Eq.mpr (Bir ..) hl,
  fun f h hl=>by
    refine Dk 0 hl fun _ _ hl=>?_;refine By 4 hl fun _ hl=>?_;exact Eq.mpr (Biq ..) hl,
  fun f h hl=>by
    refine Dk 0 hl fun _ _ hl=>?_;refine By 4 hl fun _ hl=>?_;exact Eq.mpr (Bip ..) hl,
  trivial⟩) rfl hg
theorem Bik(J:J27)(l_0 c_0:Nat):zqe c k q27 u27 (f27 J) d27 Tryz.f27 .root (Ao f 0 (.str l_0 c_0)) h=Aoo c k J l_0 c_0 h:=by kernel_rfl
theorem w27(hc:Bi c){n:Nat}{a:List AV}(hg:f27 (r27 c k n) 0 (Ab a) h):zqs 27 a h k:=
 zqw hc q27 Tryz.func27 rfl (by kernel_rfl) (by kernel_rfl) k u27 (fun n=>f27 (r27 c k n)) (fun L _ _ hl=>match L,hl with
  |0,hl=>Dl hl fun _ _ hl=>hl
  |_+1,hl=>hl) (fun n=>⟨
  fun f h hl=>by
    refine Dk 0 hl fun _ _ hl=>?_;exact Eq.mpr (Bik ..) hl,
  trivial⟩) rfl hg
theorem w33(hc:Bi c){m:Nat}{a:List AV}(hg:Cv env c q33 u33 d33 (Cr env Tryz.f33.results.toList k) m 0 (Ab a) h):zqs 33 a h k:=Cw mixed Dn hc q33 Tryz.func33 rfl (by kernel_rfl) (by kernel_rfl) (by kernel_rfl) (by simp[u33]) hg
theorem Bh1(J:J40):zqe c k q40 u40 (f40 J) d40 Tryz.f40 .root f h=An5 c k J (f 0) h:=by kernel_rfl
theorem w40(hc:Bi c){n:Nat}{a:List AV}(hg:f40 (r40 c k n) 0 (Ab a) h):zqs 40 a h k:=
 zqw hc q40 Tryz.func40 rfl (by kernel_rfl) (by kernel_rfl) k u40 (fun n=>f40 (r40 c k n)) (fun L _ _ hl=>match L,hl with
  |0,hl=>hl
  |_+1,hl=>hl) (fun n=>⟨
  fun f h hl=>Eq.mpr (Bh1 ..) hl,
  trivial⟩) rfl hg
theorem Bh0(J:J42):zqe c k q42 u42 (f42 J) d42 Tryz.f42 .root f h=An4 c k J (f 0) h:=by kernel_rfl
theorem Bhz(J:J42):zqe c k q42 u42 (f42 J) d42 Tryz.f42 (.l (.l (.r .root))) f h=An3 c k J (f 0) h:=by kernel_rfl
theorem w42(hc:Bi c){n:Nat}{a:List AV}(hg:f42 (r42 c k n) 0 (Ab a) h):zqs 42 a h k:=
 zqw hc q42 Tryz.func42 rfl (by kernel_rfl) (by kernel_rfl) k u42 (fun n=>f42 (r42 c k n)) (fun L _ _ hl=>match L,hl with
  |0,hl=>hl
  |1,hl=>hl
  |_+2,hl=>hl) (fun n=>⟨
  fun f h hl=>Eq.mpr (Bh0 ..) hl,
  fun f h hl=>Eq.mpr (Bhz ..) hl,
  trivial⟩) rfl hg
theorem Bhg(J:J55)(l_1 c_1:Nat):zqe c k q55 u55 (f55 J) d55 Tryz.f55 .root (Ao f 1 (.str l_1 c_1)) h=Anl c k J (f 0) l_1 c_1 h:=by kernel_rfl
theorem Bhf(J:J55)(l_1 c_1:Nat)(n_4:Int):zqe c k q55 u55 (f55 J) d55 Tryz.f55 (.l (.r (.l .root))) (Ao (Ao f 1 (.str l_1 c_1)) 4 (.int .i64 n_4)) h=Ank c k J (f 0) l_1 c_1 n_4 h:=by kernel_rfl
theorem w55(hc:Bi c){n:Nat}{a:List AV}(hg:f55 (r55 c k n) 0 (Ab a) h):zqs 55 a h k:=
 zqw hc q55 Tryz.func55 rfl (by kernel_rfl) (by kernel_rfl) k u55 (fun n=>f55 (r55 c k n)) (fun L _ _ hl=>match L,hl with
  |0,hl=>Dl hl fun _ _ hl=>hl
  |1,hl=>Dl hl fun _ _ hl=>Bz hl fun _ hl=>hl
  |_+2,hl=>hl) (fun n=>⟨
  fun f h hl=>by
    refine Dk 1 hl fun _ _ hl=>?_;exact Eq.mpr (Bhg ..) hl,
  fun f h hl=>by
    refine Dk 1 hl fun _ _ hl=>?_;refine By 4 hl fun _ hl=>?_;exact Eq.mpr (Bhf ..) hl,
  trivial⟩) rfl hg
theorem Bhd(J:J57):zqe c k q57 u57 (f57 J) d57 Tryz.f57 .root f h=Ani c k J (f 0) (f 1) h:=by kernel_rfl
theorem Bhc(J:J57)(n_5:Int):zqe c k q57 u57 (f57 J) d57 Tryz.f57 (.l (.r (.r .root))) (Ao f 5 (.int .i64 n_5)) h=Ahn c k J (f 0) (f 1) (f 4) n_5 h:=by kernel_rfl
theorem Bhb(J:J57)(n_5 n_8:Int):zqe c k q57 u57 (f57 J) d57 Tryz.f57 (.l (.l (.r (.r (.r (.r (.l (.r (.l (.l (.r (.r .root)))))))))))) (Ao (Ao f 5 (.int .i64 n_5)) 8 (.int .i64 n_8)) h=Ahm c k J (f 0) (f 1) (f 4) n_5 (f 7) n_8 h:=by kernel_rfl
theorem Bha(J:J57)(n_5 n_8:Int):zqe c k q57 u57 (f57 J) d57 Tryz.f57 (.r (.r (.l (.l (.l (.r (.r (.r (.r (.l (.r (.l (.l (.r (.r .root))))))))))))))) (Ao (Ao f 5 (.int .i64 n_5)) 8 (.int .i64 n_8)) h=Anh c k J (f 0) (f 1) (f 4) n_5 (f 7) n_8 h:=by kernel_rfl
theorem w57(hc:Bi c){n:Nat}{a:List AV}(hg:f57 (r57 c k n) 0 (Ab a) h):zqs 57 a h k:=
 zqw hc q57 Tryz.func57 rfl (by kernel_rfl) (by kernel_rfl) k u57 (fun n=>f57 (r57 c k n)) (fun L _ _ hl=>match L,hl with
  |0,hl=>hl
  |1,hl=>Bz hl fun _ hl=>hl
  |2,hl=>Bz hl fun _ hl=>Bz hl fun _ hl=>hl
  |3,hl=>Bz hl fun _ hl=>Bz hl fun _ hl=>hl
  |_+4,hl=>hl) (fun n=>⟨
  fun f h hl=>Eq.mpr (Bhd ..) hl,
  fun f h hl=>by
    refine By 5 hl fun _ hl=>?_;exact Eq.mpr (Bhc ..) hl,
  fun f h hl=>by
    refine By 5 hl fun _ hl=>?_;refine By 8 hl fun _ hl=>?_;exact Eq.mpr (Bhb ..) hl,
  fun f h hl=>by
    refine By 5 hl fun _ hl=>?_;refine By 8 hl fun _ hl=>?_;exact Eq.mpr (Bha ..) hl,
  trivial⟩) rfl hg
theorem Bg6(J:J64):zqe c k q64 u64 (f64 J) d64 Tryz.f64 .root f h=Anb c k J (f 0) (f 1) h:=by kernel_rfl
theorem Bg5(J:J64)(n_3:Int):zqe c k q64 u64 (f64 J) d64 Tryz.f64 (.l (.r .root)) (Ao f 3 (.int .i64 n_3)) h=Ahl c k J (f 0) (f 1) n_3 h:=by kernel_rfl
theorem w64(hc:Bi c){n:Nat}{a:List AV}(hg:f64 (r64 c k n) 0 (Ab a) h):zqs 64 a h k:=
 zqw hc q64 Tryz.func64 rfl (by kernel_rfl) (by kernel_rfl) k u64 (fun n=>f64 (r64 c k n)) (fun L _ _ hl=>match L,hl with
  |0,hl=>hl
  |1,hl=>Bz hl fun _ hl=>hl
  |_+2,hl=>hl) (fun n=>⟨
  fun f h hl=>Eq.mpr (Bg6 ..) hl,
  fun f h hl=>by
    refine By 3 hl fun _ hl=>?_;exact Eq.mpr (Bg5 ..) hl,
  trivial⟩) rfl hg
theorem Bgz(J:J68)(n_1:Int):zqe c k q68 u68 (f68 J) d68 Tryz.f68 .root (Ao f 1 (.int .u8 n_1)) h=Am7 c k J (f 0) n_1 h:=by kernel_rfl
theorem w68(hc:Bi c){n:Nat}{a:List AV}(hg:f68 (r68 c k n) 0 (Ab a) h):zqs 68 a h k:=
 zqw hc q68 Tryz.func68 rfl (by kernel_rfl) (by kernel_rfl) k u68 (fun n=>f68 (r68 c k n)) (fun L _ _ hl=>match L,hl with
  |0,hl=>Bz hl fun _ hl=>hl
  |_+1,hl=>hl) (fun n=>⟨
  fun f h hl=>by
    refine By 1 hl fun _ hl=>?_;exact Eq.mpr (Bgz ..) hl,
  trivial⟩) rfl hg
theorem Bgy(J:J69):zqe c k q69 u69 (f69 J) d69 Tryz.f69 .root f h=Am6 c k J (f 0) h:=by kernel_rfl
theorem w69(hc:Bi c){n:Nat}{a:List AV}(hg:f69 (r69 c k n) 0 (Ab a) h):zqs 69 a h k:=
 zqw hc q69 Tryz.func69 rfl (by kernel_rfl) (by kernel_rfl) k u69 (fun n=>f69 (r69 c k n)) (fun L _ _ hl=>match L,hl with
  |0,hl=>hl
  |_+1,hl=>hl) (fun n=>⟨
  fun f h hl=>Eq.mpr (Bgy ..) hl,
  trivial⟩) rfl hg
theorem Bgv(J:J72)(l_1 c_1:Nat):zqe c k q72 u72 (f72 J) d72 Tryz.f72 .root (Ao f 1 (.str l_1 c_1)) h=Am3 c k J (f 0) l_1 c_1 h:=by kernel_rfl
theorem w72(hc:Bi c){n:Nat}{a:List AV}(hg:f72 (r72 c k n) 0 (Ab a) h):zqs 72 a h k:=
 zqw hc q72 Tryz.func72 rfl (by kernel_rfl) (by kernel_rfl) k u72 (fun n=>f72 (r72 c k n)) (fun L _ _ hl=>match L,hl with
  |0,hl=>Dl hl fun _ _ hl=>hl
  |_+1,hl=>hl) (fun n=>⟨
  fun f h hl=>by
    refine Dk 1 hl fun _ _ hl=>?_;exact Eq.mpr (Bgv ..) hl,
  trivial⟩) rfl hg
theorem Bgr(J:J76):zqe c k q76 u76 (f76 J) d76 Tryz.f76 .root f h=Amz c k J (f 0) (f 1) h:=by kernel_rfl
theorem w76(hc:Bi c){n:Nat}{a:List AV}(hg:f76 (r76 c k n) 0 (Ab a) h):zqs 76 a h k:=
 zqw hc q76 Tryz.func76 rfl (by kernel_rfl) (by kernel_rfl) k u76 (fun n=>f76 (r76 c k n)) (fun L _ _ hl=>match L,hl with
  |0,hl=>hl
  |_+1,hl=>hl) (fun n=>⟨
  fun f h hl=>Eq.mpr (Bgr ..) hl,
  trivial⟩) rfl hg
theorem Bgn(J:J82):zqe c k q82 u82 (f82 J) d82 Tryz.f82 .root f h=Amv c k J (f 0) (f 1) h:=by kernel_rfl
theorem Bgm(J:J82)(n_34 n_35:Int):zqe c k q82 u82 (f82 J) d82 Tryz.f82 (.l (.r (.l (.r (.r (.r .root)))))) (Ao (Ao f 34 (.int .i64 n_34)) 35 (.int .i64 n_35)) h=Amu c k J (f 0) (f 3) (f 33) n_34 n_35 h:=by kernel_rfl
theorem w82(hc:Bi c){n:Nat}{a:List AV}(hg:f82 (r82 c k n) 0 (Ab a) h):zqs 82 a h k:=
 zqw hc q82 Tryz.func82 rfl (by kernel_rfl) (by kernel_rfl) k u82 (fun n=>f82 (r82 c k n)) (fun L _ _ hl=>match L,hl with
  |0,hl=>hl
  |1,hl=>Bz hl fun _ hl=>Bz hl fun _ hl=>hl
  |_+2,hl=>hl) (fun n=>⟨
  fun f h hl=>Eq.mpr (Bgn ..) hl,
  fun f h hl=>by
    refine By 34 hl fun _ hl=>?_;refine By 35 hl fun _ hl=>?_;exact Eq.mpr (Bgm ..) hl,
  trivial⟩) rfl hg
theorem w87(hc:Bi c){m:Nat}{a:List AV}(hg:Cv env c q87 u87 d87 (Cr env Tryz.f87.results.toList k) m 0 (Ab a) h):zqs 87 a h k:=Cw mixed Dn hc q87 Tryz.func87 rfl (by kernel_rfl) (by kernel_rfl) (by kernel_rfl) (by simp[u87]) hg
theorem Bgb(J:J95)(l_0 c_0:Nat)(n_1:Int):zqe c k q95 u95 (f95 J) d95 Tryz.f95 .root (Ao (Ao f 0 (.str l_0 c_0)) 1 (.int .i64 n_1)) h=Aml c k J l_0 c_0 n_1 h:=by kernel_rfl
theorem Bga(J:J95)(l_0 c_0:Nat)(n_1:Int):zqe c k q95 u95 (f95 J) d95 Tryz.f95 (.r (.r .root)) (Ao (Ao f 0 (.str l_0 c_0)) 1 (.int .i64 n_1)) h=Amk c k J l_0 c_0 n_1 (f 4) h:=by kernel_rfl
theorem w95(hc:Bi c){n:Nat}{a:List AV}(hg:f95 (r95 c k n) 0 (Ab a) h):zqs 95 a h k:=
 zqw hc q95 Tryz.func95 rfl (by kernel_rfl) (by kernel_rfl) k u95 (fun n=>f95 (r95 c k n)) (fun L _ _ hl=>match L,hl with
  |0,hl=>Dl hl fun _ _ hl=>Bz hl fun _ hl=>hl
  |1,hl=>Dl hl fun _ _ hl=>Bz hl fun _ hl=>hl
  |_+2,hl=>hl) (fun n=>⟨
  fun f h hl=>by
    refine Dk 0 hl fun _ _ hl=>?_;refine By 1 hl fun _ hl=>?_;exact Eq.mpr (Bgb ..) hl,
  fun f h hl=>by
    refine Dk 0 hl fun _ _ hl=>?_;refine By 1 hl fun _ hl=>?_;exact Eq.mpr (Bga ..) hl,
  trivial⟩) rfl hg
theorem Baj(J:Ay4):zqe c k Bd0 Bc7 (f102 J) d102 Tryz.f102 .root f h=Ae9 c k J (f 0) h:=by kernel_rfl
theorem Bco(hc:Bi c){n:Nat}{a:List AV}(hg:f102 (At7 c k n) 0 (Ab a) h):zqs 102 a h k:=
 zqw hc Bd0 Tryz.func102 rfl (by kernel_rfl) (by kernel_rfl) k Bc7 (fun n=>f102 (At7 c k n)) (fun L _ _ hl=>match L,hl with
  |0,hl=>hl
  |_+1,hl=>hl) (fun n=>⟨
  fun f h hl=>Eq.mpr (Baj ..) hl,
  trivial⟩) rfl hg
theorem Bmc(hc:Bi c){m:Nat}{a:List AV}(hg:Cv env c A7g A50 d103 (Cr env Tryz.f103.results.toList k) m 0 (Ab a) h):zqs 103 a h k:=Cw mixed Dn hc A7g Tryz.func103 rfl (by kernel_rfl) (by kernel_rfl) (by kernel_rfl) (by simp[A50]) hg
theorem Bmb(hc:Bi c){m:Nat}{a:List AV}(hg:Cv env c A7f A5z d106 (Cr env Tryz.f106.results.toList k) m 0 (Ab a) h):zqs 106 a h k:=Cw mixed Dn hc A7f Tryz.func106 rfl (by kernel_rfl) (by kernel_rfl) (by kernel_rfl) (by simp[A5z]) hg
theorem Bai(J:Ay3)(n_0:Int):zqe c k Bdz Bc6 (f118 J) d118 Tryz.f118 .root (Ao f 0 (.int .u8 n_0)) h=Ae8 c k J n_0 h:=by kernel_rfl
theorem Bcn(hc:Bi c){n:Nat}{a:List AV}(hg:f118 (At6 c k n) 0 (Ab a) h):zqs 118 a h k:=
 zqw hc Bdz Tryz.func118 rfl (by kernel_rfl) (by kernel_rfl) k Bc6 (fun n=>f118 (At6 c k n)) (fun L _ _ hl=>match L,hl with
  |0,hl=>Bz hl fun _ hl=>hl
  |_+1,hl=>hl) (fun n=>⟨
  fun f h hl=>by
    refine By 0 hl fun _ hl=>?_;exact Eq.mpr (Bai ..) hl,
  trivial⟩) rfl hg
theorem Bae(J:Al7):zqe c k A7d A5x (f120 J) d120 Tryz.f120 .root f h=Ae4 c k J (f 0) h:=by kernel_rfl
theorem Bad(J:Al7)(n_3:Int):zqe c k A7d A5x (f120 J) d120 Tryz.f120 (.l (.r (.l (.l (.r (.l (.r (.r .root)))))))) (Ao f 3 (.int .i64 n_3)) h=Ae3 c k J (f 0) n_3 h:=by kernel_rfl
theorem Bcl(hc:Bi c){n:Nat}{a:List AV}(hg:f120 (Ahw c k n) 0 (Ab a) h):zqs 120 a h k:=
 zqw hc A7d Tryz.func120 rfl (by kernel_rfl) (by kernel_rfl) k A5x (fun n=>f120 (Ahw c k n)) (fun L _ _ hl=>match L,hl with
  |0,hl=>hl
  |1,hl=>Bz hl fun _ hl=>hl
  |_+2,hl=>hl) (fun n=>⟨
  fun f h hl=>Eq.mpr (Bae ..) hl,
  fun f h hl=>by
    refine By 3 hl fun _ hl=>?_;exact Eq.mpr (Bad ..) hl,
  trivial⟩) rfl hg
theorem Bl7(hc:Bi c){m:Nat}{a:List AV}(hg:Cv env c A69 A5t d136 (Cr env Tryz.f136.results.toList k) m 0 (Ab a) h):zqs 136 a h k:=Cw mixed Dn hc A69 Tryz.func136 rfl (by kernel_rfl) (by kernel_rfl) (by kernel_rfl) (by simp[A5t]) hg
theorem Bl3(hc:Bi c){m:Nat}{a:List AV}(hg:Cv env c A65 A5p d147 (Cr env Tryz.f147.results.toList k) m 0 (Ab a) h):zqs 147 a h k:=Cw mixed Dn hc A65 Tryz.func147 rfl (by kernel_rfl) (by kernel_rfl) (by kernel_rfl) (by simp[A5p]) hg
theorem Blz(hc:Bi c){m:Nat}{a:List AV}(hg:Cv env c A6x A5h d171 (Cr env Tryz.f171.results.toList k) m 0 (Ab a) h):zqs 171 a h k:=Cw mixed Dn hc A6x Tryz.func171 rfl (by kernel_rfl) (by kernel_rfl) (by kernel_rfl) (by simp[A5h]) hg
theorem A9o(J:Ayv)(l_0 c_0:Nat)(n_1:Int):zqe c k Bdr Bcy (f187 J) d187 Tryz.f187 .root (Ao (Ao f 0 (.str l_0 c_0)) 1 (.int .u8 n_1)) h=Aei c k J l_0 c_0 n_1 h:=by kernel_rfl
theorem Bb6(hc:Bi c){n:Nat}{a:List AV}(hg:f187 (Atx c k n) 0 (Ab a) h):zqs 187 a h k:=
 zqw hc Bdr Tryz.func187 rfl (by kernel_rfl) (by kernel_rfl) k Bcy (fun n=>f187 (Atx c k n)) (fun L _ _ hl=>match L,hl with
  |0,hl=>Dl hl fun _ _ hl=>Bz hl fun _ hl=>hl
  |_+1,hl=>hl) (fun n=>⟨
  fun f h hl=>by
    refine Dk 0 hl fun _ _ hl=>?_;refine By 1 hl fun _ hl=>?_;exact Eq.mpr (A9o ..) hl,
  trivial⟩) rfl hg
theorem Blv(hc:Bi c){m:Nat}{a:List AV}(hg:Cv env c A6t A5d d192 (Cr env Tryz.f192.results.toList k) m 0 (Ab a) h):zqs 192 a h k:=Cw mixed Dn hc A6t Tryz.func192 rfl (by kernel_rfl) (by kernel_rfl) (by kernel_rfl) (by simp[A5d]) hg
theorem A9l(J:Ays)(n_1 n_2:Int):zqe c k Bdn Bcv (f206 J) d206 Tryz.f206 .root (Ao (Ao f 1 (.int .i64 n_1)) 2 (.int .i64 n_2)) h=Aef c k J (f 0) n_1 n_2 h:=by kernel_rfl
theorem Bb3(hc:Bi c){n:Nat}{a:List AV}(hg:f206 (Att c k n) 0 (Ab a) h):zqs 206 a h k:=
 zqw hc Bdn Tryz.func206 rfl (by kernel_rfl) (by kernel_rfl) k Bcv (fun n=>f206 (Att c k n)) (fun L _ _ hl=>match L,hl with
  |0,hl=>Bz hl fun _ hl=>Bz hl fun _ hl=>hl
  |_+1,hl=>hl) (fun n=>⟨
  fun f h hl=>by
    refine By 1 hl fun _ hl=>?_;refine By 2 hl fun _ hl=>?_;exact Eq.mpr (A9l ..) hl,
  trivial⟩) rfl hg
theorem A9k(J:Al1):zqe c k A6p A49 (f208 J) d208 Tryz.f208 .root f h=Aee c k J (f 0) h:=by kernel_rfl
theorem A9j(J:Al1)(n_7 n_8:Int):zqe c k A6p A49 (f208 J) d208 Tryz.f208 (.l (.r (.l (.r .root)))) (Ao (Ao f 7 (.int .i64 n_7)) 8 (.int .i64 n_8)) h=Aed c k J (f 0) (f 6) n_7 n_8 h:=by kernel_rfl
theorem Bb2(hc:Bi c){n:Nat}{a:List AV}(hg:f208 (Aht c k n) 0 (Ab a) h):zqs 208 a h k:=
 zqw hc A6p Tryz.func208 rfl (by kernel_rfl) (by kernel_rfl) k A49 (fun n=>f208 (Aht c k n)) (fun L _ _ hl=>match L,hl with
  |0,hl=>hl
  |1,hl=>Bz hl fun _ hl=>Bz hl fun _ hl=>hl
  |_+2,hl=>hl) (fun n=>⟨
  fun f h hl=>Eq.mpr (A9k ..) hl,
  fun f h hl=>by
    refine By 7 hl fun _ hl=>?_;refine By 8 hl fun _ hl=>?_;exact Eq.mpr (A9j ..) hl,
  trivial⟩) rfl hg
theorem Blq(hc:Bi c){m:Nat}{a:List AV}(hg:Cv env c A6o A48 d215 (Cr env Tryz.f215.results.toList k) m 0 (Ab a) h):zqs 215 a h k:=Cw mixed Dn hc A6o Tryz.func215 rfl (by kernel_rfl) (by kernel_rfl) (by kernel_rfl) (by simp[A48]) hg
theorem Blk(hc:Bi c){m:Nat}{a:List AV}(hg:Cv env c A6i A42 d235 (Cr env Tryz.f235.results.toList k) m 0 (Ab a) h):zqs 235 a h k:=Cw mixed Dn hc A6i Tryz.func235 rfl (by kernel_rfl) (by kernel_rfl) (by kernel_rfl) (by simp[A42]) hg
theorem Blg(hc:Bi c){m:Nat}{a:List AV}(hg:Cv env c A6e A4y d252 (Cr env Tryz.f252.results.toList k) m 0 (Ab a) h):zqs 252 a h k:=Cw mixed Dn hc A6e Tryz.func252 rfl (by kernel_rfl) (by kernel_rfl) (by kernel_rfl) (by simp[A4y]) hg
end Go.Den
