/-
 Proof.
-/
import Derived.Test.YtcnmehbkpaoolaaGreatDoorRunA1
import Derived.KernelRfl
namespace Go.Den
open Go.Proofs
set_option maxRecDepth 100000
variable{c:CF}{k:KV}{f:FT}{h:H}
theorem w15(hc:Ch c){m:Nat}{a:List AV}(hg:Ig env c q15 u15 d15 (Gn env Tryz.f15.results.toList k) m 0 (Ac a) h):zqs 15 a h k:=Jb mixed Jm hc q15 Tryz.func15 rfl (by kernel_rfl) (by kernel_rfl) (by kernel_rfl) (by simp[u15]) hg
theorem Bfu(J:J16):zqe c k q16 u16 (f16 J) d16 Tryz.f16 .root f h=Ant c k J (f 0) h:=by kernel_rfl
theorem Bft(J:J16)(n_5:Int):zqe c k q16 u16 (f16 J) d16 Tryz.f16 (.l (.r (.l (.r (.r .root))))) (Ag f 5 (.int .i64 n_5)) h=Ans c k J (f 0) (f 4) n_5 h:=by kernel_rfl
theorem Bfs(J:J16)(n_5:Int):zqe c k q16 u16 (f16 J) d16 Tryz.f16 (.r (.r (.r (.r (.l (.r (.l (.l (.r (.l (.r (.r .root)))))))))))) (Ag f 5 (.int .i64 n_5)) h=Anr c k J (f 0) (f 4) n_5 h:=by kernel_rfl
theorem w16(hc:Ch c){n:Nat}{a:List AV}(hg:f16 (r16 c k n) 0 (Ac a) h):zqs 16 a h k:=
 zqw hc q16 Tryz.func16 rfl (by kernel_rfl) (by kernel_rfl) k u16 (fun n=>f16 (r16 c k n)) (fun L _ _ hl=>match L,hl with
  |0,hl=>hl
  |1,hl=>Bg hl fun _ hl=>hl
  |2,hl=>Bg hl fun _ hl=>hl
  |_+3,hl=>hl) (fun n=>⟨
  fun f h hl=>Eq.mpr (Bfu ..) hl,
  fun f h hl=>by
    refine Bf 5 hl fun _ hl=>?_;exact Eq.mpr (Bft ..) hl,
  fun f h hl=>by
    refine Bf 5 hl fun _ hl=>?_;exact Eq.mpr (Bfs ..) hl,
  trivial⟩) rfl hg
theorem w20(hc:Ch c){m:Nat}{a:List AV}(hg:Ig env c q20 u20 d20 (Gn env Tryz.f20.results.toList k) m 0 (Ac a) h):zqs 20 a h k:=Jb mixed Jm hc q20 Tryz.func20 rfl (by kernel_rfl) (by kernel_rfl) (by kernel_rfl) (by simp[u20]) hg
theorem Bfi(J:J43)(l_1 c_1:Nat):zqe c k q43 u43 (f43 J) d43 Tryz.f43 .root (Ag f 1 (.str l_1 c_1)) h=Ahm c k J (f 0) l_1 c_1 h:=by kernel_rfl
theorem w43(hc:Ch c){n:Nat}{a:List AV}(hg:f43 (r43 c k n) 0 (Ac a) h):zqs 43 a h k:=
 zqw hc q43 Tryz.func43 rfl (by kernel_rfl) (by kernel_rfl) k u43 (fun n=>f43 (r43 c k n)) (fun L _ _ hl=>match L,hl with
  |0,hl=>Bt hl fun _ _ hl=>hl
  |_+1,hl=>hl) (fun n=>⟨
  fun f h hl=>by
    refine Bs 1 hl fun _ _ hl=>?_;exact Eq.mpr (Bfi ..) hl,
  trivial⟩) rfl hg
theorem Bfb(J:J59)(l_0 c_0:Nat):zqe c k q59 u59 (f59 J) d59 Tryz.f59 .root (Ag f 0 (.str l_0 c_0)) h=Ane c k J l_0 c_0 h:=by kernel_rfl
theorem Bfa(J:J59)(l_0 c_0:Nat)(l_5 c_5:Nat):zqe c k q59 u59 (f59 J) d59 Tryz.f59 (.lab (.r .root) 1) (Ag (Ag f 0 (.str l_0 c_0)) 5 (.str l_5 c_5)) h=Ahk c k J l_0 c_0 (f 4) l_5 c_5 h:=by kernel_rfl
theorem Be9(J:J59):zqe c k q59 u59 (f59 J) d59 Tryz.f59 (.lab (.r .root) 0) f h=Ahj c k J  h:=by kernel_rfl
theorem Be8(J:J59)(l_0 c_0:Nat)(l_5 c_5:Nat)(n_8 n_9:Int):zqe c k q59 u59 (f59 J) d59 Tryz.f59 (.r (.l (.r (.r (.r (.r (.r (.r (.r (.l (.r .root))))))))))) (Ag (Ag (Ag (Ag f 0 (.str l_0 c_0)) 5 (.str l_5 c_5)) 8 (.int .u8 n_8)) 9 (.int .i64 n_9)) h=Anb c k J l_0 c_0 (f 4) l_5 c_5 n_8 n_9 h:=by kernel_rfl
theorem w59(hc:Ch c){n:Nat}{a:List AV}(hg:f59 (r59 c k n) 0 (Ac a) h):zqs 59 a h k:=
 zqw hc q59 Tryz.func59 rfl (by kernel_rfl) (by kernel_rfl) k u59 (fun n=>f59 (r59 c k n)) (fun L _ _ hl=>match L,hl with
  |0,hl=>Bt hl fun _ _ hl=>hl
  |1,hl=>Bt hl fun _ _ hl=>Bt hl fun _ _ hl=>hl
  |2,hl=>hl
  |3,hl=>Bt hl fun _ _ hl=>Bt hl fun _ _ hl=>Bg hl fun _ hl=>Bg hl fun _ hl=>hl
  |_+4,hl=>hl) (fun n=>⟨
  fun f h hl=>by
    refine Bs 0 hl fun _ _ hl=>?_;exact Eq.mpr (Bfb ..) hl,
  fun f h hl=>by
    refine Bs 0 hl fun _ _ hl=>?_;refine Bs 5 hl fun _ _ hl=>?_;exact Eq.mpr (Bfa ..) hl,
  fun f h hl=>Eq.mpr (Be9 ..) hl,
  fun f h hl=>by
    refine Bs 0 hl fun _ _ hl=>?_;refine Bs 5 hl fun _ _ hl=>?_;refine Bf 8 hl fun _ hl=>?_;refine Bf 9 hl fun _ hl=>?_;exact Eq.mpr (Be8 ..) hl,
  trivial⟩) rfl hg
theorem Be0(J:J65)(l_0 c_0:Nat):zqe c k q65 u65 (f65 J) d65 Tryz.f65 .root (Ag f 0 (.str l_0 c_0)) h=Am5 c k J l_0 c_0 h:=by kernel_rfl
theorem Bez(J:J65)(l_3 c_3:Nat)(l_4 c_4:Nat)(l_5 c_5:Nat)(n_6:Int)(b_7:Bool):zqe c k q65 u65 (f65 J) d65 Tryz.f65 (.r (.r (.r (.r (.r (.r (.r .root))))))) (Ag (Ag (Ag (Ag (Ag f 3 (.str l_3 c_3)) 4 (.str l_4 c_4)) 5 (.str l_5 c_5)) 6 (.int .i64 n_6)) 7 (.bool b_7)) h=Am4 c k J l_3 c_3 l_4 c_4 l_5 c_5 n_6 b_7 h:=by kernel_rfl
theorem Bey(J:J65)(l_3 c_3:Nat)(l_4 c_4:Nat)(l_5 c_5:Nat):zqe c k q65 u65 (f65 J) d65 Tryz.f65 (.r (.r (.r .root))) (Ag (Ag (Ag f 3 (.str l_3 c_3)) 4 (.str l_4 c_4)) 5 (.str l_5 c_5)) h=Am3 c k J l_3 c_3 l_4 c_4 l_5 c_5 h:=by kernel_rfl
theorem w65(hc:Ch c){n:Nat}{a:List AV}(hg:f65 (r65 c k n) 0 (Ac a) h):zqs 65 a h k:=
 zqw hc q65 Tryz.func65 rfl (by kernel_rfl) (by kernel_rfl) k u65 (fun n=>f65 (r65 c k n)) (fun L _ _ hl=>match L,hl with
  |0,hl=>Bt hl fun _ _ hl=>hl
  |1,hl=>Bt hl fun _ _ hl=>Bt hl fun _ _ hl=>Bt hl fun _ _ hl=>Bg hl fun _ hl=>Iv hl fun _ hl=>hl
  |2,hl=>Bt hl fun _ _ hl=>Bt hl fun _ _ hl=>Bt hl fun _ _ hl=>hl
  |_+3,hl=>hl) (fun n=>⟨
  fun f h hl=>by
    refine Bs 0 hl fun _ _ hl=>?_;exact Eq.mpr (Be0 ..) hl,
  fun f h hl=>by
    refine Bs 3 hl fun _ _ hl=>?_;refine Bs 4 hl fun _ _ hl=>?_;refine Bs 5 hl fun _ _ hl=>?_;refine Bf 6 hl fun _ hl=>?_;refine Iu 7 hl fun _ hl=>?_;exact Eq.mpr (Bez ..) hl,
  fun f h hl=>by
    refine Bs 3 hl fun _ _ hl=>?_;refine Bs 4 hl fun _ _ hl=>?_;refine Bs 5 hl fun _ _ hl=>?_;exact Eq.mpr (Bey ..) hl,
  trivial⟩) rfl hg
theorem Beu(J:J67):zqe c k q67 u67 (f67 J) d67 Tryz.f67 .root f h=Amz c k J (f 0) h:=by kernel_rfl
theorem w67(hc:Ch c){n:Nat}{a:List AV}(hg:f67 (r67 c k n) 0 (Ac a) h):zqs 67 a h k:=
 zqw hc q67 Tryz.func67 rfl (by kernel_rfl) (by kernel_rfl) k u67 (fun n=>f67 (r67 c k n)) (fun L _ _ hl=>match L,hl with
  |0,hl=>hl
  |_+1,hl=>hl) (fun n=>⟨
  fun f h hl=>Eq.mpr (Beu ..) hl,
  trivial⟩) rfl hg
theorem Bet(J:J74):zqe c k q74 u74 (f74 J) d74 Tryz.f74 .root f h=Amy c k J (f 0) (f 1) h:=by kernel_rfl
theorem w74(hc:Ch c){n:Nat}{a:List AV}(hg:f74 (r74 c k n) 0 (Ac a) h):zqs 74 a h k:=
 zqw hc q74 Tryz.func74 rfl (by kernel_rfl) (by kernel_rfl) k u74 (fun n=>f74 (r74 c k n)) (fun L _ _ hl=>match L,hl with
  |0,hl=>hl
  |_+1,hl=>hl) (fun n=>⟨
  fun f h hl=>Eq.mpr (Bet ..) hl,
  trivial⟩) rfl hg
theorem w76(hc:Ch c){m:Nat}{a:List AV}(hg:Ig env c q76 u76 d76 (Gn env Tryz.f76.results.toList k) m 0 (Ac a) h):zqs 76 a h k:=Jb mixed Jm hc q76 Tryz.func76 rfl (by kernel_rfl) (by kernel_rfl) (by kernel_rfl) (by simp[u76]) hg
theorem Bes(J:J77)(l_0 c_0:Nat):zqe c k q77 u77 (f77 J) d77 Tryz.f77 .root (Ag f 0 (.str l_0 c_0)) h=Amx c k J l_0 c_0 h:=by kernel_rfl
theorem w77(hc:Ch c){n:Nat}{a:List AV}(hg:f77 (r77 c k n) 0 (Ac a) h):zqs 77 a h k:=
 zqw hc q77 Tryz.func77 rfl (by kernel_rfl) (by kernel_rfl) k u77 (fun n=>f77 (r77 c k n)) (fun L _ _ hl=>match L,hl with
  |0,hl=>Bt hl fun _ _ hl=>hl
  |_+1,hl=>hl) (fun n=>⟨
  fun f h hl=>by
    refine Bs 0 hl fun _ _ hl=>?_;exact Eq.mpr (Bes ..) hl,
  trivial⟩) rfl hg
theorem Ber(J:J78)(n_0:Int):zqe c k q78 u78 (f78 J) d78 Tryz.f78 .root (Ag f 0 (.int .u8 n_0)) h=Amw c k J n_0 h:=by kernel_rfl
theorem w78(hc:Ch c){n:Nat}{a:List AV}(hg:f78 (r78 c k n) 0 (Ac a) h):zqs 78 a h k:=
 zqw hc q78 Tryz.func78 rfl (by kernel_rfl) (by kernel_rfl) k u78 (fun n=>f78 (r78 c k n)) (fun L _ _ hl=>match L,hl with
  |0,hl=>Bg hl fun _ hl=>hl
  |_+1,hl=>hl) (fun n=>⟨
  fun f h hl=>by
    refine Bf 0 hl fun _ hl=>?_;exact Eq.mpr (Ber ..) hl,
  trivial⟩) rfl hg
theorem Beq(J:J79)(n_1:Int):zqe c k q79 u79 (f79 J) d79 Tryz.f79 .root (Ag f 1 (.int .i64 n_1)) h=Amv c k J (f 0) n_1 h:=by kernel_rfl
theorem Bep(J:J79)(n_6:Int):zqe c k q79 u79 (f79 J) d79 Tryz.f79 (.l (.l (.r (.l (.r (.l (.r (.r .root)))))))) (Ag f 6 (.int .i64 n_6)) h=Amu c k J (f 0) n_6 h:=by kernel_rfl
theorem Beo(J:J79)(n_7:Int):zqe c k q79 u79 (f79 J) d79 Tryz.f79 (.l (.r (.l (.r (.r (.r (.r .root))))))) (Ag f 7 (.int .i64 n_7)) h=Amt c k J (f 0) n_7 h:=by kernel_rfl
theorem w79(hc:Ch c){n:Nat}{a:List AV}(hg:f79 (r79 c k n) 0 (Ac a) h):zqs 79 a h k:=
 zqw hc q79 Tryz.func79 rfl (by kernel_rfl) (by kernel_rfl) k u79 (fun n=>f79 (r79 c k n)) (fun L _ _ hl=>match L,hl with
  |0,hl=>Bg hl fun _ hl=>hl
  |1,hl=>Bg hl fun _ hl=>hl
  |2,hl=>Bg hl fun _ hl=>hl
  |_+3,hl=>hl) (fun n=>⟨
  fun f h hl=>by
    refine Bf 1 hl fun _ hl=>?_;exact Eq.mpr (Beq ..) hl,
  fun f h hl=>by
    refine Bf 6 hl fun _ hl=>?_;exact Eq.mpr (Bep ..) hl,
  fun f h hl=>by
    refine Bf 7 hl fun _ hl=>?_;exact Eq.mpr (Beo ..) hl,
  trivial⟩) rfl hg
theorem A78(J:Axr):zqe c k Bcy Bbq (f110 J) d110 Tryz.f110 .root f h=Afb c k J (f 0) h:=by kernel_rfl
theorem Bat(hc:Ch c){n:Nat}{a:List AV}(hg:f110 (Asr c k n) 0 (Ac a) h):zqs 110 a h k:=
 zqw hc Bcy Tryz.func110 rfl (by kernel_rfl) (by kernel_rfl) k Bbq (fun n=>f110 (Asr c k n)) (fun L _ _ hl=>match L,hl with
  |0,hl=>hl
  |_+1,hl=>hl) (fun n=>⟨
  fun f h hl=>Eq.mpr (A78 ..) hl,
  trivial⟩) rfl hg
theorem A76(J:Axp)(l_0 c_0:Nat)(l_1 c_1:Nat):zqe c k Bcw Bbo (f112 J) d112 Tryz.f112 .root (Ag (Ag f 0 (.str l_0 c_0)) 1 (.str l_1 c_1)) h=Ae9 c k J l_0 c_0 l_1 c_1 h:=by kernel_rfl
theorem Bar(hc:Ch c){n:Nat}{a:List AV}(hg:f112 (Asp c k n) 0 (Ac a) h):zqs 112 a h k:=
 zqw hc Bcw Tryz.func112 rfl (by kernel_rfl) (by kernel_rfl) k Bbo (fun n=>f112 (Asp c k n)) (fun L _ _ hl=>match L,hl with
  |0,hl=>Bt hl fun _ _ hl=>Bt hl fun _ _ hl=>hl
  |_+1,hl=>hl) (fun n=>⟨
  fun f h hl=>by
    refine Bs 0 hl fun _ _ hl=>?_;refine Bs 1 hl fun _ _ hl=>?_;exact Eq.mpr (A76 ..) hl,
  trivial⟩) rfl hg
theorem A73(J:Axo)(l_0 c_0:Nat):zqe c k Bcv Bbn (f114 J) d114 Tryz.f114 .root (Ag f 0 (.str l_0 c_0)) h=Ae6 c k J l_0 c_0 h:=by kernel_rfl
theorem Bap(hc:Ch c){n:Nat}{a:List AV}(hg:f114 (Aso c k n) 0 (Ac a) h):zqs 114 a h k:=
 zqw hc Bcv Tryz.func114 rfl (by kernel_rfl) (by kernel_rfl) k Bbn (fun n=>f114 (Aso c k n)) (fun L _ _ hl=>match L,hl with
  |0,hl=>Bt hl fun _ _ hl=>hl
  |_+1,hl=>hl) (fun n=>⟨
  fun f h hl=>by
    refine Bs 0 hl fun _ _ hl=>?_;exact Eq.mpr (A73 ..) hl,
  trivial⟩) rfl hg
theorem A71(J:Axm)(l_0 c_0:Nat)(l_1 c_1:Nat):zqe c k Bct Bbl (f116 J) d116 Tryz.f116 .root (Ag (Ag f 0 (.str l_0 c_0)) 1 (.str l_1 c_1)) h=Ae5 c k J l_0 c_0 l_1 c_1 h:=by kernel_rfl
theorem Ban(hc:Ch c){n:Nat}{a:List AV}(hg:f116 (Asm c k n) 0 (Ac a) h):zqs 116 a h k:=
 zqw hc Bct Tryz.func116 rfl (by kernel_rfl) (by kernel_rfl) k Bbl (fun n=>f116 (Asm c k n)) (fun L _ _ hl=>match L,hl with
  |0,hl=>Bt hl fun _ _ hl=>Bt hl fun _ _ hl=>hl
  |_+1,hl=>hl) (fun n=>⟨
  fun f h hl=>by
    refine Bs 0 hl fun _ _ hl=>?_;refine Bs 1 hl fun _ _ hl=>?_;exact Eq.mpr (A71 ..) hl,
  trivial⟩) rfl hg
theorem A7z(J:Amj)(l_0 c_0:Nat)(l_1 c_1:Nat):zqe c k A30 A28 (f118 J) d118 Tryz.f118 .root (Ag (Ag f 0 (.str l_0 c_0)) 1 (.str l_1 c_1)) h=Ae3 c k J l_0 c_0 l_1 c_1 h:=by kernel_rfl
theorem A7y(J:Amj)(l_0 c_0:Nat)(l_6 c_6:Nat):zqe c k A30 A28 (f118 J) d118 Tryz.f118 (.r (.r (.r (.r .root)))) (Ag (Ag f 0 (.str l_0 c_0)) 6 (.str l_6 c_6)) h=Ae2 c k J l_0 c_0 l_6 c_6 h:=by kernel_rfl
theorem Bal(hc:Ch c){n:Nat}{a:List AV}(hg:f118 (Abj c k n) 0 (Ac a) h):zqs 118 a h k:=
 zqw hc A30 Tryz.func118 rfl (by kernel_rfl) (by kernel_rfl) k A28 (fun n=>f118 (Abj c k n)) (fun L _ _ hl=>match L,hl with
  |0,hl=>Bt hl fun _ _ hl=>Bt hl fun _ _ hl=>hl
  |1,hl=>Bt hl fun _ _ hl=>Bt hl fun _ _ hl=>hl
  |_+2,hl=>hl) (fun n=>⟨
  fun f h hl=>by
    refine Bs 0 hl fun _ _ hl=>?_;refine Bs 1 hl fun _ _ hl=>?_;exact Eq.mpr (A7z ..) hl,
  fun f h hl=>by
    refine Bs 0 hl fun _ _ hl=>?_;refine Bs 6 hl fun _ _ hl=>?_;exact Eq.mpr (A7y ..) hl,
  trivial⟩) rfl hg
theorem A7w(J:Axj):zqe c k Bcq Bbi (f120 J) d120 Tryz.f120 .root f h=Ae0 c k J (f 0) h:=by kernel_rfl
theorem Baj(hc:Ch c){n:Nat}{a:List AV}(hg:f120 (Asi c k n) 0 (Ac a) h):zqs 120 a h k:=
 zqw hc Bcq Tryz.func120 rfl (by kernel_rfl) (by kernel_rfl) k Bbi (fun n=>f120 (Asi c k n)) (fun L _ _ hl=>match L,hl with
  |0,hl=>hl
  |_+1,hl=>hl) (fun n=>⟨
  fun f h hl=>Eq.mpr (A7w ..) hl,
  trivial⟩) rfl hg
theorem A7o(J:Axh)(n_1:Int):zqe c k Bco Bbg (f129 J) d129 Tryz.f129 .root (Ag f 1 (.int .i64 n_1)) h=Aeu c k J (f 0) n_1 h:=by kernel_rfl
theorem Baf(hc:Ch c){n:Nat}{a:List AV}(hg:f129 (Asg c k n) 0 (Ac a) h):zqs 129 a h k:=
 zqw hc Bco Tryz.func129 rfl (by kernel_rfl) (by kernel_rfl) k Bbg (fun n=>f129 (Asg c k n)) (fun L _ _ hl=>match L,hl with
  |0,hl=>Bg hl fun _ hl=>hl
  |_+1,hl=>hl) (fun n=>⟨
  fun f h hl=>by
    refine Bf 1 hl fun _ hl=>?_;exact Eq.mpr (A7o ..) hl,
  trivial⟩) rfl hg
theorem A7m(J:Agz)(n_1:Int):zqe c k Ayr Ax1 (f131 J) d131 Tryz.f131 .root (Ag f 1 (.int .i64 n_1)) h=Aes c k J (f 0) n_1 h:=by kernel_rfl
theorem A7l(J:Agz)(n_5 n_6:Int):zqe c k Ayr Ax1 (f131 J) d131 Tryz.f131 (.l (.r (.l (.r (.r .root))))) (Ag (Ag f 5 (.int .u8 n_5)) 6 (.int .i64 n_6)) h=Aer c k J (f 0) n_5 n_6 h:=by kernel_rfl
theorem A7k(J:Agz)(n_5 n_6:Int):zqe c k Ayr Ax1 (f131 J) d131 Tryz.f131 (.r (.r (.l (.l (.r (.l (.r (.r .root)))))))) (Ag (Ag f 5 (.int .u8 n_5)) 6 (.int .i64 n_6)) h=Zb c k J (f 0) n_5 n_6 h:=by kernel_rfl
theorem Bad(hc:Ch c){n:Nat}{a:List AV}(hg:f131 (Zj c k n) 0 (Ac a) h):zqs 131 a h k:=
 zqw hc Ayr Tryz.func131 rfl (by kernel_rfl) (by kernel_rfl) k Ax1 (fun n=>f131 (Zj c k n)) (fun L _ _ hl=>match L,hl with
  |0,hl=>Bg hl fun _ hl=>hl
  |1,hl=>Bg hl fun _ hl=>Bg hl fun _ hl=>hl
  |2,hl=>Bg hl fun _ hl=>Bg hl fun _ hl=>hl
  |_+3,hl=>hl) (fun n=>⟨
  fun f h hl=>by
    refine Bf 1 hl fun _ hl=>?_;exact Eq.mpr (A7m ..) hl,
  fun f h hl=>by
    refine Bf 5 hl fun _ hl=>?_;refine Bf 6 hl fun _ hl=>?_;exact Eq.mpr (A7l ..) hl,
  fun f h hl=>by
    refine Bf 5 hl fun _ hl=>?_;refine Bf 6 hl fun _ hl=>?_;exact Eq.mpr (A7k ..) hl,
  trivial⟩) rfl hg
theorem A7i(J:Axe)(n_0:Int):zqe c k Bcl Bbd (f133 J) d133 Tryz.f133 .root (Ag f 0 (.int .u8 n_0)) h=Aep c k J n_0 h:=by kernel_rfl
theorem Bab(hc:Ch c){n:Nat}{a:List AV}(hg:f133 (Asd c k n) 0 (Ac a) h):zqs 133 a h k:=
 zqw hc Bcl Tryz.func133 rfl (by kernel_rfl) (by kernel_rfl) k Bbd (fun n=>f133 (Asd c k n)) (fun L _ _ hl=>match L,hl with
  |0,hl=>Bg hl fun _ hl=>hl
  |_+1,hl=>hl) (fun n=>⟨
  fun f h hl=>by
    refine Bf 0 hl fun _ hl=>?_;exact Eq.mpr (A7i ..) hl,
  trivial⟩) rfl hg
theorem A7h(J:Ami)(n_1:Int):zqe c k A3y A26 (f134 J) d134 Tryz.f134 .root (Ag f 1 (.int .i64 n_1)) h=Aeo c k J (f 0) n_1 h:=by kernel_rfl
theorem A7g(J:Ami)(n_5:Int):zqe c k A3y A26 (f134 J) d134 Tryz.f134 (.l (.r (.r (.r .root)))) (Ag f 5 (.int .i64 n_5)) h=Aen c k J (f 0) n_5 h:=by kernel_rfl
theorem Baa(hc:Ch c){n:Nat}{a:List AV}(hg:f134 (Ahv c k n) 0 (Ac a) h):zqs 134 a h k:=
 zqw hc A3y Tryz.func134 rfl (by kernel_rfl) (by kernel_rfl) k A26 (fun n=>f134 (Ahv c k n)) (fun L _ _ hl=>match L,hl with
  |0,hl=>Bg hl fun _ hl=>hl
  |1,hl=>Bg hl fun _ hl=>hl
  |_+2,hl=>hl) (fun n=>⟨
  fun f h hl=>by
    refine Bf 1 hl fun _ hl=>?_;exact Eq.mpr (A7h ..) hl,
  fun f h hl=>by
    refine Bf 5 hl fun _ hl=>?_;exact Eq.mpr (A7g ..) hl,
  trivial⟩) rfl hg
theorem A7f(J:Agy)(n_1:Int):zqe c k Ayq Ax0 (f135 J) d135 Tryz.f135 .root (Ag f 1 (.int .i64 n_1)) h=Aem c k J (f 0) n_1 h:=by kernel_rfl
theorem A7e(J:Agy)(n_1 n_6:Int):zqe c k Ayq Ax0 (f135 J) d135 Tryz.f135 (.l (.r (.l (.r (.r .root))))) (Ag (Ag f 1 (.int .i64 n_1)) 6 (.int .i64 n_6)) h=Ael c k J (f 0) n_1 (f 5) n_6 h:=by kernel_rfl
theorem A7d(J:Agy)(n_1 n_6 n_7:Int):zqe c k Ayq Ax0 (f135 J) d135 Tryz.f135 (.l (.l (.r (.l (.l (.r (.l (.l (.r (.l (.r (.r .root)))))))))))) (Ag (Ag (Ag f 1 (.int .i64 n_1)) 6 (.int .i64 n_6)) 7 (.int .i64 n_7)) h=Aek c k J (f 0) n_1 (f 5) n_6 n_7 h:=by kernel_rfl
theorem A99(hc:Ch c){n:Nat}{a:List AV}(hg:f135 (Zi c k n) 0 (Ac a) h):zqs 135 a h k:=
 zqw hc Ayq Tryz.func135 rfl (by kernel_rfl) (by kernel_rfl) k Ax0 (fun n=>f135 (Zi c k n)) (fun L _ _ hl=>match L,hl with
  |0,hl=>Bg hl fun _ hl=>hl
  |1,hl=>Bg hl fun _ hl=>Bg hl fun _ hl=>hl
  |2,hl=>Bg hl fun _ hl=>Bg hl fun _ hl=>Bg hl fun _ hl=>hl
  |_+3,hl=>hl) (fun n=>⟨
  fun f h hl=>by
    refine Bf 1 hl fun _ hl=>?_;exact Eq.mpr (A7f ..) hl,
  fun f h hl=>by
    refine Bf 1 hl fun _ hl=>?_;refine Bf 6 hl fun _ hl=>?_;exact Eq.mpr (A7e ..) hl,
  fun f h hl=>by
    refine Bf 1 hl fun _ hl=>?_;refine Bf 6 hl fun _ hl=>?_;refine Bf 7 hl fun _ hl=>?_;exact Eq.mpr (A7d ..) hl,
  trivial⟩) rfl hg
theorem A7a(J:Tg)(l_0 c_0:Nat):zqe c k Akp Aj5 (f161 J) d161 Tryz.f161 .root (Ag f 0 (.str l_0 c_0)) h=Aeh c k J l_0 c_0 h:=by kernel_rfl
theorem A69(J:Tg)(l_0 c_0:Nat)(b_3 b_4:Bool)(n_5:Int):zqe c k Akp Aj5 (f161 J) d161 Tryz.f161 (.l (.r (.l (.r (.r .root))))) (Ag (Ag (Ag (Ag f 0 (.str l_0 c_0)) 3 (.bool b_3)) 4 (.bool b_4)) 5 (.int .i64 n_5)) h=Aeg c k J l_0 c_0 b_3 b_4 n_5 h:=by kernel_rfl
theorem A68(J:Tg)(l_0 c_0:Nat)(n_8 n_9:Int):zqe c k Akp Aj5 (f161 J) d161 Tryz.f161 (.l (.r (.l (.r (.r (.r (.r (.l (.r (.l (.r (.r (.r .root))))))))))))) (Ag (Ag (Ag f 0 (.str l_0 c_0)) 8 (.int .i64 n_8)) 9 (.int .i64 n_9)) h=Aef c k J l_0 c_0 (f 7) n_8 n_9 h:=by kernel_rfl
theorem A67(J:Tg)(l_0 c_0:Nat)(n_9 n_10:Int):zqe c k Akp Aj5 (f161 J) d161 Tryz.f161 (.r (.r (.l (.r (.r (.l (.l (.r (.l (.l (.r (.l (.r (.r (.r (.r (.l (.r (.l (.r (.r (.r .root)))))))))))))))))))))) (Ag (Ag (Ag f 0 (.str l_0 c_0)) 9 (.int .i64 n_9)) 10 (.int .u8 n_10)) h=Aee c k J l_0 c_0 (f 7) n_9 n_10 h:=by kernel_rfl
theorem A66(J:Tg)(l_0 c_0:Nat)(n_8 n_9:Int):zqe c k Akp Aj5 (f161 J) d161 Tryz.f161 (.r (.r (.l (.l (.r (.l (.r (.r (.r (.r (.l (.r (.l (.r (.r (.r .root)))))))))))))))) (Ag (Ag (Ag f 0 (.str l_0 c_0)) 8 (.int .i64 n_8)) 9 (.int .i64 n_9)) h=Za c k J l_0 c_0 (f 7) n_8 n_9 h:=by kernel_rfl
theorem A65(J:Tg)(l_0 c_0:Nat)(b_3 b_4:Bool):zqe c k Akp Aj5 (f161 J) d161 Tryz.f161 (.r (.r (.r .root))) (Ag (Ag (Ag f 0 (.str l_0 c_0)) 3 (.bool b_3)) 4 (.bool b_4)) h=Aed c k J l_0 c_0 b_3 b_4 h:=by kernel_rfl
theorem A96(hc:Ch c){n:Nat}{a:List AV}(hg:f161 (Ng c k n) 0 (Ac a) h):zqs 161 a h k:=
 zqw hc Akp Tryz.func161 rfl (by kernel_rfl) (by kernel_rfl) k Aj5 (fun n=>f161 (Ng c k n)) (fun L _ _ hl=>match L,hl with
  |0,hl=>Bt hl fun _ _ hl=>hl
  |1,hl=>Bt hl fun _ _ hl=>Iv hl fun _ hl=>Iv hl fun _ hl=>Bg hl fun _ hl=>hl
  |2,hl=>Bt hl fun _ _ hl=>Bg hl fun _ hl=>Bg hl fun _ hl=>hl
  |3,hl=>Bt hl fun _ _ hl=>Bg hl fun _ hl=>Bg hl fun _ hl=>hl
  |4,hl=>Bt hl fun _ _ hl=>Bg hl fun _ hl=>Bg hl fun _ hl=>hl
  |5,hl=>Bt hl fun _ _ hl=>Iv hl fun _ hl=>Iv hl fun _ hl=>hl
  |_+6,hl=>hl) (fun n=>⟨
  fun f h hl=>by
    refine Bs 0 hl fun _ _ hl=>?_;exact Eq.mpr (A7a ..) hl,
  fun f h hl=>by
    refine Bs 0 hl fun _ _ hl=>?_;refine Iu 3 hl fun _ hl=>?_;refine Iu 4 hl fun _ hl=>?_;refine Bf 5 hl fun _ hl=>?_;exact Eq.mpr (A69 ..) hl,
  fun f h hl=>by
    refine Bs 0 hl fun _ _ hl=>?_;refine Bf 8 hl fun _ hl=>?_;refine Bf 9 hl fun _ hl=>?_;exact Eq.mpr (A68 ..) hl,
  fun f h hl=>by
    refine Bs 0 hl fun _ _ hl=>?_;refine Bf 9 hl fun _ hl=>?_;refine Bf 10 hl fun _ hl=>?_;exact Eq.mpr (A67 ..) hl,
  fun f h hl=>by
    refine Bs 0 hl fun _ _ hl=>?_;refine Bf 8 hl fun _ hl=>?_;refine Bf 9 hl fun _ hl=>?_;exact Eq.mpr (A66 ..) hl,
  fun f h hl=>by
    refine Bs 0 hl fun _ _ hl=>?_;refine Iu 3 hl fun _ hl=>?_;refine Iu 4 hl fun _ hl=>?_;exact Eq.mpr (A65 ..) hl,
  trivial⟩) rfl hg
theorem A64(J:Axb)(l_0 c_0:Nat)(n_1:Int):zqe c k Bci Bba (f162 J) d162 Tryz.f162 .root (Ag (Ag f 0 (.str l_0 c_0)) 1 (.int .i32 n_1)) h=Aec c k J l_0 c_0 n_1 h:=by kernel_rfl
theorem A95(hc:Ch c){n:Nat}{a:List AV}(hg:f162 (Asa c k n) 0 (Ac a) h):zqs 162 a h k:=
 zqw hc Bci Tryz.func162 rfl (by kernel_rfl) (by kernel_rfl) k Bba (fun n=>f162 (Asa c k n)) (fun L _ _ hl=>match L,hl with
  |0,hl=>Bt hl fun _ _ hl=>Bg hl fun _ hl=>hl
  |1,hl=>hl
  |2,hl=>hl
  |3,hl=>hl
  |4,hl=>hl
  |5,hl=>hl
  |6,hl=>hl
  |7,hl=>hl
  |8,hl=>hl
  |9,hl=>hl
  |10,hl=>hl
  |11,hl=>hl
  |12,hl=>hl
  |13,hl=>hl
  |14,hl=>hl
  |15,hl=>hl
  |16,hl=>hl
  |17,hl=>hl
  |18,hl=>hl
  |19,hl=>hl
  |20,hl=>hl
  |21,hl=>hl
  |22,hl=>hl
  |_+23,hl=>hl) (fun n=>⟨
  fun f h hl=>by
    refine Bs 0 hl fun _ _ hl=>?_;refine Bf 1 hl fun _ hl=>?_;exact Eq.mpr (A64 ..) hl,
  fun _ _ hl=>False.elim hl,
  fun _ _ hl=>False.elim hl,
  fun _ _ hl=>False.elim hl,
  fun _ _ hl=>False.elim hl,
  fun _ _ hl=>False.elim hl,
  fun _ _ hl=>False.elim hl,
  fun _ _ hl=>False.elim hl,
  fun _ _ hl=>False.elim hl,
  fun _ _ hl=>False.elim hl,
  fun _ _ hl=>False.elim hl,
  fun _ _ hl=>False.elim hl,
  fun _ _ hl=>False.elim hl,
  fun _ _ hl=>False.elim hl,
  fun _ _ hl=>False.elim hl,
  fun _ _ hl=>False.elim hl,
  fun _ _ hl=>False.elim hl,
  fun _ _ hl=>False.elim hl,
  fun _ _ hl=>False.elim hl,
  fun _ _ hl=>False.elim hl,
  fun _ _ hl=>False.elim hl,
  fun _ _ hl=>False.elim hl,
  fun _ _ hl=>False.elim hl,
  trivial⟩) rfl hg
theorem Bir(hc:Ch c){m:Nat}{a:List AV}(hg:Ig env c A3x A25 d165 (Gn env Tryz.f165.results.toList k) m 0 (Ac a) h):zqs 165 a h k:=Jb mixed Jm hc A3x Tryz.func165 rfl (by kernel_rfl) (by kernel_rfl) (by kernel_rfl) (by simp[A25]) hg
theorem A62(J:Aw9)(l_1 c_1:Nat):zqe c k Bcg Ba8 (f166 J) d166 Tryz.f166 .root (Ag f 1 (.str l_1 c_1)) h=Aea c k J (f 0) l_1 c_1 h:=by kernel_rfl
theorem A93(hc:Ch c){n:Nat}{a:List AV}(hg:f166 (Ar8 c k n) 0 (Ac a) h):zqs 166 a h k:=
 zqw hc Bcg Tryz.func166 rfl (by kernel_rfl) (by kernel_rfl) k Ba8 (fun n=>f166 (Ar8 c k n)) (fun L _ _ hl=>match L,hl with
  |0,hl=>Bt hl fun _ _ hl=>hl
  |_+1,hl=>hl) (fun n=>⟨
  fun f h hl=>by
    refine Bs 1 hl fun _ _ hl=>?_;exact Eq.mpr (A62 ..) hl,
  trivial⟩) rfl hg
theorem A6z(J:Aw8)(l_0 c_0:Nat)(l_1 c_1:Nat):zqe c k Bcf Ba7 (f171 J) d171 Tryz.f171 .root (Ag (Ag f 0 (.str l_0 c_0)) 1 (.str l_1 c_1)) h=Ad7 c k J l_0 c_0 l_1 c_1 h:=by kernel_rfl
theorem A91(hc:Ch c){n:Nat}{a:List AV}(hg:f171 (Ar7 c k n) 0 (Ac a) h):zqs 171 a h k:=
 zqw hc Bcf Tryz.func171 rfl (by kernel_rfl) (by kernel_rfl) k Ba7 (fun n=>f171 (Ar7 c k n)) (fun L _ _ hl=>match L,hl with
  |0,hl=>Bt hl fun _ _ hl=>Bt hl fun _ _ hl=>hl
  |_+1,hl=>hl) (fun n=>⟨
  fun f h hl=>by
    refine Bs 0 hl fun _ _ hl=>?_;refine Bs 1 hl fun _ _ hl=>?_;exact Eq.mpr (A6z ..) hl,
  trivial⟩) rfl hg
theorem A6x(J:Tf)(l_0 c_0:Nat)(n_1 n_2:Int):zqe c k Ako Aj4 (f173 J) d173 Tryz.f173 .root (Ag (Ag (Ag f 0 (.str l_0 c_0)) 1 (.int .i64 n_1)) 2 (.int .i64 n_2)) h=Ad5 c k J l_0 c_0 n_1 n_2 h:=by kernel_rfl
theorem A6w(J:Tf)(n_1:Int)(b_8:Bool)(l_9 c_9:Nat)(n_10 n_11:Int)(b_12:Bool)(n_13 n_100 n_101:Int):zqe c k Ako Aj4 (f173 J) d173 Tryz.f173 (.l (.r (.l (.r (.r (.r (.r (.r (.r (.r (.r (.r (.r (.r .root)))))))))))))) (Ag (Ag (Ag (Ag (Ag (Ag (Ag (Ag (Ag f 1 (.int .i64 n_1)) 8 (.bool b_8)) 9 (.str l_9 c_9)) 10 (.int .u64 n_10)) 11 (.int .u64 n_11)) 12 (.bool b_12)) 13 (.int .u64 n_13)) 100 (.int .i64 n_100)) 101 (.int .i64 n_101)) h=Ad4 c k J n_1 b_8 l_9 c_9 n_10 n_11 b_12 n_13 (f 99) n_100 n_101 h:=by kernel_rfl
theorem A6v(J:Tf)(n_1:Int)(b_8:Bool)(l_9 c_9:Nat)(n_10 n_11:Int)(b_12:Bool)(n_13 n_16:Int)(n_100 n_101:Int):zqe c k Ako Aj4 (f173 J) d173 Tryz.f173 (.r (.r (.r (.l (.l (.r (.r (.l (.l (.r (.l (.r (.r (.r (.r (.r (.r (.r (.r (.r (.r (.r .root)))))))))))))))))))))) (Ag (Ag (Ag (Ag (Ag (Ag (Ag (Ag (Ag (Ag f 1 (.int .i64 n_1)) 8 (.bool b_8)) 9 (.str l_9 c_9)) 10 (.int .u64 n_10)) 11 (.int .u64 n_11)) 12 (.bool b_12)) 13 (.int .u64 n_13)) 16 (.int .u8 n_16)) 100 (.int .i64 n_100)) 101 (.int .i64 n_101)) h=Ad3 c k J n_1 b_8 l_9 c_9 n_10 n_11 b_12 n_13 n_16 (f 99) n_100 n_101 h:=by kernel_rfl
theorem A6u(J:Tf)(l_0 c_0:Nat)(n_1 n_2:Int)(b_8:Bool)(l_9 c_9:Nat)(n_10:Int):zqe c k Ako Aj4 (f173 J) d173 Tryz.f173 (.r (.r (.r (.r (.r (.r (.r (.r .root)))))))) (Ag (Ag (Ag (Ag (Ag (Ag f 0 (.str l_0 c_0)) 1 (.int .i64 n_1)) 2 (.int .i64 n_2)) 8 (.bool b_8)) 9 (.str l_9 c_9)) 10 (.int .u64 n_10)) h=Ad2 c k J l_0 c_0 n_1 n_2 b_8 l_9 c_9 n_10 h:=by kernel_rfl
theorem A6t(J:Tf)(l_0 c_0:Nat)(n_1 n_2:Int)(b_8:Bool)(l_9 c_9:Nat):zqe c k Ako Aj4 (f173 J) d173 Tryz.f173 (.r (.r (.r (.r (.r (.r .root)))))) (Ag (Ag (Ag (Ag (Ag f 0 (.str l_0 c_0)) 1 (.int .i64 n_1)) 2 (.int .i64 n_2)) 8 (.bool b_8)) 9 (.str l_9 c_9)) h=Ad1 c k J l_0 c_0 n_1 n_2 b_8 l_9 c_9 h:=by kernel_rfl
theorem A6s(J:Tf)(l_0 c_0:Nat)(n_1 n_2:Int)(b_8:Bool)(l_9 c_9:Nat):zqe c k Ako Aj4 (f173 J) d173 Tryz.f173 (.r (.r (.r (.r (.r .root))))) (Ag (Ag (Ag (Ag (Ag f 0 (.str l_0 c_0)) 1 (.int .i64 n_1)) 2 (.int .i64 n_2)) 8 (.bool b_8)) 9 (.str l_9 c_9)) h=Ad0 c k J l_0 c_0 n_1 n_2 b_8 l_9 c_9 h:=by kernel_rfl
theorem A9z(hc:Ch c){n:Nat}{a:List AV}(hg:f173 (Ox c k n) 0 (Ac a) h):zqs 173 a h k:=
 zqw hc Ako Tryz.func173 rfl (by kernel_rfl) (by kernel_rfl) k Aj4 (fun n=>f173 (Ox c k n)) (fun L _ _ hl=>match L,hl with
  |0,hl=>Bt hl fun _ _ hl=>Bg hl fun _ hl=>Bg hl fun _ hl=>hl
  |1,hl=>Bg hl fun _ hl=>Iv hl fun _ hl=>Bt hl fun _ _ hl=>Bg hl fun _ hl=>Bg hl fun _ hl=>Iv hl fun _ hl=>Bg hl fun _ hl=>Bg hl fun _ hl=>Bg hl fun _ hl=>hl
  |2,hl=>Bg hl fun _ hl=>Iv hl fun _ hl=>Bt hl fun _ _ hl=>Bg hl fun _ hl=>Bg hl fun _ hl=>Iv hl fun _ hl=>Bg hl fun _ hl=>Bg hl fun _ hl=>Bg hl fun _ hl=>Bg hl fun _ hl=>hl
  |3,hl=>Bt hl fun _ _ hl=>Bg hl fun _ hl=>Bg hl fun _ hl=>Iv hl fun _ hl=>Bt hl fun _ _ hl=>Bg hl fun _ hl=>hl
  |4,hl=>Bt hl fun _ _ hl=>Bg hl fun _ hl=>Bg hl fun _ hl=>Iv hl fun _ hl=>Bt hl fun _ _ hl=>hl
  |5,hl=>Bt hl fun _ _ hl=>Bg hl fun _ hl=>Bg hl fun _ hl=>Iv hl fun _ hl=>Bt hl fun _ _ hl=>hl
  |_+6,hl=>hl) (fun n=>⟨
  fun f h hl=>by
    refine Bs 0 hl fun _ _ hl=>?_;refine Bf 1 hl fun _ hl=>?_;refine Bf 2 hl fun _ hl=>?_;exact Eq.mpr (A6x ..) hl,
  fun f h hl=>by
    refine Bf 1 hl fun _ hl=>?_;refine Iu 8 hl fun _ hl=>?_;refine Bs 9 hl fun _ _ hl=>?_;refine Bf 10 hl fun _ hl=>?_;refine Bf 11 hl fun _ hl=>?_;refine Iu 12 hl fun _ hl=>?_;refine Bf 13 hl fun _ hl=>?_;refine Bf 100 hl fun _ hl=>?_;refine Bf 101 hl fun _ hl=>?_;exact Eq.mpr (A6w ..) hl,
  fun f h hl=>by
    refine Bf 1 hl fun _ hl=>?_;refine Iu 8 hl fun _ hl=>?_;refine Bs 9 hl fun _ _ hl=>?_;refine Bf 10 hl fun _ hl=>?_;refine Bf 11 hl fun _ hl=>?_;refine Iu 12 hl fun _ hl=>?_;refine Bf 13 hl fun _ hl=>?_;refine Bf 16 hl fun _ hl=>?_;refine Bf 100 hl fun _ hl=>?_;refine Bf 101 hl fun _ hl=>?_;exact Eq.mpr (A6v ..) hl,
  fun f h hl=>by
    refine Bs 0 hl fun _ _ hl=>?_;refine Bf 1 hl fun _ hl=>?_;refine Bf 2 hl fun _ hl=>?_;refine Iu 8 hl fun _ hl=>?_;refine Bs 9 hl fun _ _ hl=>?_;refine Bf 10 hl fun _ hl=>?_;exact Eq.mpr (A6u ..) hl,
  fun f h hl=>by
    refine Bs 0 hl fun _ _ hl=>?_;refine Bf 1 hl fun _ hl=>?_;refine Bf 2 hl fun _ hl=>?_;refine Iu 8 hl fun _ hl=>?_;refine Bs 9 hl fun _ _ hl=>?_;exact Eq.mpr (A6t ..) hl,
  fun f h hl=>by
    refine Bs 0 hl fun _ _ hl=>?_;refine Bf 1 hl fun _ hl=>?_;refine Bf 2 hl fun _ hl=>?_;refine Iu 8 hl fun _ hl=>?_;refine Bs 9 hl fun _ _ hl=>?_;exact Eq.mpr (A6s ..) hl,
  trivial⟩) rfl hg
theorem Bip(hc:Ch c){m:Nat}{a:List AV}(hg:Ig env c A3u A22 d176 (Gn env Tryz.f176.results.toList k) m 0 (Ac a) h):zqs 176 a h k:=Jb mixed Jm hc A3u Tryz.func176 rfl (by kernel_rfl) (by kernel_rfl) (by kernel_rfl) (by simp[A22]) hg
theorem Ava(J:Aw6):zqe c k A3t A21 (f177 J) d177 Tryz.f177 .root f h=Arq c k J (f 0) h:=by kernel_rfl
theorem Bio(hc:Ch c){n:Nat}{a:List AV}(hg:f177 (Akm c k n) 0 (Ac a) h):zqs 177 a h k:=
 zqw hc A3t Tryz.func177 rfl (by kernel_rfl) (by kernel_rfl) k A21 (fun n=>f177 (Akm c k n)) (fun L _ _ hl=>match L,hl with
  |0,hl=>hl
  |_+1,hl=>hl) (fun n=>⟨
  fun f h hl=>Eq.mpr (Ava ..) hl,
  trivial⟩) rfl hg
theorem A9m(hc:Ch c){n:Nat}{a:List AV}(hg:f177 (Akm c k n) 0 (Ac a) h):A2e 177 a h k:=
 A9a hc A3t Tryz.func177 rfl (by kernel_rfl) (by kernel_rfl) k A21 (fun n=>f177 (Akm c k n)) (fun L _ _ hl=>match L,hl with
  |0,hl=>hl
  |_+1,hl=>hl) (fun n=>⟨
  fun f h hl=>Eq.mpr (Ava ..) hl,
  trivial⟩) rfl hg
theorem Au9(J:Aw5)(b_1:Bool):zqe c k A3s A20 (f178 J) d178 Tryz.f178 .root (Ag f 1 (.bool b_1)) h=Arp c k J (f 0) b_1 h:=by kernel_rfl
theorem Bin(hc:Ch c){n:Nat}{a:List AV}(hg:f178 (Akl c k n) 0 (Ac a) h):zqs 178 a h k:=
 zqw hc A3s Tryz.func178 rfl (by kernel_rfl) (by kernel_rfl) k A20 (fun n=>f178 (Akl c k n)) (fun L _ _ hl=>match L,hl with
  |0,hl=>Iv hl fun _ hl=>hl
  |_+1,hl=>hl) (fun n=>⟨
  fun f h hl=>by
    refine Iu 1 hl fun _ hl=>?_;exact Eq.mpr (Au9 ..) hl,
  trivial⟩) rfl hg
theorem A9l(hc:Ch c){n:Nat}{a:List AV}(hg:f178 (Akl c k n) 0 (Ac a) h):A2e 178 a h k:=
 A9a hc A3s Tryz.func178 rfl (by kernel_rfl) (by kernel_rfl) k A20 (fun n=>f178 (Akl c k n)) (fun L _ _ hl=>match L,hl with
  |0,hl=>Iv hl fun _ hl=>hl
  |_+1,hl=>hl) (fun n=>⟨
  fun f h hl=>by
    refine Iu 1 hl fun _ hl=>?_;exact Eq.mpr (Au9 ..) hl,
  trivial⟩) rfl hg
theorem A6r(J:Amg)(n_0:Int):zqe c k A3r A2z (f181 J) d181 Tryz.f181 .root (Ag f 0 (.int .u8 n_0)) h=Adz c k J n_0 h:=by kernel_rfl
theorem A6q(J:Amg)(n_0 n_4:Int):zqe c k A3r A2z (f181 J) d181 Tryz.f181 (.l (.r (.l (.r .root)))) (Ag (Ag f 0 (.int .u8 n_0)) 4 (.int .i64 n_4)) h=Ady c k J n_0 n_4 h:=by kernel_rfl
theorem A9y(hc:Ch c){n:Nat}{a:List AV}(hg:f181 (Aht c k n) 0 (Ac a) h):zqs 181 a h k:=
 zqw hc A3r Tryz.func181 rfl (by kernel_rfl) (by kernel_rfl) k A2z (fun n=>f181 (Aht c k n)) (fun L _ _ hl=>match L,hl with
  |0,hl=>Bg hl fun _ hl=>hl
  |1,hl=>Bg hl fun _ hl=>Bg hl fun _ hl=>hl
  |_+2,hl=>hl) (fun n=>⟨
  fun f h hl=>by
    refine Bf 0 hl fun _ hl=>?_;exact Eq.mpr (A6r ..) hl,
  fun f h hl=>by
    refine Bf 0 hl fun _ hl=>?_;refine Bf 4 hl fun _ hl=>?_;exact Eq.mpr (A6q ..) hl,
  trivial⟩) rfl hg
theorem A6p(J:Aw4):zqe c k Bcd Ba5 (f182 J) d182 Tryz.f182 .root f h=Adx c k J  h:=by kernel_rfl
theorem A9x(hc:Ch c){n:Nat}{a:List AV}(hg:f182 (Ar5 c k n) 0 (Ac a) h):zqs 182 a h k:=
 zqw hc Bcd Tryz.func182 rfl (by kernel_rfl) (by kernel_rfl) k Ba5 (fun n=>f182 (Ar5 c k n)) (fun L _ _ hl=>match L,hl with
  |0,hl=>hl
  |_+1,hl=>hl) (fun n=>⟨
  fun f h hl=>Eq.mpr (A6p ..) hl,
  trivial⟩) rfl hg
theorem A6o(J:Aw3)(l_0 c_0:Nat)(n_1:Int):zqe c k Bcc Ba4 (f207 J) d207 Tryz.f207 .root (Ag (Ag f 0 (.str l_0 c_0)) 1 (.int .u8 n_1)) h=Adw c k J l_0 c_0 n_1 h:=by kernel_rfl
theorem A9w(hc:Ch c){n:Nat}{a:List AV}(hg:f207 (Ar4 c k n) 0 (Ac a) h):zqs 207 a h k:=
 zqw hc Bcc Tryz.func207 rfl (by kernel_rfl) (by kernel_rfl) k Ba4 (fun n=>f207 (Ar4 c k n)) (fun L _ _ hl=>match L,hl with
  |0,hl=>Bt hl fun _ _ hl=>Bg hl fun _ hl=>hl
  |_+1,hl=>hl) (fun n=>⟨
  fun f h hl=>by
    refine Bs 0 hl fun _ _ hl=>?_;refine Bf 1 hl fun _ hl=>?_;exact Eq.mpr (A6o ..) hl,
  trivial⟩) rfl hg
theorem A6l(J:Aw2)(n_1:Int):zqe c k Bcb Ba3 (f215 J) d215 Tryz.f215 .root (Ag f 1 (.int .u8 n_1)) h=Adt c k J (f 0) n_1 h:=by kernel_rfl
theorem A9u(hc:Ch c){n:Nat}{a:List AV}(hg:f215 (Ar3 c k n) 0 (Ac a) h):zqs 215 a h k:=
 zqw hc Bcb Tryz.func215 rfl (by kernel_rfl) (by kernel_rfl) k Ba3 (fun n=>f215 (Ar3 c k n)) (fun L _ _ hl=>match L,hl with
  |0,hl=>Bg hl fun _ hl=>hl
  |_+1,hl=>hl) (fun n=>⟨
  fun f h hl=>by
    refine Bf 1 hl fun _ hl=>?_;exact Eq.mpr (A6l ..) hl,
  trivial⟩) rfl hg
theorem A6k(J:Ame)(l_0 c_0:Nat):zqe c k A3o A2w (f219 J) d219 Tryz.f219 .root (Ag f 0 (.str l_0 c_0)) h=Ads c k J l_0 c_0 (f 1) h:=by kernel_rfl
theorem A6j(J:Ame)(l_0 c_0:Nat):zqe c k A3o A2w (f219 J) d219 Tryz.f219 (.l (.l (.r .root))) (Ag f 0 (.str l_0 c_0)) h=Yz c k J l_0 c_0 (f 1) h:=by kernel_rfl
theorem A9t(hc:Ch c){n:Nat}{a:List AV}(hg:f219 (Ahs c k n) 0 (Ac a) h):zqs 219 a h k:=
 zqw hc A3o Tryz.func219 rfl (by kernel_rfl) (by kernel_rfl) k A2w (fun n=>f219 (Ahs c k n)) (fun L _ _ hl=>match L,hl with
  |0,hl=>Bt hl fun _ _ hl=>hl
  |1,hl=>Bt hl fun _ _ hl=>hl
  |_+2,hl=>hl) (fun n=>⟨
  fun f h hl=>by
    refine Bs 0 hl fun _ _ hl=>?_;exact Eq.mpr (A6k ..) hl,
  fun f h hl=>by
    refine Bs 0 hl fun _ _ hl=>?_;exact Eq.mpr (A6j ..) hl,
  trivial⟩) rfl hg
theorem A6h(J:Aw0)(l_0 c_0:Nat)(l_1 c_1:Nat):zqe c k Bb9 Ba1 (f224 J) d224 Tryz.f224 .root (Ag (Ag f 0 (.str l_0 c_0)) 1 (.str l_1 c_1)) h=Adq c k J l_0 c_0 l_1 c_1 h:=by kernel_rfl
theorem A9r(hc:Ch c){n:Nat}{a:List AV}(hg:f224 (Ar1 c k n) 0 (Ac a) h):zqs 224 a h k:=
 zqw hc Bb9 Tryz.func224 rfl (by kernel_rfl) (by kernel_rfl) k Ba1 (fun n=>f224 (Ar1 c k n)) (fun L _ _ hl=>match L,hl with
  |0,hl=>Bt hl fun _ _ hl=>Bt hl fun _ _ hl=>hl
  |_+1,hl=>hl) (fun n=>⟨
  fun f h hl=>by
    refine Bs 0 hl fun _ _ hl=>?_;refine Bs 1 hl fun _ _ hl=>?_;exact Eq.mpr (A6h ..) hl,
  trivial⟩) rfl hg
theorem Bil(hc:Ch c){m:Nat}{a:List AV}(hg:Ig env c A3n A2v d227 (Gn env Tryz.f227.results.toList k) m 0 (Ac a) h):zqs 227 a h k:=Jb mixed Jm hc A3n Tryz.func227 rfl (by kernel_rfl) (by kernel_rfl) (by kernel_rfl) (by simp[A2v]) hg
theorem Bij(hc:Ch c){m:Nat}{a:List AV}(hg:Ig env c A3l A2t d230 (Gn env Tryz.f230.results.toList k) m 0 (Ac a) h):zqs 230 a h k:=Jb mixed Jm hc A3l Tryz.func230 rfl (by kernel_rfl) (by kernel_rfl) (by kernel_rfl) (by simp[A2t]) hg
theorem A6g(J:Awz)(n_1:Int):zqe c k Bb8 Ba0 (f258 J) d258 Tryz.f258 .root (Ag f 1 (.int .i64 n_1)) h=Adp c k J (f 0) n_1 h:=by kernel_rfl
theorem A9q(hc:Ch c){n:Nat}{a:List AV}(hg:f258 (Ar0 c k n) 0 (Ac a) h):zqs 258 a h k:=
 zqw hc Bb8 Tryz.func258 rfl (by kernel_rfl) (by kernel_rfl) k Ba0 (fun n=>f258 (Ar0 c k n)) (fun L _ _ hl=>match L,hl with
  |0,hl=>Bg hl fun _ hl=>hl
  |_+1,hl=>hl) (fun n=>⟨
  fun f h hl=>by
    refine Bf 1 hl fun _ hl=>?_;exact Eq.mpr (A6g ..) hl,
  trivial⟩) rfl hg
theorem A57(J:Awx)(l_0 c_0:Nat)(l_1 c_1:Nat):zqe c k Bb6 Bay (f376 J) d376 Tryz.f376 .root (Ag (Ag f 0 (.str l_0 c_0)) 1 (.str l_1 c_1)) h=Adi c k J l_0 c_0 l_1 c_1 h:=by kernel_rfl
theorem A9n(hc:Ch c){n:Nat}{a:List AV}(hg:f376 (Ary c k n) 0 (Ac a) h):zqs 376 a h k:=
 zqw hc Bb6 Tryz.func376 rfl (by kernel_rfl) (by kernel_rfl) k Bay (fun n=>f376 (Ary c k n)) (fun L _ _ hl=>match L,hl with
  |0,hl=>Bt hl fun _ _ hl=>Bt hl fun _ _ hl=>hl
  |1,hl=>hl
  |_+2,hl=>hl) (fun n=>⟨
  fun f h hl=>by
    refine Bs 0 hl fun _ _ hl=>?_;refine Bs 1 hl fun _ _ hl=>?_;exact Eq.mpr (A57 ..) hl,
  fun _ _ hl=>False.elim hl,
  trivial⟩) rfl hg
end Go.Den
