/-
 Proof.
-/
import Derived.Test.YtcnmehbkpaoolaaGreatDoorRunE
import Derived.KernelRfl
noncomputable section
namespace Go.Den
open Go.Proofs
set_option maxRecDepth 100000
def d4:Code:=Option.rec .skip (fun c=>c) Tryz.f4.body
def q4:Aw:=[(11,[0,1,2,3,4,5,6,7,8,9,10,11,12,13,14,15,16,17,18,19,20,21,22,23,24,25,26,27,28,29,30,31,32,33,34,35,36,37,38,39,40,41,42,43,44,45,46,47,48,49,50,51,52,53,54,55,56,57,58,59,60,61,62,63,64]),(13,[0,1,2,3,4,5,6,7,8,9,10,11])]
structure J4 where
 a0:Nat→Nat→H→Prop
 a1:AV→AV→AV→Int→Int→Int→H→Prop
 a2:AV→AV→Int→AV→Int→Int→H→Prop
 a3:AV→AV→Int→AV→Int→Int→H→Prop
 a4:AV→AV→AV→Int→Int→H→Prop
def Ayh(c:CF)(k:KV)(J:J4)(l_0 c_0:Nat)(h:H):Prop:=
 cnd (Cs (Int.ofNat 1500) (Int.ofNat l_0))
 (c (.func 15) [] h fun v1 h2=>
 asB v1 fun b3=>
 k (.bool b3) h2)
 (c (.func 22) [(.str l_0 c_0)] h fun v4 h5=>
 c (.func 16) [v4] h5 fun v6 h7=>
 ext 0 v6 fun v8=>
 ext 1 v6 fun v9=>
 Ef v8 fun m10=>
 cnd (Ba (Int.ofNat m10) (Int.ofNat 0))
 (k (.bool false) h7)
 (J.a1 v4 v8 v9 (Int.ofNat 0) (Int.ofNat 0) (Int.ofNat 0) h7))
def Ayg(_c:CF)(k:KV)(J:J4)(v_3 v_4 v_5:AV)(n_6 n_7 n_8:Int)(h:H):Prop:=
 Ef v_4 fun m11=>
 cnd (Cs n_8 (Int.ofNat m11))
 (Ci n_8 fun m12=>
 Bz 7 m12 v_4 fun v13=>
 Am 5 v13 fun v14=>
 ld1 v14 h fun v15=>
 asI .i64 v15 fun n16=>
 An (fun k17=>gate false (Cs n16 n_6)
 (fI (wrap .i64 (Bn n_8 (Int.ofNat 1))) fun n20=>
 Ef v_4 fun m21=>
 An (fun k22=>gate true (Cs n20 (Int.ofNat m21))
 (Ci n_8 fun m25=>
 Bz 7 m25 v_4 fun v26=>
 Am 0 v26 fun v27=>
 ld1 v27 h fun v28=>
 asI .i64 v28 fun n29=>
 An (fun k30=>gate false (Cs n29 (Int.ofNat 1))
 (Ci n_8 fun m33=>
 Bz 7 m33 v_4 fun v34=>
 Am 0 v34 fun v35=>
 ld1 v35 h fun v36=>
 asI .i64 v36 fun n37=>
 k30 (Cs (Int.ofNat 7) n37) h)
 (k30 true h)) fun b32 h31=>
 An (fun k38=>gate false b32
 (Ci n_8 fun m41=>
 Bz 7 m41 v_4 fun v42=>
 Am 6 v42 fun v43=>
 ld1 v43 h31 fun v44=>
 asI .i64 v44 fun n45=>
 k38 (Cs n45 (Int.ofNat 1)) h31)
 (k38 true h31)) fun b40 h39=>
 An (fun k46=>gate false b40
 (Ci n_8 fun m49=>
 Bz 7 m49 v_4 fun v50=>
 Am 5 v50 fun v51=>
 ld1 v51 h39 fun v52=>
 asI .i64 v52 fun n53=>
 Ef v_3 fun m54=>
 k46 (Ex (Int.ofNat m54) n53) h39)
 (k46 true h39)) fun b48 h47=>
 An (fun k55=>gate false b48
 (Ci n_8 fun m58=>
 Bz 7 m58 v_4 fun v59=>
 Am 2 v59 fun v60=>
 ldn 3 v60 h47 fun v61=>
 Ci n_8 fun m62=>
 Bz 7 m62 v_4 fun v63=>
 Am 5 v63 fun v64=>
 ld1 v64 h47 fun v65=>
 asI .i64 v65 fun n66=>
 Ci n66 fun m67=>
 Bz 8 m67 v_3 fun v68=>
 Am 3 v68 fun v69=>
 ldn 3 v69 h47 fun v70=>
 oV (Kz env .neq 38 v61 v70) fun v71=>
 asB v71 fun b72=>
 k55 b72 h47)
 (k55 true h47)) fun b57 h56=>
 k22 b57 h56)
 (k22 false h)) fun b24 h23=>
 k17 b24 h23)
 (k17 true h)) fun b19 h18=>
 cnd b19
 (k (.bool false) h18)
 (J.a4 v_3 v_4 v_5 n_7 n_8 h18))
 (Ef v_4 fun m73=>
 fI (wrap .i64 (Jj (Int.ofNat m73) (Int.ofNat 1))) fun n74=>
 Ci n74 fun m75=>
 Bz 7 m75 v_4 fun v76=>
 ldn 7 v76 h fun v77=>
 Hp.Fx h Bc8 fun p78 h79=>
 stn 7 (.ptr p78 0) v77 h79 fun h80=>
 J.a2 v_3 v_5 n_7 (.ptr p78 0) (Int.ofNat 0) (Int.ofNat 0) h80)
def Ayf(c:CF)(k:KV)(J:J4)(v_3 v_5:AV)(n_7:Int)(v_9:AV)(n_10 n_11:Int)(h:H):Prop:=
 Ef v_3 fun m81=>
 cnd (Cs n_11 (Int.ofNat m81))
 (Ci n_11 fun m82=>
 Bz 8 m82 v_3 fun v83=>
 Am 0 v83 fun v84=>
 ld1 v84 h fun v85=>
 asI .i64 v85 fun n86=>
 An (fun k87=>gate true (Ba n86 (Int.ofNat 4))
 (Ci n_11 fun m90=>
 Bz 8 m90 v_3 fun v91=>
 Am 1 v91 fun v92=>
 ld1 v92 h fun v93=>
 asS v93 fun l94 c95=>
 Eb l94 c95 0 fun m96=>
 k87 (Da (Ba (Int.ofNat m96) (Int.ofNat 34))) h)
 (k87 false h)) fun b89 h88=>
 cnd b89
 (fI (wrap .i64 (Bn n_10 (Int.ofNat 1))) fun n97=>
 J.a3 v_3 v_5 n_7 v_9 n97 n_11 h88)
 (J.a3 v_3 v_5 n_7 v_9 n_10 n_11 h88))
 (Am 0 v_9 fun v98=>
 ld1 v98 h fun v99=>
 asI .i64 v99 fun n100=>
 An (fun k101=>gate true (Ba n100 (Int.ofNat 8))
 (Am 5 v_9 fun v104=>
 ld1 v104 h fun v105=>
 asI .i64 v105 fun n106=>
 Ef v_3 fun m107=>
 k101 (Ba n106 (Int.ofNat m107)) h)
 (k101 false h)) fun b103 h102=>
 An (fun k108=>gate true b103
 (Am 6 v_9 fun v111=>
 ld1 v111 h102 fun v112=>
 asI .i64 v112 fun n113=>
 k108 (Ba n113 (Int.ofNat 0)) h102)
 (k108 false h102)) fun b110 h109=>
 An (fun k114=>gate true b110
 (Ef v_3 fun m117=>
 k114 (Ex n_7 (Int.ofNat m117)) h109)
 (k114 false h109)) fun b116 h115=>
 An (fun k118=>gate true b116
 (Ef v_5 fun m121=>
 fI (wrap .i64 (Bn n_7 (Int.ofNat m121))) fun n122=>
 Ef v_3 fun m123=>
 k118 (Ex (Int.ofNat m123) n122) h115)
 (k118 false h115)) fun b120 h119=>
 An (fun k124=>gate true b120
 (Ef v_5 fun m127=>
 fI (wrap .i64 (Bn n_7 (Int.ofNat m127))) fun n128=>
 Ef v_3 fun m129=>
 fI (wrap .i64 (Bn (Int.ofNat m129) n_10)) fun n130=>
 k124 (Ex n128 n130) h119)
 (k124 false h119)) fun b126 h125=>
 An (fun k131=>gate true b126
 (c (.func 15) [] h125 fun v134 h135=>
 asB v134 fun b136=>
 k131 b136 h135)
 (k131 false h125)) fun b133 h132=>
 k (.bool b133) h132)
def Aye(_c:CF)(_k:KV)(J:J4)(v_3 v_5:AV)(n_7:Int)(v_9:AV)(n_10 n_11:Int)(h:H):Prop:=
 fI (wrap .i64 (Bn n_11 (Int.ofNat 1))) fun n137=>
 J.a2 v_3 v_5 n_7 v_9 n_10 n137 h
def Ayd(_c:CF)(_k:KV)(J:J4)(v_3 v_4 v_5:AV)(n_7 n_8:Int)(h:H):Prop:=
 Ci n_8 fun m138=>
 Bz 7 m138 v_4 fun v139=>
 Am 5 v139 fun v140=>
 ld1 v140 h fun v141=>
 asI .i64 v141 fun n142=>
 Ci n_8 fun m143=>
 Bz 7 m143 v_4 fun v144=>
 Am 6 v144 fun v145=>
 ld1 v145 h fun v146=>
 asI .i64 v146 fun n147=>
 fI (wrap .i64 (Bn n142 n147)) fun n148=>
 Ci n_8 fun m149=>
 Bz 7 m149 v_4 fun v150=>
 Am 6 v150 fun v151=>
 ld1 v151 h fun v152=>
 asI .i64 v152 fun n153=>
 fI (wrap .i64 (Bn n_7 n153)) fun n154=>
 fI (wrap .i64 (Bn n_8 (Int.ofNat 1))) fun n155=>
 J.a1 v_3 v_4 v_5 n148 n154 n155 h
def z4:J4:=⟨fun _ _ _=>False,fun _ _ _ _ _ _ _=>False,fun _ _ _ _ _ _ _=>False,fun _ _ _ _ _ _ _=>False,fun _ _ _ _ _ _=>False⟩
def r4(c:CF)(k:KV)(m:Nat):J4:=Nat.rec z4 (fun _ J=>⟨Ayh c k J,Ayg c k J,Ayf c k J,Aye c k J,Ayd c k J⟩) m
def f4(J:J4):Jump:=fun L f h=>match L with
 |0=>asS (f 0) fun l_0 c_0=>J.a0 l_0 c_0 h
 |1=>asI .i64 (f 6) fun n_6=>asI .i64 (f 7) fun n_7=>asI .i64 (f 8) fun n_8=>J.a1 (f 3) (f 4) (f 5) n_6 n_7 n_8 h
 |2=>asI .i64 (f 7) fun n_7=>asI .i64 (f 10) fun n_10=>asI .i64 (f 11) fun n_11=>J.a2 (f 3) (f 5) n_7 (f 9) n_10 n_11 h
 |3=>asI .i64 (f 7) fun n_7=>asI .i64 (f 10) fun n_10=>asI .i64 (f 11) fun n_11=>J.a3 (f 3) (f 5) n_7 (f 9) n_10 n_11 h
 |4=>asI .i64 (f 7) fun n_7=>asI .i64 (f 8) fun n_8=>J.a4 (f 3) (f 4) (f 5) n_7 n_8 h
 |_=>False
def u4:Bu:=[(.root,0),((.l (.r (.l (.r (.r (.r (.r (.r (.r .root))))))))),1),((.l (.r (.l (.r (.r (.r (.r (.r (.r (.r (.r (.r .root)))))))))))),2),((.r (.r (.l (.l (.r (.l (.r (.r (.r (.r (.r (.r (.r (.r (.r .root))))))))))))))),3),((.r (.l (.l (.r (.l (.l (.r (.l (.r (.r (.r (.r (.r (.r .root)))))))))))))),4)]
section
variable{c:CF}{k:KV}{f:FT}{h:H}
theorem Blg(J:J4)(l_0 c_0:Nat):zqe c k q4 u4 (f4 J) d4 Tryz.f4 .root (Ag f 0 (.str l_0 c_0)) h=Ayh c k J l_0 c_0 h:=by kernel_rfl
theorem Blf(J:J4)(n_6 n_7 n_8:Int):zqe c k q4 u4 (f4 J) d4 Tryz.f4 (.l (.r (.l (.r (.r (.r (.r (.r (.r .root))))))))) (Ag (Ag (Ag f 6 (.int .i64 n_6)) 7 (.int .i64 n_7)) 8 (.int .i64 n_8)) h=Ayg c k J (f 3) (f 4) (f 5) n_6 n_7 n_8 h:=by kernel_rfl
theorem Ble(J:J4)(n_7 n_10 n_11:Int):zqe c k q4 u4 (f4 J) d4 Tryz.f4 (.l (.r (.l (.r (.r (.r (.r (.r (.r (.r (.r (.r .root)))))))))))) (Ag (Ag (Ag f 7 (.int .i64 n_7)) 10 (.int .i64 n_10)) 11 (.int .i64 n_11)) h=Ayf c k J (f 3) (f 5) n_7 (f 9) n_10 n_11 h:=by kernel_rfl
theorem Blc(J:J4)(n_7 n_10 n_11:Int):zqe c k q4 u4 (f4 J) d4 Tryz.f4 (.r (.r (.l (.l (.r (.l (.r (.r (.r (.r (.r (.r (.r (.r (.r .root))))))))))))))) (Ag (Ag (Ag f 7 (.int .i64 n_7)) 10 (.int .i64 n_10)) 11 (.int .i64 n_11)) h=Aye c k J (f 3) (f 5) n_7 (f 9) n_10 n_11 h:=by kernel_rfl
theorem Blb(J:J4)(n_7 n_8:Int):zqe c k q4 u4 (f4 J) d4 Tryz.f4 (.r (.l (.l (.r (.l (.l (.r (.l (.r (.r (.r (.r (.r (.r .root)))))))))))))) (Ag (Ag f 7 (.int .i64 n_7)) 8 (.int .i64 n_8)) h=Ayd c k J (f 3) (f 4) (f 5) n_7 n_8 h:=by kernel_rfl
theorem w4(hc:Ch c){n:Nat}{a:List AV}(hg:f4 (r4 c k n) 0 (Ac a) h):zqs 4 a h k:=
 zqw hc q4 Tryz.func4 rfl (by kernel_rfl) (by kernel_rfl) k u4 (fun n=>f4 (r4 c k n)) (fun L _ _ hl=>match L,hl with
  |0,hl=>Bt hl fun _ _ hl=>hl
  |1,hl=>Bg hl fun _ hl=>Bg hl fun _ hl=>Bg hl fun _ hl=>hl
  |2,hl=>Bg hl fun _ hl=>Bg hl fun _ hl=>Bg hl fun _ hl=>hl
  |3,hl=>Bg hl fun _ hl=>Bg hl fun _ hl=>Bg hl fun _ hl=>hl
  |4,hl=>Bg hl fun _ hl=>Bg hl fun _ hl=>hl
  |_+5,hl=>hl) (fun n=>⟨
  fun f h hl=>by
    refine Bs 0 hl fun _ _ hl=>?_;exact Eq.mpr (Blg ..) hl,
  fun f h hl=>by
    refine Bf 6 hl fun _ hl=>?_;refine Bf 7 hl fun _ hl=>?_;refine Bf 8 hl fun _ hl=>?_;exact Eq.mpr (Blf ..) hl,
  fun f h hl=>by
    refine Bf 7 hl fun _ hl=>?_;refine Bf 10 hl fun _ hl=>?_;refine Bf 11 hl fun _ hl=>?_;exact Eq.mpr (Ble ..) hl,
  fun f h hl=>by
    refine Bf 7 hl fun _ hl=>?_;refine Bf 10 hl fun _ hl=>?_;refine Bf 11 hl fun _ hl=>?_;exact Eq.mpr (Blc ..) hl,
  fun f h hl=>by
    refine Bf 7 hl fun _ hl=>?_;refine Bf 8 hl fun _ hl=>?_;exact Eq.mpr (Blb ..) hl,
  trivial⟩) rfl hg
end
theorem g4{c:CF}{k:KV}{n l_0 c_0:Nat}{h:H}(hg:Ayh c k (r4 c k n) l_0 c_0 h):f4 (r4 c k (n+1)) 0 (Ac [.str l_0 c_0]) h:=hg
theorem Bjl{c:CF}{k:KV}{n:Nat}{x0 x1 x2:AV}{x3 x4 x5:Int}{h:H}(hg:Ayg c k (r4 c k n) x0 x1 x2 x3 x4 x5 h):(r4 c k (n+1)).a1 x0 x1 x2 x3 x4 x5 h:=hg
theorem Bjk{c:CF}{k:KV}{n:Nat}{x0 x1:AV}{x2:Int}{x3:AV}{x4 x5:Int}{h:H}(hg:Ayf c k (r4 c k n) x0 x1 x2 x3 x4 x5 h):(r4 c k (n+1)).a2 x0 x1 x2 x3 x4 x5 h:=hg
theorem Bjj{c:CF}{k:KV}{n:Nat}{x0 x1:AV}{x2:Int}{x3:AV}{x4 x5:Int}{h:H}(hg:Aye c k (r4 c k n) x0 x1 x2 x3 x4 x5 h):(r4 c k (n+1)).a3 x0 x1 x2 x3 x4 x5 h:=hg
theorem Bji{c:CF}{k:KV}{n:Nat}{x0 x1 x2:AV}{x3 x4:Int}{h:H}(hg:Ayd c k (r4 c k n) x0 x1 x2 x3 x4 h):(r4 c k (n+1)).a4 x0 x1 x2 x3 x4 h:=hg
end Go.Den
