/-
 Proof.
-/
import Derived.Test.YtcnmehbkpaoolaaGreatDoorRunE
import Derived.KernelRfl
noncomputable section
namespace Go.Den
set_option maxRecDepth 100000
def Wy:Ob FT:=rowOf 103 [(.int .i64 (Int.ofNat 0)),(.str 0 0),(.str 0 0),(.int .i64 (Int.ofNat 0)),(.int .i64 (Int.ofNat 0)),(.int .i64 (Int.ofNat 0)),(.int .i64 (Int.ofNat 0))]
def Ahr:Ob FT:=rowOf 58 [(.int .u64 (Int.ofNat 0)),(.bool false)]
end Go.Den
noncomputable section
namespace Go.Den
open Go.Proofs
set_option maxRecDepth 100000
def d14:Code:=Option.rec .skip (fun c=>c) Tryz.f14.body
def q14:Aw:=[]
structure J14 where
 a0:AV→Int→H→Prop
 a1:AV→Int→H→Prop
def Aoc(_c:CF)(k:KV)(J:J14)(v_0:AV)(n_1:Int)(h:H):Prop:=
 Gn v_0 fun m1=>
 cnd (Cl n_1 (Int.ofNat m1))
 (k (.bool false) h)
 (J.a1 v_0 (Int.ofNat 0) h)
def Aob(_c:CF)(k:KV)(J:J14)(v_0:AV)(n_5:Int)(h:H):Prop:=
 Gn v_0 fun m2=>
 cnd (Cl n_5 (Int.ofNat m2))
 (Bz n_5 fun m3=>
 Dd 8 m3 v_0 fun v4=>
 As 1 v4 fun v5=>
 ld1 v5 h fun v6=>
 asS v6 fun l7 _=>
 Ao (fun k9=>gate false (Cl (Int.ofNat 300) (Int.ofNat l7))
 (Bz n_5 fun m12=>
 Dd 8 m12 v_0 fun v13=>
 As 7 v13 fun v14=>
 ld1 v14 h fun v15=>
 Gn v15 fun m16=>
 k9 (Cl (Int.ofNat 20) (Int.ofNat m16)) h)
 (k9 true h)) fun b11 h10=>
 cnd b11
 (k (.bool false) h10)
 (fI (wrap .i64 (Cd n_5 (Int.ofNat 1))) fun n17=>
 J.a1 v_0 n17 h10))
 (k (.bool true) h)
def z14:J14:=⟨fun _ _ _=>False,fun _ _ _=>False⟩
def r14(c:CF)(k:KV)(m:Nat):J14:=Nat.rec z14 (fun _ J=>⟨Aoc c k J,Aob c k J⟩) m
def f14(J:J14):Jump:=fun L f h=>match L with
 |0=>asI .i64 (f 1) fun n_1=>J.a0 (f 0) n_1 h
 |1=>asI .i64 (f 5) fun n_5=>J.a1 (f 0) n_5 h
 |_=>False
def u14:Bm:=[(.root,0),((.l (.r (.l (.r (.r .root))))),1)]
section
variable{c:CF}{k:KV}{f:FT}{h:H}
theorem Bfr(J:J14)(n_1:Int):zqe c k q14 u14 (f14 J) d14 Tryz.f14 .root (Ae f 1 (.int .i64 n_1)) h=Aoc c k J (f 0) n_1 h:=by kernel_rfl
theorem Bfq(J:J14)(n_5:Int):zqe c k q14 u14 (f14 J) d14 Tryz.f14 (.l (.r (.l (.r (.r .root))))) (Ae f 5 (.int .i64 n_5)) h=Aob c k J (f 0) n_5 h:=by kernel_rfl
theorem w14(hc:Bv c){n:Nat}{a:List AV}(hg:f14 (r14 c k n) 0 (Ab a) h):zqs 14 a h k:=
 zqw hc q14 Tryz.func14 rfl (by kernel_rfl) (by kernel_rfl) k u14 (fun n=>f14 (r14 c k n)) (fun L _ _ hl=>match L,hl with
  |0,hl=>Bf hl fun _ hl=>hl
  |1,hl=>Bf hl fun _ hl=>hl
  |_+2,hl=>hl) (fun n=>⟨
  fun f h hl=>by
    refine Be 1 hl fun _ hl=>?_;exact Eq.mpr (Bfr ..) hl,
  fun f h hl=>by
    refine Be 5 hl fun _ hl=>?_;exact Eq.mpr (Bfq ..) hl,
  trivial⟩) rfl hg
end
theorem g14{c:CF}{k:KV}{n:Nat}{n_1:Int}{v_0:AV}{h:H}(hg:Aoc c k (r14 c k n) v_0 n_1 h):f14 (r14 c k (n+1)) 0 (Ab [v_0,.int .i64 n_1]) h:=hg
theorem Bcy{c:CF}{k:KV}{n:Nat}{x0:AV}{x1:Int}{h:H}(hg:Aob c k (r14 c k n) x0 x1 h):(r14 c k (n+1)).a1 x0 x1 h:=hg
end Go.Den
noncomputable section
namespace Go.Den
open Go.Proofs
set_option maxRecDepth 100000
def d17:Code:=Option.rec .skip (fun c=>c) Tryz.f17.body
def q17:Aw:=[]
structure J17 where
 a0:AV→H→Prop
 a1:AV→AV→AV→Int→H→Prop
 a2:AV→AV→AV→AV→AV→Nat→Nat→Nat→Nat→Bool→Int→Int→H→Prop
 a3:AV→AV→AV→AV→AV→Nat→Nat→Nat→Nat→Bool→Int→Nat→Nat→H→Prop
 a4:AV→AV→AV→AV→AV→Nat→Nat→Nat→Nat→Bool→Int→Nat→Nat→Nat→Nat→H→Prop
 a5:AV→AV→AV→AV→AV→Nat→Nat→Nat→Nat→Bool→Int→Int→H→Prop
 a6:AV→AV→AV→AV→AV→Nat→Nat→Nat→Nat→Int→H→Prop
 a7:AV→AV→AV→Int→AV→AV→H→Prop
 a8:AV→AV→AV→Int→H→Prop
def An7(_c:CF)(_k:KV)(J:J17)(v_0:AV)(h:H):Prop:=
 J.a1 v_0 .Af .Af (Int.ofNat 0) h
def An6(c:CF)(k:KV)(J:J17)(v_0 v_4 v_5:AV)(n_6:Int)(h:H):Prop:=
 Gn v_0 fun m1=>
 cnd (Cl n_6 (Int.ofNat m1))
 (Bz n_6 fun m2=>
 Dd 8 m2 v_0 fun v3=>
 ldn 8 v3 h fun v4=>
 Hp.Fi h A34 fun p5 h6=>
 stn 8 (.ptr p5 0) v4 h6 fun h7=>
 As 1 (.ptr p5 0) fun v8=>
 ld1 v8 h7 fun v9=>
 asS v9 fun l10 c11=>
 As 3 (.ptr p5 0) fun v12=>
 ldn 3 v12 h7 fun v13=>
 oK (Bo env (env.ty 103) [(1,(.str l10 c11)),(2,v13),(3,(.int .i64 n_6)),(4,(.int .i64 (Int.ofNat 1)))] h7) fun v14 h15=>
 Hp.Fi h15 Wy fun p16 h17=>
 stn 7 (.ptr p16 0) v14 h17 fun h18=>
 As 0 (.ptr p5 0) fun v19=>
 ld1 v19 h18 fun v20=>
 asI .i64 v20 fun n21=>
 cnd (Ba n21 (Int.ofNat 7))
 (J.a8 v_0 v_4 v_5 n_6 h18)
 (cnd (Ba n21 (Int.ofNat 1))
 (As 0 (.ptr p16 0) fun v22=>
 st1 v22 (.int .i64 (Int.ofNat 1)) h18 fun h23=>
 As 1 (.ptr p5 0) fun v24=>
 ld1 v24 h23 fun v25=>
 asS v25 fun l26 c27=>
 c (.func 21) [(.str l26 c27)] h23 fun v28 h29=>
 asB v28 fun b30=>
 cnd b30
 (As 0 (.ptr p16 0) fun v31=>
 st1 v31 (.int .i64 (Int.ofNat 2)) h29 fun h32=>
 J.a7 v_0 v_4 v_5 n_6 (.ptr p5 0) (.ptr p16 0) h32)
 (J.a7 v_0 v_4 v_5 n_6 (.ptr p5 0) (.ptr p16 0) h29))
 (cnd (Ba n21 (Int.ofNat 2))
 (As 1 (.ptr p5 0) fun v33=>
 ld1 v33 h18 fun v34=>
 asS v34 fun l35 c36=>
 c (.func 37) [(.str l35 c36)] h18 fun v37 h38=>
 ext 0 v37 fun v39=>
 ext 1 v37 fun v40=>
 asB v40 fun b41=>
 Hp.Fi h38 Ahr fun p42 h43=>
 stn 2 (.ptr p42 0) v39 h43 fun h44=>
 cnd b41
 (As 0 (.ptr p16 0) fun v45=>
 st1 v45 (.int .i64 (Int.ofNat 3)) h44 fun h46=>
 J.a7 v_0 v_4 v_5 n_6 (.ptr p5 0) (.ptr p16 0) h46)
 (As 1 (.ptr p5 0) fun v47=>
 ld1 v47 h44 fun v48=>
 asS v48 fun l49 c50=>
 c (.func 38) [(.str l49 c50)] h44 fun v51 h52=>
 asB v51 fun b53=>
 cnd b53
 (As 0 (.ptr p16 0) fun v54=>
 st1 v54 (.int .i64 (Int.ofNat 4)) h52 fun h55=>
 J.a7 v_0 v_4 v_5 n_6 (.ptr p5 0) (.ptr p16 0) h55)
 (J.a7 v_0 v_4 v_5 n_6 (.ptr p5 0) (.ptr p16 0) h52)))
 (cnd (Ba n21 (Int.ofNat 3))
 (As 1 (.ptr p5 0) fun v56=>
 ld1 v56 h18 fun v57=>
 asS v57 fun l58 c59=>
 c (.func 39) [(.str l58 c59)] h18 fun v60 h61=>
 ext 0 v60 fun v62=>
 ext 1 v60 fun v63=>
 asB v63 fun b64=>
 Hp.Fi h61 Ahr fun p65 h66=>
 stn 2 (.ptr p65 0) v62 h66 fun h67=>
 cnd b64
 (As 0 (.ptr p16 0) fun v68=>
 st1 v68 (.int .i64 (Int.ofNat 5)) h67 fun h69=>
 J.a7 v_0 v_4 v_5 n_6 (.ptr p5 0) (.ptr p16 0) h69)
 (J.a7 v_0 v_4 v_5 n_6 (.ptr p5 0) (.ptr p16 0) h67))
 (cnd (Ba n21 (Int.ofNat 5))
 (As 1 (.ptr p5 0) fun v70=>
 ld1 v70 h18 fun v71=>
 asS v71 fun l72 c73=>
 c (.func 40) [(.str l72 c73)] h18 fun v74 h75=>
 ext 0 v74 fun v76=>
 asS v76 fun l77 c78=>
 ext 1 v74 fun v79=>
 asB v79 fun b80=>
 As 1 (.ptr p16 0) fun v81=>
 st1 v81 (.str l77 c78) h75 fun h82=>
 cnd b80
 (As 0 (.ptr p16 0) fun v83=>
 st1 v83 (.int .i64 (Int.ofNat 7)) h82 fun h84=>
 J.a7 v_0 v_4 v_5 n_6 (.ptr p5 0) (.ptr p16 0) h84)
 (J.a7 v_0 v_4 v_5 n_6 (.ptr p5 0) (.ptr p16 0) h82))
 (cnd (Ba n21 (Int.ofNat 4))
 (As 1 (.ptr p5 0) fun v85=>
 ld1 v85 h18 fun v86=>
 asS v86 fun l87 c88=>
 c (.func 41) [(.str l87 c88)] h18 fun v89 h90=>
 ext 0 v89 fun v91=>
 asS v91 fun l92 c93=>
 ext 1 v89 fun v94=>
 asB v94 fun b95=>
 cnd (Cn b95)
 (J.a7 v_0 v_4 v_5 n_6 (.ptr p5 0) (.ptr p16 0) h90)
 (As 1 (.ptr p5 0) fun v96=>
 ld1 v96 h90 fun v97=>
 asS v97 fun l98 c99=>
 c (.func 42) [(.str l98 c99)] h90 fun v100 h101=>
 asS v100 fun l102 c103=>
 fI (wrap .i64 (Cd n_6 (Int.ofNat 1))) fun n104=>
 J.a2 v_0 v_4 v_5 (.ptr p5 0) (.ptr p16 0) l92 c93 l102 c103 false n_6 n104 h101))
 (J.a7 v_0 v_4 v_5 n_6 (.ptr p5 0) (.ptr p16 0) h18)))))))
 (Gn v_0 fun m105=>
 oK (Bo env (env.ty 103) [(0,(.int .i64 (Int.ofNat 8))),(3,(.int .i64 (Int.ofNat m105)))] h) fun v106 h107=>
 oK (Au env 29 (fun e ei=>Ak 1 [(0,v106)] h107 e ei)) fun v108 h109=>
 oK (Az env .append [29,29] [v_4,v108] h109) fun v110 h111=>
 k (.tuple [v110,v_5]) h111)
def An5(c:CF)(_k:KV)(J:J17)(v_0 v_4:AV)(v_5 v_7 v_8:AV)(l_15 c_15:Nat)(l_17 c_17:Nat)(b_18:Bool)(n_19 n_20:Int)(h:H):Prop:=
 Gn v_0 fun m112=>
 cnd (Cl n_20 (Int.ofNat m112))
 (Bz n_20 fun m113=>
 Dd 8 m113 v_0 fun v114=>
 As 0 v114 fun v115=>
 ld1 v115 h fun v116=>
 asI .i64 v116 fun n117=>
 cnd (Ba n117 (Int.ofNat 7))
 (J.a5 v_0 v_4 v_5 v_7 v_8 l_15 c_15 l_17 c_17 b_18 n_19 n_20 h)
 (Bz n_20 fun m118=>
 Dd 8 m118 v_0 fun v119=>
 As 1 v119 fun v120=>
 ld1 v120 h fun v121=>
 asS v121 fun l122 c123=>
 c (.func 41) [(.str l122 c123)] h fun v124 h125=>
 ext 0 v124 fun v126=>
 asS v126 fun l127 Bgc=>
 ext 1 v124 fun v129=>
 asB v129 fun b130=>
 Bz n_20 fun m131=>
 Dd 8 m131 v_0 fun v132=>
 As 0 v132 fun v133=>
 ld1 v133 h125 fun v134=>
 asI .i64 v134 fun n135=>
 Ao (fun k136=>gate false (Cn (Ba n135 (Int.ofNat 4)))
 (k136 (Cn b130) h125)
 (k136 true h125)) fun b138 h137=>
 cnd b138
 (J.a6 v_0 v_4 v_5 v_7 v_8 l_15 c_15 l_17 c_17 n_19 h137)
 (Bz n_20 fun m139=>
 Dd 8 m139 v_0 fun v140=>
 As 1 v140 fun v141=>
 ld1 v141 h137 fun v142=>
 asS v142 fun l143 c144=>
 c (.func 42) [(.str l143 c144)] h137 fun v145 h146=>
 asS v145 fun l147 c148=>
 Ao (fun k149=>gate true (Cn (Bg l147 c148 0 0))
 (k149 (Cn (Bg l_17 c_17 0 0)) h146)
 (k149 false h146)) fun b151 h150=>
 Ao (fun k152=>gate true b151
 (k152 (Cn (Bg l147 c148 l_17 c_17)) h150)
 (k152 false h150)) fun b154 h153=>
 Ao (fun k155=>gate true b154
 (k155 (Cn b_18) h153)
 (k155 false h153)) fun b157 h156=>
 cnd b157
 (Bz n_20 fun m158=>
 Dd 8 m158 v_0 fun v159=>
 As 3 v159 fun v160=>
 ldn 3 v160 h156 fun v161=>
 oK (Bo env (env.ty 48) [(0,(.int .i64 (Int.ofNat 19))),(1,v161)] h156) fun v162 h163=>
 oK (Au env 26 (fun e ei=>Ak 1 [(0,v162)] h163 e ei)) fun v164 h165=>
 oK (Az env .append [26,26] [v_5,v164] h165) fun v166 h167=>
 J.a4 v_0 v_4 v166 v_7 v_8 l_15 c_15 l_17 c_17 true n_20 l127 Bgc l147 c148 h167)
 (J.a4 v_0 v_4 v_5 v_7 v_8 l_15 c_15 l_17 c_17 b_18 n_20 l127 Bgc l147 c148 h156))))
 (J.a6 v_0 v_4 v_5 v_7 v_8 l_15 c_15 l_17 c_17 n_19 h)
def An4(_c:CF)(_k:KV)(J:J17)(v_0 v_4:AV)(v_5 v_7 v_8:AV)(l_15 c_15:Nat)(l_17 c_17:Nat)(b_18:Bool)(n_20:Int)(l_21 c_21:Nat)(h:H):Prop:=
 Abu l_15 c_15 l_21 c_21 fun l168 c169=>
 As 6 v_8 fun v170=>
 ld1 v170 h fun v171=>
 asI .i64 v171 fun n172=>
 fI (wrap .i64 (Cd n172 (Int.ofNat 1))) fun n173=>
 As 6 v_8 fun v174=>
 st1 v174 (.int .i64 n173) h fun h175=>
 J.a5 v_0 v_4 v_5 v_7 v_8 l168 c169 l_17 c_17 b_18 n_20 n_20 h175
def An3(_c:CF)(_k:KV)(J:J17)(v_0 v_4:AV)(v_5 v_7 v_8:AV)(l_15 c_15:Nat)(l_17 c_17:Nat)(b_18:Bool)(n_20:Int)(l_21 c_21:Nat)(l_23 c_23:Nat)(h:H):Prop:=
 cnd (Bg l_17 c_17 0 0)
 (J.a3 v_0 v_4 v_5 v_7 v_8 l_15 c_15 l_23 c_23 b_18 n_20 l_21 c_21 h)
 (J.a3 v_0 v_4 v_5 v_7 v_8 l_15 c_15 l_17 c_17 b_18 n_20 l_21 c_21 h)
def An2(_c:CF)(_k:KV)(J:J17)(v_0 v_4:AV)(v_5 v_7 v_8:AV)(l_15 c_15:Nat)(l_17 c_17:Nat)(b_18:Bool)(n_19 n_20:Int)(h:H):Prop:=
 fI (wrap .i64 (Cd n_20 (Int.ofNat 1))) fun n176=>
 J.a2 v_0 v_4 v_5 v_7 v_8 l_15 c_15 l_17 c_17 b_18 n_19 n176 h
def An1(c:CF)(_k:KV)(J:J17)(v_0 v_4:AV)(v_5 v_7 v_8:AV)(l_15 c_15:Nat)(l_17 c_17:Nat)(n_19:Int)(h:H):Prop:=
 As 0 v_8 fun v177=>
 st1 v177 (.int .i64 (Int.ofNat 6)) h fun h178=>
 c (.func 24) [(.str l_15 c_15)] h178 fun v179 h180=>
 asS v179 fun l181 Bk0=>
 Abu l_17 c_17 l181 Bk0 fun l183 Bkz=>
 As 1 v_8 fun v185=>
 st1 v185 (.str l183 Bkz) h180 fun h186=>
 J.a7 v_0 v_4 v_5 n_19 v_7 v_8 h186
def An0(_c:CF)(_k:KV)(J:J17)(v_0 v_4 v_5:AV)(n_6:Int)(v_7 v_8:AV)(h:H):Prop:=
 As 0 v_8 fun v187=>
 ld1 v187 h fun v188=>
 asI .i64 v188 fun n189=>
 cnd (Ba n189 (Int.ofNat 0))
 (As 3 v_7 fun v190=>
 ldn 3 v190 h fun v191=>
 oK (Bo env (env.ty 48) [(0,(.int .i64 (Int.ofNat 19))),(1,v191)] h) fun v192 h193=>
 oK (Au env 26 (fun e ei=>Ak 1 [(0,v192)] h193 e ei)) fun v194 h195=>
 oK (Az env .append [26,26] [v_5,v194] h195) fun v196 h197=>
 J.a8 v_0 v_4 v196 n_6 h197)
 (ldn 7 v_8 h fun v198=>
 oK (Au env 29 (fun e ei=>Ak 1 [(0,v198)] h e ei)) fun v199 h200=>
 oK (Az env .append [29,29] [v_4,v199] h200) fun v201 h202=>
 J.a8 v_0 v201 v_5 n_6 h202)
def Anz(_c:CF)(_k:KV)(J:J17)(v_0 v_4 v_5:AV)(n_6:Int)(h:H):Prop:=
 fI (wrap .i64 (Cd n_6 (Int.ofNat 1))) fun n203=>
 J.a1 v_0 v_4 v_5 n203 h
def z17:J17:=⟨fun _ _=>False,fun _ _ _ _ _=>False,fun _ _ _ _ _ _ _ _ _ _ _ _ _=>False,fun _ _ _ _ _ _ _ _ _ _ _ _ _ _=>False,fun _ _ _ _ _ _ _ _ _ _ _ _ _ _ _ _=>False,fun _ _ _ _ _ _ _ _ _ _ _ _ _=>False,fun _ _ _ _ _ _ _ _ _ _ _=>False,fun _ _ _ _ _ _ _=>False,fun _ _ _ _ _=>False⟩
def r17(c:CF)(k:KV)(m:Nat):J17:=Nat.rec z17 (fun _ J=>⟨An7 c k J,An6 c k J,An5 c k J,An4 c k J,An3 c k J,An2 c k J,An1 c k J,An0 c k J,Anz c k J⟩) m
def f17(J:J17):Jump:=fun L f h=>match L with
 |0=>J.a0 (f 0) h
 |1=>asI .i64 (f 6) fun n_6=>J.a1 (f 0) (f 4) (f 5) n_6 h
 |2=>asS (f 15) fun l_15 c_15=>asS (f 17) fun l_17 c_17=>asB (f 18) fun b_18=>asI .i64 (f 19) fun n_19=>asI .i64 (f 20) fun n_20=>J.a2 (f 0) (f 4) (f 5) (f 7) (f 8) l_15 c_15 l_17 c_17 b_18 n_19 n_20 h
 |3=>asS (f 15) fun l_15 c_15=>asS (f 17) fun l_17 c_17=>asB (f 18) fun b_18=>asI .i64 (f 20) fun n_20=>asS (f 21) fun l_21 c_21=>J.a3 (f 0) (f 4) (f 5) (f 7) (f 8) l_15 c_15 l_17 c_17 b_18 n_20 l_21 c_21 h
 |4=>asS (f 15) fun l_15 c_15=>asS (f 17) fun l_17 c_17=>asB (f 18) fun b_18=>asI .i64 (f 20) fun n_20=>asS (f 21) fun l_21 c_21=>asS (f 23) fun l_23 c_23=>J.a4 (f 0) (f 4) (f 5) (f 7) (f 8) l_15 c_15 l_17 c_17 b_18 n_20 l_21 c_21 l_23 c_23 h
 |5=>asS (f 15) fun l_15 c_15=>asS (f 17) fun l_17 c_17=>asB (f 18) fun b_18=>asI .i64 (f 19) fun n_19=>asI .i64 (f 20) fun n_20=>J.a5 (f 0) (f 4) (f 5) (f 7) (f 8) l_15 c_15 l_17 c_17 b_18 n_19 n_20 h
 |6=>asS (f 15) fun l_15 c_15=>asS (f 17) fun l_17 c_17=>asI .i64 (f 19) fun n_19=>J.a6 (f 0) (f 4) (f 5) (f 7) (f 8) l_15 c_15 l_17 c_17 n_19 h
 |7=>asI .i64 (f 6) fun n_6=>J.a7 (f 0) (f 4) (f 5) n_6 (f 7) (f 8) h
 |8=>asI .i64 (f 6) fun n_6=>J.a8 (f 0) (f 4) (f 5) n_6 h
 |_=>False
def u17:Bm:=[(.root,0),((.l (.r (.l (.r (.r (.r .root)))))),1),((.l (.r (.l (.r (.r (.r (.r (.r (.l (.r (.r (.r (.r (.r (.r (.r (.r (.r (.r (.r (.l (.r (.l (.r (.r (.l (.l (.r (.l (.l (.r (.l (.r (.r (.r .root))))))))))))))))))))))))))))))))))),2),((.r (.r (.r (.r (.r (.r (.l (.l (.r (.l (.l (.r (.l (.r (.r (.r (.r (.r (.l (.r (.r (.r (.r (.r (.r (.r (.r (.r (.r (.r (.l (.r (.l (.r (.r (.l (.l (.r (.l (.l (.r (.l (.r (.r (.r .root))))))))))))))))))))))))))))))))))))))))))))),3),((.r (.r (.r (.r (.r (.l (.l (.r (.l (.l (.r (.l (.r (.r (.r (.r (.r (.l (.r (.r (.r (.r (.r (.r (.r (.r (.r (.r (.r (.l (.r (.l (.r (.r (.l (.l (.r (.l (.l (.r (.l (.r (.r (.r .root)))))))))))))))))))))))))))))))))))))))))))),4),((.r (.r (.l (.l (.r (.l (.r (.r (.r (.r (.r (.l (.r (.r (.r (.r (.r (.r (.r (.r (.r (.r (.r (.l (.r (.l (.r (.r (.l (.l (.r (.l (.l (.r (.l (.r (.r (.r .root)))))))))))))))))))))))))))))))))))))),5),((.r (.r (.r (.r (.r (.r (.l (.r (.r (.r (.r (.r (.r (.r (.r (.r (.r (.r (.l (.r (.l (.r (.r (.l (.l (.r (.l (.l (.r (.l (.r (.r (.r .root))))))))))))))))))))))))))))))))),6),((.r (.r (.r (.l (.l (.r (.l (.l (.r (.l (.r (.r (.r .root))))))))))))),7),((.r (.r (.l (.l (.r (.l (.r (.r (.r .root))))))))),8)]
section
variable{c:CF}{k:KV}{f:FT}{h:H}
theorem Bfm(J:J17):zqe c k q17 u17 (f17 J) d17 Tryz.f17 .root f h=An7 c k J (f 0) h:=by kernel_rfl
theorem Bfl(J:J17)(n_6:Int):zqe c k q17 u17 (f17 J) d17 Tryz.f17 (.l (.r (.l (.r (.r (.r .root)))))) (Ae f 6 (.int .i64 n_6)) h=An6 c k J (f 0) (f 4) (f 5) n_6 h:=by kernel_rfl
theorem Bfk(J:J17)(l_15 c_15:Nat)(l_17 c_17:Nat)(b_18:Bool)(n_19 n_20:Int):zqe c k q17 u17 (f17 J) d17 Tryz.f17 (.l (.r (.l (.r (.r (.r (.r (.r (.l (.r (.r (.r (.r (.r (.r (.r (.r (.r (.r (.r (.l (.r (.l (.r (.r (.l (.l (.r (.l (.l (.r (.l (.r (.r (.r .root))))))))))))))))))))))))))))))))))) (Ae (Ae (Ae (Ae (Ae f 15 (.str l_15 c_15)) 17 (.str l_17 c_17)) 18 (.bool b_18)) 19 (.int .i64 n_19)) 20 (.int .i64 n_20)) h=An5 c k J (f 0) (f 4) (f 5) (f 7) (f 8) l_15 c_15 l_17 c_17 b_18 n_19 n_20 h:=by kernel_rfl
theorem Bfj(J:J17)(l_15 c_15:Nat)(l_17 c_17:Nat)(b_18:Bool)(n_20:Int)(l_21 c_21:Nat):zqe c k q17 u17 (f17 J) d17 Tryz.f17 (.r (.r (.r (.r (.r (.r (.l (.l (.r (.l (.l (.r (.l (.r (.r (.r (.r (.r (.l (.r (.r (.r (.r (.r (.r (.r (.r (.r (.r (.r (.l (.r (.l (.r (.r (.l (.l (.r (.l (.l (.r (.l (.r (.r (.r .root))))))))))))))))))))))))))))))))))))))))))))) (Ae (Ae (Ae (Ae (Ae f 15 (.str l_15 c_15)) 17 (.str l_17 c_17)) 18 (.bool b_18)) 20 (.int .i64 n_20)) 21 (.str l_21 c_21)) h=An4 c k J (f 0) (f 4) (f 5) (f 7) (f 8) l_15 c_15 l_17 c_17 b_18 n_20 l_21 c_21 h:=by kernel_rfl
theorem Bfi(J:J17)(l_15 c_15:Nat)(l_17 c_17:Nat)(b_18:Bool)(n_20:Int)(l_21 c_21:Nat)(l_23 c_23:Nat):zqe c k q17 u17 (f17 J) d17 Tryz.f17 (.r (.r (.r (.r (.r (.l (.l (.r (.l (.l (.r (.l (.r (.r (.r (.r (.r (.l (.r (.r (.r (.r (.r (.r (.r (.r (.r (.r (.r (.l (.r (.l (.r (.r (.l (.l (.r (.l (.l (.r (.l (.r (.r (.r .root)))))))))))))))))))))))))))))))))))))))))))) (Ae (Ae (Ae (Ae (Ae (Ae f 15 (.str l_15 c_15)) 17 (.str l_17 c_17)) 18 (.bool b_18)) 20 (.int .i64 n_20)) 21 (.str l_21 c_21)) 23 (.str l_23 c_23)) h=An3 c k J (f 0) (f 4) (f 5) (f 7) (f 8) l_15 c_15 l_17 c_17 b_18 n_20 l_21 c_21 l_23 c_23 h:=by kernel_rfl
theorem Bfh(J:J17)(l_15 c_15:Nat)(l_17 c_17:Nat)(b_18:Bool)(n_19 n_20:Int):zqe c k q17 u17 (f17 J) d17 Tryz.f17 (.r (.r (.l (.l (.r (.l (.r (.r (.r (.r (.r (.l (.r (.r (.r (.r (.r (.r (.r (.r (.r (.r (.r (.l (.r (.l (.r (.r (.l (.l (.r (.l (.l (.r (.l (.r (.r (.r .root)))))))))))))))))))))))))))))))))))))) (Ae (Ae (Ae (Ae (Ae f 15 (.str l_15 c_15)) 17 (.str l_17 c_17)) 18 (.bool b_18)) 19 (.int .i64 n_19)) 20 (.int .i64 n_20)) h=An2 c k J (f 0) (f 4) (f 5) (f 7) (f 8) l_15 c_15 l_17 c_17 b_18 n_19 n_20 h:=by kernel_rfl
theorem Bfg(J:J17)(l_15 c_15:Nat)(l_17 c_17:Nat)(n_19:Int):zqe c k q17 u17 (f17 J) d17 Tryz.f17 (.r (.r (.r (.r (.r (.r (.l (.r (.r (.r (.r (.r (.r (.r (.r (.r (.r (.r (.l (.r (.l (.r (.r (.l (.l (.r (.l (.l (.r (.l (.r (.r (.r .root))))))))))))))))))))))))))))))))) (Ae (Ae (Ae f 15 (.str l_15 c_15)) 17 (.str l_17 c_17)) 19 (.int .i64 n_19)) h=An1 c k J (f 0) (f 4) (f 5) (f 7) (f 8) l_15 c_15 l_17 c_17 n_19 h:=by kernel_rfl
theorem Bff(J:J17)(n_6:Int):zqe c k q17 u17 (f17 J) d17 Tryz.f17 (.r (.r (.r (.l (.l (.r (.l (.l (.r (.l (.r (.r (.r .root))))))))))))) (Ae f 6 (.int .i64 n_6)) h=An0 c k J (f 0) (f 4) (f 5) n_6 (f 7) (f 8) h:=by kernel_rfl
theorem Bfe(J:J17)(n_6:Int):zqe c k q17 u17 (f17 J) d17 Tryz.f17 (.r (.r (.l (.l (.r (.l (.r (.r (.r .root))))))))) (Ae f 6 (.int .i64 n_6)) h=Anz c k J (f 0) (f 4) (f 5) n_6 h:=by kernel_rfl
theorem w17(hc:Bv c){n:Nat}{a:List AV}(hg:f17 (r17 c k n) 0 (Ab a) h):zqs 17 a h k:=
 zqw hc q17 Tryz.func17 rfl (by kernel_rfl) (by kernel_rfl) k u17 (fun n=>f17 (r17 c k n)) (fun L _ _ hl=>match L,hl with
  |0,hl=>hl
  |1,hl=>Bf hl fun _ hl=>hl
  |2,hl=>Bd hl fun _ _ hl=>Bd hl fun _ _ hl=>Hz hl fun _ hl=>Bf hl fun _ hl=>Bf hl fun _ hl=>hl
  |3,hl=>Bd hl fun _ _ hl=>Bd hl fun _ _ hl=>Hz hl fun _ hl=>Bf hl fun _ hl=>Bd hl fun _ _ hl=>hl
  |4,hl=>Bd hl fun _ _ hl=>Bd hl fun _ _ hl=>Hz hl fun _ hl=>Bf hl fun _ hl=>Bd hl fun _ _ hl=>Bd hl fun _ _ hl=>hl
  |5,hl=>Bd hl fun _ _ hl=>Bd hl fun _ _ hl=>Hz hl fun _ hl=>Bf hl fun _ hl=>Bf hl fun _ hl=>hl
  |6,hl=>Bd hl fun _ _ hl=>Bd hl fun _ _ hl=>Bf hl fun _ hl=>hl
  |7,hl=>Bf hl fun _ hl=>hl
  |8,hl=>Bf hl fun _ hl=>hl
  |_+9,hl=>hl) (fun n=>⟨
  fun f h hl=>Eq.mpr (Bfm ..) hl,
  fun f h hl=>by
    refine Be 6 hl fun _ hl=>?_;exact Eq.mpr (Bfl ..) hl,
  fun f h hl=>by
    refine Bc 15 hl fun _ _ hl=>?_;refine Bc 17 hl fun _ _ hl=>?_;refine Hy 18 hl fun _ hl=>?_;refine Be 19 hl fun _ hl=>?_;refine Be 20 hl fun _ hl=>?_;exact Eq.mpr (Bfk ..) hl,
  fun f h hl=>by
    refine Bc 15 hl fun _ _ hl=>?_;refine Bc 17 hl fun _ _ hl=>?_;refine Hy 18 hl fun _ hl=>?_;refine Be 20 hl fun _ hl=>?_;refine Bc 21 hl fun _ _ hl=>?_;exact Eq.mpr (Bfj ..) hl,
  fun f h hl=>by
    refine Bc 15 hl fun _ _ hl=>?_;refine Bc 17 hl fun _ _ hl=>?_;refine Hy 18 hl fun _ hl=>?_;refine Be 20 hl fun _ hl=>?_;refine Bc 21 hl fun _ _ hl=>?_;refine Bc 23 hl fun _ _ hl=>?_;exact Eq.mpr (Bfi ..) hl,
  fun f h hl=>by
    refine Bc 15 hl fun _ _ hl=>?_;refine Bc 17 hl fun _ _ hl=>?_;refine Hy 18 hl fun _ hl=>?_;refine Be 19 hl fun _ hl=>?_;refine Be 20 hl fun _ hl=>?_;exact Eq.mpr (Bfh ..) hl,
  fun f h hl=>by
    refine Bc 15 hl fun _ _ hl=>?_;refine Bc 17 hl fun _ _ hl=>?_;refine Be 19 hl fun _ hl=>?_;exact Eq.mpr (Bfg ..) hl,
  fun f h hl=>by
    refine Be 6 hl fun _ hl=>?_;exact Eq.mpr (Bff ..) hl,
  fun f h hl=>by
    refine Be 6 hl fun _ hl=>?_;exact Eq.mpr (Bfe ..) hl,
  trivial⟩) rfl hg
end
theorem g17{c:CF}{k:KV}{n:Nat}{v_0:AV}{h:H}(hg:An7 c k (r17 c k n) v_0 h):f17 (r17 c k (n+1)) 0 (Ab [v_0]) h:=hg
theorem Bcv{c:CF}{k:KV}{n:Nat}{x0 x1 x2:AV}{x3:Int}{h:H}(hg:An6 c k (r17 c k n) x0 x1 x2 x3 h):(r17 c k (n+1)).a1 x0 x1 x2 x3 h:=hg
theorem Bcu{c:CF}{k:KV}{n:Nat}{x0 x1:AV}{x2 x3 x4:AV}{x5 x6:Nat}{x7 x8:Nat}{x9:Bool}{x10 x11:Int}{h:H}(hg:An5 c k (r17 c k n) x0 x1 x2 x3 x4 x5 x6 x7 x8 x9 x10 x11 h):(r17 c k (n+1)).a2 x0 x1 x2 x3 x4 x5 x6 x7 x8 x9 x10 x11 h:=hg
theorem Bct{c:CF}{k:KV}{n:Nat}{x0 x1:AV}{x2 x3 x4:AV}{x5 x6:Nat}{x7 x8:Nat}{x9:Bool}{x10:Int}{x11 x12:Nat}{h:H}(hg:An4 c k (r17 c k n) x0 x1 x2 x3 x4 x5 x6 x7 x8 x9 x10 x11 x12 h):(r17 c k (n+1)).a3 x0 x1 x2 x3 x4 x5 x6 x7 x8 x9 x10 x11 x12 h:=hg
theorem Bcs{c:CF}{k:KV}{n:Nat}{x0 x1:AV}{x2 x3 x4:AV}{x5 x6:Nat}{x7 x8:Nat}{x9:Bool}{x10:Int}{x11 x12:Nat}{x13 x14:Nat}{h:H}(hg:An3 c k (r17 c k n) x0 x1 x2 x3 x4 x5 x6 x7 x8 x9 x10 x11 x12 x13 x14 h):(r17 c k (n+1)).a4 x0 x1 x2 x3 x4 x5 x6 x7 x8 x9 x10 x11 x12 x13 x14 h:=hg
theorem Bcr{c:CF}{k:KV}{n:Nat}{x0 x1:AV}{x2 x3 x4:AV}{x5 x6:Nat}{x7 x8:Nat}{x9:Bool}{x10 x11:Int}{h:H}(hg:An2 c k (r17 c k n) x0 x1 x2 x3 x4 x5 x6 x7 x8 x9 x10 x11 h):(r17 c k (n+1)).a5 x0 x1 x2 x3 x4 x5 x6 x7 x8 x9 x10 x11 h:=hg
theorem Bcq{c:CF}{k:KV}{n:Nat}{x0 x1:AV}{x2 x3 x4:AV}{x5 x6:Nat}{x7 x8:Nat}{x9:Int}{h:H}(hg:An1 c k (r17 c k n) x0 x1 x2 x3 x4 x5 x6 x7 x8 x9 h):(r17 c k (n+1)).a6 x0 x1 x2 x3 x4 x5 x6 x7 x8 x9 h:=hg
theorem Bcp{c:CF}{k:KV}{n:Nat}{x0 x1 x2:AV}{x3:Int}{x4 x5:AV}{h:H}(hg:An0 c k (r17 c k n) x0 x1 x2 x3 x4 x5 h):(r17 c k (n+1)).a7 x0 x1 x2 x3 x4 x5 h:=hg
theorem Bco{c:CF}{k:KV}{n:Nat}{x0 x1 x2:AV}{x3:Int}{h:H}(hg:Anz c k (r17 c k n) x0 x1 x2 x3 h):(r17 c k (n+1)).a8 x0 x1 x2 x3 h:=hg
end Go.Den
noncomputable section
namespace Go.Den
open Go.Proofs
set_option maxRecDepth 100000
def d18:Code:=Option.rec .skip (fun c=>c) Tryz.f18.body
def q18:Aw:=[(6,[0,1,2,3,4,5,6,7,8,9,10,11])]
structure J18 where
 a0:AV→AV→H→Prop
 a1:AV→AV→Int→H→Prop
def Anx(_c:CF)(k:KV)(J:J18)(v_0 v_1:AV)(h:H):Prop:=
 Gn v_0 fun m1=>
 Gn v_1 fun m2=>
 cnd (Cn (Ba (Int.ofNat m1) (Int.ofNat m2)))
 (k (.bool false) h)
 (J.a1 v_0 v_1 (Int.ofNat 0) h)
def Anw(_c:CF)(k:KV)(J:J18)(v_0 v_1:AV)(n_5:Int)(h:H):Prop:=
 Gn v_0 fun m3=>
 cnd (Cl n_5 (Int.ofNat m3))
 (Bz n_5 fun m4=>
 Dd 7 m4 v_0 fun v5=>
 ldn 7 v5 h fun v6=>
 Bz n_5 fun m7=>
 Dd 7 m7 v_1 fun v8=>
 ldn 7 v8 h fun v9=>
 Hp.Fi h Aht fun p10 h11=>
 ldn 7 v5 h11 fun v12=>
 eqC v12 v6<|
 ldn 7 v8 h11 fun v13=>
 eqC v13 v9<|
 Hp.Fi h11 Wy fun p14 h15=>
 ldn 7 v5 h15 fun v16=>
 eqC v16 v6<|
 ldn 7 v8 h15 fun v17=>
 eqC v17 v9<|
 stn 7 (.ptr p10 0) v6 h15 fun h18=>
 ldn 7 v8 h18 fun v19=>
 eqC v19 v9<|
 stn 7 (.ptr p14 0) v9 h18 fun h20=>
 As 0 (.ptr p10 0) fun v21=>
 ld1 v21 h20 fun v22=>
 asI .i64 v22 fun n23=>
 As 0 (.ptr p14 0) fun v24=>
 ld1 v24 h20 fun v25=>
 asI .i64 v25 fun n26=>
 Ao (fun k27=>gate false (Cn (Ba n23 n26))
 (As 1 (.ptr p10 0) fun v30=>
 ld1 v30 h20 fun v31=>
 asS v31 fun l32 c33=>
 As 1 (.ptr p14 0) fun v34=>
 ld1 v34 h20 fun v35=>
 asS v35 fun l36 c37=>
 k27 (Cn (Bg l32 c33 l36 c37)) h20)
 (k27 true h20)) fun b29 h28=>
 Ao (fun k38=>gate false b29
 (As 2 (.ptr p10 0) fun v41=>
 ldn 3 v41 h28 fun v42=>
 As 2 (.ptr p14 0) fun v43=>
 ldn 3 v43 h28 fun v44=>
 oV (Jk env .neq 38 v42 v44) fun v45=>
 asB v45 fun b46=>
 k38 b46 h28)
 (k38 true h28)) fun b40 h39=>
 Ao (fun k47=>gate false b40
 (As 5 (.ptr p10 0) fun v50=>
 ld1 v50 h39 fun v51=>
 asI .i64 v51 fun n52=>
 As 5 (.ptr p14 0) fun v53=>
 ld1 v53 h39 fun v54=>
 asI .i64 v54 fun n55=>
 k47 (Cn (Ba n52 n55)) h39)
 (k47 true h39)) fun b49 h48=>
 Ao (fun k56=>gate false b49
 (As 6 (.ptr p10 0) fun v59=>
 ld1 v59 h48 fun v60=>
 asI .i64 v60 fun n61=>
 As 6 (.ptr p14 0) fun v62=>
 ld1 v62 h48 fun v63=>
 asI .i64 v63 fun n64=>
 k56 (Cn (Ba n61 n64)) h48)
 (k56 true h48)) fun b58 h57=>
 cnd b58
 (k (.bool false) h57)
 (fI (wrap .i64 (Cd n_5 (Int.ofNat 1))) fun n65=>
 J.a1 v_0 v_1 n65 h57))
 (k (.bool true) h)
def z18:J18:=⟨fun _ _ _=>False,fun _ _ _ _=>False⟩
def r18(c:CF)(k:KV)(m:Nat):J18:=Nat.rec z18 (fun _ J=>⟨Anx c k J,Anw c k J⟩) m
def f18(J:J18):Jump:=fun L f h=>match L with
 |0=>J.a0 (f 0) (f 1) h
 |1=>asI .i64 (f 5) fun n_5=>J.a1 (f 0) (f 1) n_5 h
 |_=>False
def u18:Bm:=[(.root,0),((.l (.r (.l (.r (.r .root))))),1)]
section
variable{c:CF}{k:KV}{f:FT}{h:H}
theorem Bfd(J:J18):zqe c k q18 u18 (f18 J) d18 Tryz.f18 .root f h=Anx c k J (f 0) (f 1) h:=by kernel_rfl
theorem Bfc(J:J18)(n_5:Int):zqe c k q18 u18 (f18 J) d18 Tryz.f18 (.l (.r (.l (.r (.r .root))))) (Ae f 5 (.int .i64 n_5)) h=Anw c k J (f 0) (f 1) n_5 h:=by kernel_rfl
theorem w18(hc:Bv c){n:Nat}{a:List AV}(hg:f18 (r18 c k n) 0 (Ab a) h):zqs 18 a h k:=
 zqw hc q18 Tryz.func18 rfl (by kernel_rfl) (by kernel_rfl) k u18 (fun n=>f18 (r18 c k n)) (fun L _ _ hl=>match L,hl with
  |0,hl=>hl
  |1,hl=>Bf hl fun _ hl=>hl
  |_+2,hl=>hl) (fun n=>⟨
  fun f h hl=>Eq.mpr (Bfd ..) hl,
  fun f h hl=>by
    refine Be 5 hl fun _ hl=>?_;exact Eq.mpr (Bfc ..) hl,
  trivial⟩) rfl hg
end
theorem g18{c:CF}{k:KV}{n:Nat}{v_0 v_1:AV}{h:H}(hg:Anx c k (r18 c k n) v_0 v_1 h):f18 (r18 c k (n+1)) 0 (Ab [v_0,v_1]) h:=hg
theorem Bcn{c:CF}{k:KV}{n:Nat}{x0 x1:AV}{x2:Int}{h:H}(hg:Anw c k (r18 c k n) x0 x1 x2 h):(r18 c k (n+1)).a1 x0 x1 x2 h:=hg
end Go.Den
noncomputable section
namespace Go.Den
open Go.Proofs
set_option maxRecDepth 100000
def d19:Code:=Option.rec .skip (fun c=>c) Tryz.f19.body
def q19:Aw:=[(6,[0,1,2,3,4,5,6,7,8])]
structure J19 where
 a0:AV→AV→H→Prop
 a1:AV→AV→Int→H→Prop
def Anv(_c:CF)(k:KV)(J:J19)(v_0 v_1:AV)(h:H):Prop:=
 Gn v_0 fun m1=>
 Gn v_1 fun m2=>
 cnd (Cn (Ba (Int.ofNat m1) (Int.ofNat m2)))
 (k (.bool false) h)
 (J.a1 v_0 v_1 (Int.ofNat 0) h)
def Anu(_c:CF)(k:KV)(J:J19)(v_0 v_1:AV)(n_5:Int)(h:H):Prop:=
 Gn v_0 fun m3=>
 cnd (Cl n_5 (Int.ofNat m3))
 (Bz n_5 fun m4=>
 Dd 4 m4 v_0 fun v5=>
 ldn 4 v5 h fun v6=>
 Bz n_5 fun m7=>
 Dd 4 m7 v_1 fun v8=>
 ldn 4 v8 h fun v9=>
 oV (Jk env .neq 48 v6 v9) fun v10=>
 asB v10 fun b11=>
 cnd b11
 (k (.bool false) h)
 (fI (wrap .i64 (Cd n_5 (Int.ofNat 1))) fun n12=>
 J.a1 v_0 v_1 n12 h))
 (k (.bool true) h)
def z19:J19:=⟨fun _ _ _=>False,fun _ _ _ _=>False⟩
def r19(c:CF)(k:KV)(m:Nat):J19:=Nat.rec z19 (fun _ J=>⟨Anv c k J,Anu c k J⟩) m
def f19(J:J19):Jump:=fun L f h=>match L with
 |0=>J.a0 (f 0) (f 1) h
 |1=>asI .i64 (f 5) fun n_5=>J.a1 (f 0) (f 1) n_5 h
 |_=>False
def u19:Bm:=[(.root,0),((.l (.r (.l (.r (.r .root))))),1)]
section
variable{c:CF}{k:KV}{f:FT}{h:H}
theorem Bfb(J:J19):zqe c k q19 u19 (f19 J) d19 Tryz.f19 .root f h=Anv c k J (f 0) (f 1) h:=by kernel_rfl
theorem Bfa(J:J19)(n_5:Int):zqe c k q19 u19 (f19 J) d19 Tryz.f19 (.l (.r (.l (.r (.r .root))))) (Ae f 5 (.int .i64 n_5)) h=Anu c k J (f 0) (f 1) n_5 h:=by kernel_rfl
theorem w19(hc:Bv c){n:Nat}{a:List AV}(hg:f19 (r19 c k n) 0 (Ab a) h):zqs 19 a h k:=
 zqw hc q19 Tryz.func19 rfl (by kernel_rfl) (by kernel_rfl) k u19 (fun n=>f19 (r19 c k n)) (fun L _ _ hl=>match L,hl with
  |0,hl=>hl
  |1,hl=>Bf hl fun _ hl=>hl
  |_+2,hl=>hl) (fun n=>⟨
  fun f h hl=>Eq.mpr (Bfb ..) hl,
  fun f h hl=>by
    refine Be 5 hl fun _ hl=>?_;exact Eq.mpr (Bfa ..) hl,
  trivial⟩) rfl hg
end
theorem g19{c:CF}{k:KV}{n:Nat}{v_0 v_1:AV}{h:H}(hg:Anv c k (r19 c k n) v_0 v_1 h):f19 (r19 c k (n+1)) 0 (Ab [v_0,v_1]) h:=hg
theorem Bcm{c:CF}{k:KV}{n:Nat}{x0 x1:AV}{x2:Int}{h:H}(hg:Anu c k (r19 c k n) x0 x1 x2 h):(r19 c k (n+1)).a1 x0 x1 x2 h:=hg
end Go.Den
noncomputable section
namespace Go.Den
open Go.Proofs
set_option maxRecDepth 100000
def d21:Code:=Option.rec .skip (fun c=>c) Tryz.f21.body
def q21:Aw:=[]
structure J21 where
 a0:Nat→Nat→H→Prop
def Ans(c:CF)(k:KV)(_J:J21)(l_0 c_0:Nat)(h:H):Prop:=
 c (.func 45) [] h fun v1 h2=>
 c (.func 44) [v1,(.str l_0 c_0)] h2 fun v3 h4=>
 asB v3 fun b5=>
 k (.bool b5) h4
def z21:J21:=⟨fun _ _ _=>False⟩
def r21(c:CF)(k:KV)(m:Nat):J21:=Nat.rec z21 (fun _ J=>⟨Ans c k J⟩) m
def f21(J:J21):Jump:=fun L f h=>match L with
 |0=>asS (f 0) fun l_0 c_0=>J.a0 l_0 c_0 h
 |_=>False
def u21:Bm:=[(.root,0)]
section
variable{c:CF}{k:KV}{f:FT}{h:H}
theorem Be8(J:J21)(l_0 c_0:Nat):zqe c k q21 u21 (f21 J) d21 Tryz.f21 .root (Ae f 0 (.str l_0 c_0)) h=Ans c k J l_0 c_0 h:=by kernel_rfl
theorem w21(hc:Bv c){n:Nat}{a:List AV}(hg:f21 (r21 c k n) 0 (Ab a) h):zqs 21 a h k:=
 zqw hc q21 Tryz.func21 rfl (by kernel_rfl) (by kernel_rfl) k u21 (fun n=>f21 (r21 c k n)) (fun L _ _ hl=>match L,hl with
  |0,hl=>Bd hl fun _ _ hl=>hl
  |_+1,hl=>hl) (fun n=>⟨
  fun f h hl=>by
    refine Bc 0 hl fun _ _ hl=>?_;exact Eq.mpr (Be8 ..) hl,
  trivial⟩) rfl hg
end
theorem g21{c:CF}{k:KV}{n l_0 c_0:Nat}{h:H}(hg:Ans c k (r21 c k n) l_0 c_0 h):f21 (r21 c k (n+1)) 0 (Ab [.str l_0 c_0]) h:=hg
end Go.Den
noncomputable section
namespace Go.Den
open Go.Proofs
set_option maxRecDepth 100000
def d24:Code:=Option.rec .skip (fun c=>c) Tryz.f24.body
def q24:Aw:=[]
structure J24 where
 a0:Nat→Nat→H→Prop
 a1:Nat→Nat→AV→Int→H→Prop
 a2:Nat→Nat→AV→Int→H→Prop
def Anr(_c:CF)(_k:KV)(J:J24)(l_0 c_0:Nat)(h:H):Prop:=
 oK (Au env 115 (fun e ei=>Ak 1 [(0,(.int .u8 (Int.ofNat 34)))] h e ei)) fun v1 h2=>
 J.a1 l_0 c_0 v1 (Int.ofNat 0) h2
def Anq(_c:CF)(k:KV)(J:J24)(l_0 c_0:Nat)(v_3:AV)(n_4:Int)(h:H):Prop:=
 cnd (Cl n_4 (Int.ofNat l_0))
 (Bz n_4 fun m3=>
 Ci l_0 c_0 m3 fun m4=>
 Ao (fun k5=>gate false (Ba (Int.ofNat m4) (Int.ofNat 34))
 (Bz n_4 fun m8=>
 Ci l_0 c_0 m8 fun m9=>
 k5 (Ba (Int.ofNat m9) (Int.ofNat 92)) h)
 (k5 true h)) fun b7 h6=>
 cnd b7
 (oK (Au env 115 (fun e ei=>Ak 1 [(0,(.int .u8 (Int.ofNat 92)))] h6 e ei)) fun v10 h11=>
 oK (Az env .append [115,115] [v_3,v10] h11) fun v12 h13=>
 J.a2 l_0 c_0 v12 n_4 h13)
 (J.a2 l_0 c_0 v_3 n_4 h6))
 (oK (Au env 115 (fun e ei=>Ak 1 [(0,(.int .u8 (Int.ofNat 34)))] h e ei)) fun v14 h15=>
 oK (Az env .append [115,115] [v_3,v14] h15) fun v16 h17=>
 oK (Fz env h17 115 9 v16) fun v18 h19=>
 asS v18 fun l20 c21=>
 k (.str l20 c21) h19)
def Anp(_c:CF)(_k:KV)(J:J24)(l_0 c_0:Nat)(v_3:AV)(n_4:Int)(h:H):Prop:=
 Bz n_4 fun m22=>
 Ci l_0 c_0 m22 fun m23=>
 oK (Au env 115 (fun e ei=>Ak 1 [(0,(.int .u8 (Int.ofNat m23)))] h e ei)) fun v24 h25=>
 oK (Az env .append [115,115] [v_3,v24] h25) fun v26 h27=>
 fI (wrap .i64 (Cd n_4 (Int.ofNat 1))) fun n28=>
 J.a1 l_0 c_0 v26 n28 h27
def z24:J24:=⟨fun _ _ _=>False,fun _ _ _ _ _=>False,fun _ _ _ _ _=>False⟩
def r24(c:CF)(k:KV)(m:Nat):J24:=Nat.rec z24 (fun _ J=>⟨Anr c k J,Anq c k J,Anp c k J⟩) m
def f24(J:J24):Jump:=fun L f h=>match L with
 |0=>asS (f 0) fun l_0 c_0=>J.a0 l_0 c_0 h
 |1=>asS (f 0) fun l_0 c_0=>asI .i64 (f 4) fun n_4=>J.a1 l_0 c_0 (f 3) n_4 h
 |2=>asS (f 0) fun l_0 c_0=>asI .i64 (f 4) fun n_4=>J.a2 l_0 c_0 (f 3) n_4 h
 |_=>False
def u24:Bm:=[(.root,0),((.l (.r (.l (.r (.r .root))))),1),((.r (.l (.l (.r (.l (.l (.r (.l (.r (.r .root)))))))))),2)]
section
variable{c:CF}{k:KV}{f:FT}{h:H}
theorem Be7(J:J24)(l_0 c_0:Nat):zqe c k q24 u24 (f24 J) d24 Tryz.f24 .root (Ae f 0 (.str l_0 c_0)) h=Anr c k J l_0 c_0 h:=by kernel_rfl
theorem Be6(J:J24)(l_0 c_0:Nat)(n_4:Int):zqe c k q24 u24 (f24 J) d24 Tryz.f24 (.l (.r (.l (.r (.r .root))))) (Ae (Ae f 0 (.str l_0 c_0)) 4 (.int .i64 n_4)) h=Anq c k J l_0 c_0 (f 3) n_4 h:=by kernel_rfl
theorem Be5(J:J24)(l_0 c_0:Nat)(n_4:Int):zqe c k q24 u24 (f24 J) d24 Tryz.f24 (.r (.l (.l (.r (.l (.l (.r (.l (.r (.r .root)))))))))) (Ae (Ae f 0 (.str l_0 c_0)) 4 (.int .i64 n_4)) h=Anp c k J l_0 c_0 (f 3) n_4 h:=by kernel_rfl
theorem w24(hc:Bv c){n:Nat}{a:List AV}(hg:f24 (r24 c k n) 0 (Ab a) h):zqs 24 a h k:=
 zqw hc q24 Tryz.func24 rfl (by kernel_rfl) (by kernel_rfl) k u24 (fun n=>f24 (r24 c k n)) (fun L _ _ hl=>match L,hl with
  |0,hl=>Bd hl fun _ _ hl=>hl
  |1,hl=>Bd hl fun _ _ hl=>Bf hl fun _ hl=>hl
  |2,hl=>Bd hl fun _ _ hl=>Bf hl fun _ hl=>hl
  |_+3,hl=>hl) (fun n=>⟨
  fun f h hl=>by
    refine Bc 0 hl fun _ _ hl=>?_;exact Eq.mpr (Be7 ..) hl,
  fun f h hl=>by
    refine Bc 0 hl fun _ _ hl=>?_;refine Be 4 hl fun _ hl=>?_;exact Eq.mpr (Be6 ..) hl,
  fun f h hl=>by
    refine Bc 0 hl fun _ _ hl=>?_;refine Be 4 hl fun _ hl=>?_;exact Eq.mpr (Be5 ..) hl,
  trivial⟩) rfl hg
end
theorem g24{c:CF}{k:KV}{n l_0 c_0:Nat}{h:H}(hg:Anr c k (r24 c k n) l_0 c_0 h):f24 (r24 c k (n+1)) 0 (Ab [.str l_0 c_0]) h:=hg
theorem Bcl{c:CF}{k:KV}{n x0 x1:Nat}{x2:AV}{x3:Int}{h:H}(hg:Anq c k (r24 c k n) x0 x1 x2 x3 h):(r24 c k (n+1)).a1 x0 x1 x2 x3 h:=hg
theorem Bck{c:CF}{k:KV}{n x0 x1:Nat}{x2:AV}{x3:Int}{h:H}(hg:Anp c k (r24 c k n) x0 x1 x2 x3 h):(r24 c k (n+1)).a2 x0 x1 x2 x3 h:=hg
end Go.Den
noncomputable section
namespace Go.Den
open Go.Proofs
set_option maxRecDepth 100000
def d37:Code:=Option.rec .skip (fun c=>c) Tryz.f37.body
def q37:Aw:=[]
structure J37 where
 a0:Nat→Nat→H→Prop
 a1:Nat→Nat→AV→Int→Int→Int→Int→Int→H→Prop
 a2:Nat→Nat→AV→Int→Int→H→Prop
def Anh(_c:CF)(_k:KV)(J:J37)(l_0 c_0:Nat)(h:H):Prop:=
 Hp.Fi h Ahr fun p1 h2=>
 Ao (fun k3=>gate true (Cl (Int.ofNat 0) (Int.ofNat l_0))
 (Ci l_0 c_0 0 fun m6=>
 k3 (Ba (Int.ofNat m6) (Int.ofNat 48)) h2)
 (k3 false h2)) fun b5 h4=>
 cnd b5
 (Ao (fun k7=>gate true (Cl (Int.ofNat 1) (Int.ofNat l_0))
 (Ci l_0 c_0 1 fun m10=>
 Ao (fun k11=>gate false (Ba (Int.ofNat m10) (Int.ofNat 120))
 (Ci l_0 c_0 1 fun m14=>
 k11 (Ba (Int.ofNat m14) (Int.ofNat 88)) h4)
 (k11 true h4)) fun b13 h12=>
 k7 b13 h12)
 (k7 false h4)) fun b9 h8=>
 cnd b9
 (J.a2 l_0 c_0 (.ptr p1 0) (Int.ofNat 16) (Int.ofNat 2) h8)
 (J.a2 l_0 c_0 (.ptr p1 0) (Int.ofNat 8) (Int.ofNat 0) h8))
 (J.a2 l_0 c_0 (.ptr p1 0) (Int.ofNat 10) (Int.ofNat 0) h4)
def Ang(c:CF)(k:KV)(J:J37)(l_0 c_0:Nat)(v_2:AV)(n_4 n_5:Int)(n_6 n_7 n_8:Int)(h:H):Prop:=
 fI (wrap .i64 (Cd n_5 n_6)) fun n15=>
 cnd (Cl n_8 n15)
 (Bz n_8 fun m16=>
 Ci l_0 c_0 m16 fun m17=>
 c (.func 69) [(.int .u8 (Int.ofNat m17))] h fun v18 h19=>
 asI .i64 v18 fun n20=>
 fI (wrap .u64 n20) fun n21=>
 fI (wrap .u64 (Hw (Int.ofNat 18446744073709551615) n21)) fun n22=>
 fI (wrap .u64 n_4) fun n23=>
 Akd .u64 n22 n23 fun n24=>
 cnd (Cl n24 n_7)
 (oK (Bo env (env.ty 58) [] h19) fun v25 h26=>
 stn 2 v_2 v25 h26 fun h27=>
 ldn 2 v_2 h27 fun v28=>
 k (.tuple [v28,(.bool false)]) h27)
 (fI (wrap .u64 n_4) fun n29=>
 fI (wrap .u64 (n_7*n29)) fun n30=>
 fI (wrap .u64 (Cd n30 n21)) fun n31=>
 fI (wrap .i64 (Cd n_8 (Int.ofNat 1))) fun n32=>
 J.a1 l_0 c_0 v_2 n_4 n_5 n_6 n31 n32 h19))
 (fI (wrap .i64 (Cd n_5 n_6)) fun n33=>
 Bz n33 fun m34=>
 Fm l_0 c_0 m34 l_0 fun l35 c36=>
 c (.func 70) [(.str l35 c36)] h fun v37 h38=>
 ext 0 v37 fun v39=>
 asB v39 fun b40=>
 ext 1 v37 fun v41=>
 asB v41 fun b42=>
 cnd (Cn b42)
 (oK (Bo env (env.ty 58) [] h38) fun v43 h44=>
 stn 2 v_2 v43 h44 fun h45=>
 ldn 2 v_2 h45 fun v46=>
 k (.tuple [v46,(.bool false)]) h45)
 (Ao (fun k47=>gate false b40
 (k47 (Cl (Int.ofNat 9223372036854775807) n_7) h38)
 (k47 true h38)) fun b49 h48=>
 oK (Bo env (env.ty 58) [(0,(.int .u64 n_7)),(1,(.bool b49))] h48) fun v50 h51=>
 stn 2 v_2 v50 h51 fun h52=>
 ldn 2 v_2 h52 fun v53=>
 k (.tuple [v53,(.bool true)]) h52))
def Anf(c:CF)(k:KV)(J:J37)(l_0 c_0:Nat)(v_2:AV)(n_4 n_5:Int)(h:H):Prop:=
 c (.func 68) [(.str l_0 c_0),(.int .i64 n_5),(.int .i64 n_4)] h fun v54 h55=>
 asI .i64 v54 fun n56=>
 cnd (Ba n56 (Int.ofNat 0))
 (oK (Bo env (env.ty 58) [] h55) fun v57 h58=>
 stn 2 v_2 v57 h58 fun h59=>
 ldn 2 v_2 h59 fun v60=>
 k (.tuple [v60,(.bool false)]) h59)
 (J.a1 l_0 c_0 v_2 n_4 n_5 n56 (Int.ofNat 0) n_5 h55)
def z37:J37:=⟨fun _ _ _=>False,fun _ _ _ _ _ _ _ _ _=>False,fun _ _ _ _ _ _=>False⟩
def r37(c:CF)(k:KV)(m:Nat):J37:=Nat.rec z37 (fun _ J=>⟨Anh c k J,Ang c k J,Anf c k J⟩) m
def f37(J:J37):Jump:=fun L f h=>match L with
 |0=>asS (f 0) fun l_0 c_0=>J.a0 l_0 c_0 h
 |1=>asS (f 0) fun l_0 c_0=>asI .i64 (f 4) fun n_4=>asI .i64 (f 5) fun n_5=>asI .i64 (f 6) fun n_6=>asI .u64 (f 7) fun n_7=>asI .i64 (f 8) fun n_8=>J.a1 l_0 c_0 (f 2) n_4 n_5 n_6 n_7 n_8 h
 |2=>asS (f 0) fun l_0 c_0=>asI .i64 (f 4) fun n_4=>asI .i64 (f 5) fun n_5=>J.a2 l_0 c_0 (f 2) n_4 n_5 h
 |_=>False
def u37:Bm:=[(.root,0),((.l (.r (.l (.r (.r (.r (.r (.r (.r .root))))))))),1),((.r (.r (.r .root))),2)]
section
variable{c:CF}{k:KV}{f:FT}{h:H}
theorem Bex(J:J37)(l_0 c_0:Nat):zqe c k q37 u37 (f37 J) d37 Tryz.f37 .root (Ae f 0 (.str l_0 c_0)) h=Anh c k J l_0 c_0 h:=by kernel_rfl
theorem Bew(J:J37)(l_0 c_0:Nat)(n_4 n_5:Int)(n_6 n_7 n_8:Int):zqe c k q37 u37 (f37 J) d37 Tryz.f37 (.l (.r (.l (.r (.r (.r (.r (.r (.r .root))))))))) (Ae (Ae (Ae (Ae (Ae (Ae f 0 (.str l_0 c_0)) 4 (.int .i64 n_4)) 5 (.int .i64 n_5)) 6 (.int .i64 n_6)) 7 (.int .u64 n_7)) 8 (.int .i64 n_8)) h=Ang c k J l_0 c_0 (f 2) n_4 n_5 n_6 n_7 n_8 h:=by kernel_rfl
theorem Bev(J:J37)(l_0 c_0:Nat)(n_4 n_5:Int):zqe c k q37 u37 (f37 J) d37 Tryz.f37 (.r (.r (.r .root))) (Ae (Ae (Ae f 0 (.str l_0 c_0)) 4 (.int .i64 n_4)) 5 (.int .i64 n_5)) h=Anf c k J l_0 c_0 (f 2) n_4 n_5 h:=by kernel_rfl
theorem w37(hc:Bv c){n:Nat}{a:List AV}(hg:f37 (r37 c k n) 0 (Ab a) h):zqs 37 a h k:=
 zqw hc q37 Tryz.func37 rfl (by kernel_rfl) (by kernel_rfl) k u37 (fun n=>f37 (r37 c k n)) (fun L _ _ hl=>match L,hl with
  |0,hl=>Bd hl fun _ _ hl=>hl
  |1,hl=>Bd hl fun _ _ hl=>Bf hl fun _ hl=>Bf hl fun _ hl=>Bf hl fun _ hl=>Bf hl fun _ hl=>Bf hl fun _ hl=>hl
  |2,hl=>Bd hl fun _ _ hl=>Bf hl fun _ hl=>Bf hl fun _ hl=>hl
  |_+3,hl=>hl) (fun n=>⟨
  fun f h hl=>by
    refine Bc 0 hl fun _ _ hl=>?_;exact Eq.mpr (Bex ..) hl,
  fun f h hl=>by
    refine Bc 0 hl fun _ _ hl=>?_;refine Be 4 hl fun _ hl=>?_;refine Be 5 hl fun _ hl=>?_;refine Be 6 hl fun _ hl=>?_;refine Be 7 hl fun _ hl=>?_;refine Be 8 hl fun _ hl=>?_;exact Eq.mpr (Bew ..) hl,
  fun f h hl=>by
    refine Bc 0 hl fun _ _ hl=>?_;refine Be 4 hl fun _ hl=>?_;refine Be 5 hl fun _ hl=>?_;exact Eq.mpr (Bev ..) hl,
  trivial⟩) rfl hg
end
theorem g37{c:CF}{k:KV}{n l_0 c_0:Nat}{h:H}(hg:Anh c k (r37 c k n) l_0 c_0 h):f37 (r37 c k (n+1)) 0 (Ab [.str l_0 c_0]) h:=hg
theorem Bcf{c:CF}{k:KV}{n x0 x1:Nat}{x2:AV}{x3 x4:Int}{x5 x6 x7:Int}{h:H}(hg:Ang c k (r37 c k n) x0 x1 x2 x3 x4 x5 x6 x7 h):(r37 c k (n+1)).a1 x0 x1 x2 x3 x4 x5 x6 x7 h:=hg
theorem Bce{c:CF}{k:KV}{n x0 x1:Nat}{x2:AV}{x3 x4:Int}{h:H}(hg:Anf c k (r37 c k n) x0 x1 x2 x3 x4 h):(r37 c k (n+1)).a2 x0 x1 x2 x3 x4 h:=hg
end Go.Den
noncomputable section
namespace Go.Den
open Go.Proofs
set_option maxRecDepth 100000
def d38:Code:=Option.rec .skip (fun c=>c) Tryz.f38.body
def q38:Aw:=[]
structure J38 where
 a0:Nat→Nat→H→Prop
 a1:Nat→Nat→Int→Int→Bool→Bool→H→Prop
 a2:Nat→Nat→Int→Int→Int→Bool→H→Prop
 a3:Nat→Nat→Int→Int→H→Prop
def Ane(_c:CF)(_k:KV)(J:J38)(l_0 c_0:Nat)(h:H):Prop:=
 Ao (fun k1=>gate true (Cl (Int.ofNat 1) (Int.ofNat l_0))
 (Ci l_0 c_0 0 fun m4=>
 k1 (Ba (Int.ofNat m4) (Int.ofNat 48)) h)
 (k1 false h)) fun b3 h2=>
 Ao (fun k5=>gate true b3
 (Ci l_0 c_0 1 fun m8=>
 Ao (fun k9=>gate false (Ba (Int.ofNat m8) (Int.ofNat 120))
 (Ci l_0 c_0 1 fun m12=>
 k9 (Ba (Int.ofNat m12) (Int.ofNat 88)) h2)
 (k9 true h2)) fun b11 h10=>
 k5 b11 h10)
 (k5 false h2)) fun b7 h6=>
 cnd b7
 (J.a3 l_0 c_0 (Int.ofNat 16) (Int.ofNat 2) h6)
 (J.a3 l_0 c_0 (Int.ofNat 10) (Int.ofNat 0) h6)
def Anb(_c:CF)(k:KV)(_J:J38)(l_0 c_0:Nat)(n_3 n_6:Int)(b_7 b_9:Bool)(h:H):Prop:=
 Ao (fun k13=>gate true (Cn b_9)
 (Ao (fun k16=>gate false (Ba n_3 (Int.ofNat 16))
 (k16 (Cn b_7) h)
 (k16 true h)) fun b18 h17=>
 k13 b18 h17)
 (k13 false h)) fun b15 h14=>
 cnd b15
 (k (.bool false) h14)
 (Ao (fun k19=>gate false (Ba n_6 (Int.ofNat l_0))
 (fI (wrap .i64 (Cd n_6 (Int.ofNat 1))) fun n22=>
 Ao (fun k23=>gate true (Ba n22 (Int.ofNat l_0))
 (Bz n_6 fun m26=>
 Ci l_0 c_0 m26 fun m27=>
 Ao (fun k28=>gate false (Ba (Int.ofNat m27) (Int.ofNat 102))
 (Bz n_6 fun m31=>
 Ci l_0 c_0 m31 fun m32=>
 k28 (Ba (Int.ofNat m32) (Int.ofNat 70)) h14)
 (k28 true h14)) fun b30 h29=>
 Ao (fun k33=>gate false b30
 (Bz n_6 fun m36=>
 Ci l_0 c_0 m36 fun m37=>
 k33 (Ba (Int.ofNat m37) (Int.ofNat 108)) h29)
 (k33 true h29)) fun b35 h34=>
 Ao (fun k38=>gate false b35
 (Bz n_6 fun m41=>
 Ci l_0 c_0 m41 fun m42=>
 k38 (Ba (Int.ofNat m42) (Int.ofNat 76)) h34)
 (k38 true h34)) fun b40 h39=>
 k23 b40 h39)
 (k23 false h14)) fun b25 h24=>
 k19 b25 h24)
 (k19 true h14)) fun b21 h20=>
 k (.bool b21) h20)
def Ana(c:CF)(k:KV)(J:J38)(l_0 c_0:Nat)(n_3 n_5 n_6:Int)(b_7:Bool)(h:H):Prop:=
 cnd (Ba n_5 (Int.ofNat 0))
 (k (.bool false) h)
 (Ao (fun k43=>gate true (Cl n_6 (Int.ofNat l_0))
 (Ao (fun k46=>gate true (Ba n_3 (Int.ofNat 10))
 (Bz n_6 fun m49=>
 Ci l_0 c_0 m49 fun m50=>
 Ao (fun k51=>gate false (Ba (Int.ofNat m50) (Int.ofNat 101))
 (Bz n_6 fun m54=>
 Ci l_0 c_0 m54 fun m55=>
 k51 (Ba (Int.ofNat m55) (Int.ofNat 69)) h)
 (k51 true h)) fun b53 h52=>
 k46 b53 h52)
 (k46 false h)) fun b48 h47=>
 Ao (fun k56=>gate false b48
 (Ao (fun k59=>gate true (Ba n_3 (Int.ofNat 16))
 (Bz n_6 fun m62=>
 Ci l_0 c_0 m62 fun m63=>
 Ao (fun k64=>gate false (Ba (Int.ofNat m63) (Int.ofNat 112))
 (Bz n_6 fun m67=>
 Ci l_0 c_0 m67 fun m68=>
 k64 (Ba (Int.ofNat m68) (Int.ofNat 80)) h47)
 (k64 true h47)) fun b66 h65=>
 k59 b66 h65)
 (k59 false h47)) fun b61 h60=>
 k56 b61 h60)
 (k56 true h47)) fun b58 h57=>
 k43 b58 h57)
 (k43 false h)) fun b45 h44=>
 cnd b45
 (fI (wrap .i64 (Cd n_6 (Int.ofNat 1))) fun n69=>
 c (.func 71) [(.str l_0 c_0),(.int .i64 n69)] h44 fun v70 h71=>
 ext 0 v70 fun v72=>
 asI .i64 v72 fun n73=>
 ext 1 v70 fun v74=>
 asB v74 fun b75=>
 cnd (Cn b75)
 (k (.bool false) h71)
 (J.a1 l_0 c_0 n_3 n73 b_7 b45 h71))
 (J.a1 l_0 c_0 n_3 n_6 b_7 b45 h44))
def Am9(c:CF)(_k:KV)(J:J38)(l_0 c_0:Nat)(n_3 n_4:Int)(h:H):Prop:=
 c (.func 68) [(.str l_0 c_0),(.int .i64 n_4),(.int .i64 n_3)] h fun v76 h77=>
 asI .i64 v76 fun n78=>
 fI (wrap .i64 (Cd n_4 n78)) fun n79=>
 Ao (fun k80=>gate true (Cl n79 (Int.ofNat l_0))
 (Bz n79 fun m83=>
 Ci l_0 c_0 m83 fun m84=>
 k80 (Ba (Int.ofNat m84) (Int.ofNat 46)) h77)
 (k80 false h77)) fun b82 h81=>
 cnd b82
 (fI (wrap .i64 (Cd n79 (Int.ofNat 1))) fun n85=>
 c (.func 68) [(.str l_0 c_0),(.int .i64 n85),(.int .i64 n_3)] h81 fun v86 h87=>
 asI .i64 v86 fun n88=>
 fI (wrap .i64 (Cd n78 n88)) fun n89=>
 fI (wrap .i64 (Cd n79 (Int.ofNat 1))) fun n90=>
 fI (wrap .i64 (Cd n90 n88)) fun n91=>
 J.a2 l_0 c_0 n_3 n89 n91 b82 h87)
 (J.a2 l_0 c_0 n_3 n78 n79 b82 h81)
def z38:J38:=⟨fun _ _ _=>False,fun _ _ _ _ _ _ _=>False,fun _ _ _ _ _ _ _=>False,fun _ _ _ _ _=>False⟩
def r38(c:CF)(k:KV)(m:Nat):J38:=Nat.rec z38 (fun _ J=>⟨Ane c k J,Anb c k J,Ana c k J,Am9 c k J⟩) m
def f38(J:J38):Jump:=fun L f h=>match L with
 |0=>asS (f 0) fun l_0 c_0=>J.a0 l_0 c_0 h
 |1=>asS (f 0) fun l_0 c_0=>asI .i64 (f 3) fun n_3=>asI .i64 (f 6) fun n_6=>asB (f 7) fun b_7=>asB (f 9) fun b_9=>J.a1 l_0 c_0 n_3 n_6 b_7 b_9 h
 |2=>asS (f 0) fun l_0 c_0=>asI .i64 (f 3) fun n_3=>asI .i64 (f 5) fun n_5=>asI .i64 (f 6) fun n_6=>asB (f 7) fun b_7=>J.a2 l_0 c_0 n_3 n_5 n_6 b_7 h
 |3=>asS (f 0) fun l_0 c_0=>asI .i64 (f 3) fun n_3=>asI .i64 (f 4) fun n_4=>J.a3 l_0 c_0 n_3 n_4 h
 |_=>False
def u38:Bm:=[(.root,0),((.r (.r (.r (.r (.r (.r (.r (.r (.r (.r .root)))))))))),1),((.r (.r (.r (.r (.r (.r (.r .root))))))),2),((.r (.r (.r .root))),3)]
section
variable{c:CF}{k:KV}{f:FT}{h:H}
theorem Beu(J:J38)(l_0 c_0:Nat):zqe c k q38 u38 (f38 J) d38 Tryz.f38 .root (Ae f 0 (.str l_0 c_0)) h=Ane c k J l_0 c_0 h:=by kernel_rfl
theorem Bet(J:J38)(l_0 c_0:Nat)(n_3 n_6:Int)(b_7 b_9:Bool):zqe c k q38 u38 (f38 J) d38 Tryz.f38 (.r (.r (.r (.r (.r (.r (.r (.r (.r (.r .root)))))))))) (Ae (Ae (Ae (Ae (Ae f 0 (.str l_0 c_0)) 3 (.int .i64 n_3)) 6 (.int .i64 n_6)) 7 (.bool b_7)) 9 (.bool b_9)) h=Anb c k J l_0 c_0 n_3 n_6 b_7 b_9 h:=by kernel_rfl
theorem Bes(J:J38)(l_0 c_0:Nat)(n_3 n_5 n_6:Int)(b_7:Bool):zqe c k q38 u38 (f38 J) d38 Tryz.f38 (.r (.r (.r (.r (.r (.r (.r .root))))))) (Ae (Ae (Ae (Ae (Ae f 0 (.str l_0 c_0)) 3 (.int .i64 n_3)) 5 (.int .i64 n_5)) 6 (.int .i64 n_6)) 7 (.bool b_7)) h=Ana c k J l_0 c_0 n_3 n_5 n_6 b_7 h:=by kernel_rfl
theorem Ber(J:J38)(l_0 c_0:Nat)(n_3 n_4:Int):zqe c k q38 u38 (f38 J) d38 Tryz.f38 (.r (.r (.r .root))) (Ae (Ae (Ae f 0 (.str l_0 c_0)) 3 (.int .i64 n_3)) 4 (.int .i64 n_4)) h=Am9 c k J l_0 c_0 n_3 n_4 h:=by kernel_rfl
theorem w38(hc:Bv c){n:Nat}{a:List AV}(hg:f38 (r38 c k n) 0 (Ab a) h):zqs 38 a h k:=
 zqw hc q38 Tryz.func38 rfl (by kernel_rfl) (by kernel_rfl) k u38 (fun n=>f38 (r38 c k n)) (fun L _ _ hl=>match L,hl with
  |0,hl=>Bd hl fun _ _ hl=>hl
  |1,hl=>Bd hl fun _ _ hl=>Bf hl fun _ hl=>Bf hl fun _ hl=>Hz hl fun _ hl=>Hz hl fun _ hl=>hl
  |2,hl=>Bd hl fun _ _ hl=>Bf hl fun _ hl=>Bf hl fun _ hl=>Bf hl fun _ hl=>Hz hl fun _ hl=>hl
  |3,hl=>Bd hl fun _ _ hl=>Bf hl fun _ hl=>Bf hl fun _ hl=>hl
  |_+4,hl=>hl) (fun n=>⟨
  fun f h hl=>by
    refine Bc 0 hl fun _ _ hl=>?_;exact Eq.mpr (Beu ..) hl,
  fun f h hl=>by
    refine Bc 0 hl fun _ _ hl=>?_;refine Be 3 hl fun _ hl=>?_;refine Be 6 hl fun _ hl=>?_;refine Hy 7 hl fun _ hl=>?_;refine Hy 9 hl fun _ hl=>?_;exact Eq.mpr (Bet ..) hl,
  fun f h hl=>by
    refine Bc 0 hl fun _ _ hl=>?_;refine Be 3 hl fun _ hl=>?_;refine Be 5 hl fun _ hl=>?_;refine Be 6 hl fun _ hl=>?_;refine Hy 7 hl fun _ hl=>?_;exact Eq.mpr (Bes ..) hl,
  fun f h hl=>by
    refine Bc 0 hl fun _ _ hl=>?_;refine Be 3 hl fun _ hl=>?_;refine Be 4 hl fun _ hl=>?_;exact Eq.mpr (Ber ..) hl,
  trivial⟩) rfl hg
end
theorem g38{c:CF}{k:KV}{n l_0 c_0:Nat}{h:H}(hg:Ane c k (r38 c k n) l_0 c_0 h):f38 (r38 c k (n+1)) 0 (Ab [.str l_0 c_0]) h:=hg
theorem Bcd{c:CF}{k:KV}{n x0 x1:Nat}{x2 x3:Int}{x4 x5:Bool}{h:H}(hg:Anb c k (r38 c k n) x0 x1 x2 x3 x4 x5 h):(r38 c k (n+1)).a1 x0 x1 x2 x3 x4 x5 h:=hg
theorem Bcc{c:CF}{k:KV}{n x0 x1:Nat}{x2 x3 x4:Int}{x5:Bool}{h:H}(hg:Ana c k (r38 c k n) x0 x1 x2 x3 x4 x5 h):(r38 c k (n+1)).a2 x0 x1 x2 x3 x4 x5 h:=hg
theorem Bcb{c:CF}{k:KV}{n x0 x1:Nat}{x2 x3:Int}{h:H}(hg:Am9 c k (r38 c k n) x0 x1 x2 x3 h):(r38 c k (n+1)).a3 x0 x1 x2 x3 h:=hg
end Go.Den
noncomputable section
namespace Go.Den
open Go.Proofs
set_option maxRecDepth 100000
def d39:Code:=Option.rec .skip (fun c=>c) Tryz.f39.body
def q39:Aw:=[]
structure J39 where
 a0:Nat→Nat→H→Prop
 a1:AV→Nat→Nat→Nat→Nat→Int→Int→H→Prop
 a2:AV→Nat→Nat→Int→H→Prop
def Am8(c:CF)(k:KV)(J:J39)(l_0 c_0:Nat)(h:H):Prop:=
 Hp.Fi h Ahr fun p1 h2=>
 c (.func 72) [(.str l_0 c_0)] h2 fun v3 h4=>
 ext 0 v3 fun v5=>
 asS v5 fun l6 c7=>
 ext 1 v3 fun v8=>
 asI .u8 v8 fun n9=>
 ext 2 v3 fun v10=>
 asB v10 fun b11=>
 c (.func 41) [(.str l_0 c_0)] h4 fun v12 h13=>
 ext 0 v12 fun v14=>
 asS v14 fun l15 c16=>
 ext 1 v12 fun v17=>
 asB v17 fun b18=>
 Ao (fun k19=>gate false (Cn b11)
 (k19 (Cn b18) h13)
 (k19 true h13)) fun b21 h20=>
 Ao (fun k22=>gate false b21
 (k22 (Cn (Ba n9 (Int.ofNat 39))) h20)
 (k22 true h20)) fun b24 h23=>
 Ao (fun k25=>gate false b24
 (k25 (Bg l6 c7 2 14453) h23)
 (k25 true h23)) fun b27 h26=>
 Ao (fun k28=>gate false b27
 (k28 (Cl (Int.ofNat l15) (Int.ofNat 1)) h26)
 (k28 true h26)) fun b30 h29=>
 Ao (fun k31=>gate false b30
 (k31 (Cl (Int.ofNat 8) (Int.ofNat l15)) h29)
 (k31 true h29)) fun b33 h32=>
 cnd b33
 (oK (Bo env (env.ty 58) [] h32) fun v34 h35=>
 stn 2 (.ptr p1 0) v34 h35 fun h36=>
 ldn 2 (.ptr p1 0) h36 fun v37=>
 k (.tuple [v37,(.bool false)]) h36)
 (cnd (Ba (Int.ofNat l15) (Int.ofNat 1))
 (Ci l15 c16 0 fun m38=>
 fI (wrap .i64 (Int.ofNat m38)) fun n39=>
 cnd (Cl (Int.ofNat 127) n39)
 (fI (wrap .i64 (Hw n39 (Int.ofNat 256))) fun n40=>
 J.a2 (.ptr p1 0) l6 c7 n40 h32)
 (J.a2 (.ptr p1 0) l6 c7 n39 h32))
 (J.a1 (.ptr p1 0) l6 c7 l15 c16 (Int.ofNat 0) (Int.ofNat 0) h32))
def Am7(_c:CF)(_k:KV)(J:J39)(v_2:AV)(l_4 c_4:Nat)(l_7 c_7:Nat)(n_9 n_10:Int)(h:H):Prop:=
 cnd (Cl n_10 (Int.ofNat l_7))
 (fI (wrap .i64 (n_9*(Int.ofNat 256))) fun n41=>
 Bz n_10 fun m42=>
 Ci l_7 c_7 m42 fun m43=>
 fI (wrap .i64 (Int.ofNat m43)) fun n44=>
 fI (wrap .i64 (Cd n41 n44)) fun n45=>
 Asb n45 (Int.ofNat 4294967296) fun n46=>
 fI (wrap .i64 (Cd n_10 (Int.ofNat 1))) fun n47=>
 J.a1 v_2 l_4 c_4 l_7 c_7 n46 n47 h)
 (cnd (Fw (Int.ofNat 2147483648) n_9)
 (fI (wrap .i64 (Hw n_9 (Int.ofNat 4294967296))) fun n48=>
 J.a2 v_2 l_4 c_4 n48 h)
 (J.a2 v_2 l_4 c_4 n_9 h))
def Am6(_c:CF)(k:KV)(_J:J39)(v_2:AV)(l_4 c_4:Nat)(n_9:Int)(h:H):Prop:=
 fI (wrap .u64 n_9) fun n49=>
 Ao (fun k50=>gate false (Bg l_4 c_4 1 117)
 (k50 (Bg l_4 c_4 1 85) h)
 (k50 true h)) fun b52 h51=>
 oK (Bo env (env.ty 58) [(0,(.int .u64 n49)),(1,(.bool b52))] h51) fun v53 h54=>
 stn 2 v_2 v53 h54 fun h55=>
 ldn 2 v_2 h55 fun v56=>
 k (.tuple [v56,(.bool true)]) h55
def z39:J39:=⟨fun _ _ _=>False,fun _ _ _ _ _ _ _ _=>False,fun _ _ _ _ _=>False⟩
def r39(c:CF)(k:KV)(m:Nat):J39:=Nat.rec z39 (fun _ J=>⟨Am8 c k J,Am7 c k J,Am6 c k J⟩) m
def f39(J:J39):Jump:=fun L f h=>match L with
 |0=>asS (f 0) fun l_0 c_0=>J.a0 l_0 c_0 h
 |1=>asS (f 4) fun l_4 c_4=>asS (f 7) fun l_7 c_7=>asI .i64 (f 9) fun n_9=>asI .i64 (f 10) fun n_10=>J.a1 (f 2) l_4 c_4 l_7 c_7 n_9 n_10 h
 |2=>asS (f 4) fun l_4 c_4=>asI .i64 (f 9) fun n_9=>J.a2 (f 2) l_4 c_4 n_9 h
 |_=>False
def u39:Bm:=[(.root,0),((.l (.r (.l (.r (.r (.l (.r (.r (.r (.r (.r .root))))))))))),1),((.r (.r (.r (.r (.r (.r .root)))))),2)]
section
variable{c:CF}{k:KV}{f:FT}{h:H}
theorem Beq(J:J39)(l_0 c_0:Nat):zqe c k q39 u39 (f39 J) d39 Tryz.f39 .root (Ae f 0 (.str l_0 c_0)) h=Am8 c k J l_0 c_0 h:=by kernel_rfl
theorem Bep(J:J39)(l_4 c_4:Nat)(l_7 c_7:Nat)(n_9 n_10:Int):zqe c k q39 u39 (f39 J) d39 Tryz.f39 (.l (.r (.l (.r (.r (.l (.r (.r (.r (.r (.r .root))))))))))) (Ae (Ae (Ae (Ae f 4 (.str l_4 c_4)) 7 (.str l_7 c_7)) 9 (.int .i64 n_9)) 10 (.int .i64 n_10)) h=Am7 c k J (f 2) l_4 c_4 l_7 c_7 n_9 n_10 h:=by kernel_rfl
theorem Beo(J:J39)(l_4 c_4:Nat)(n_9:Int):zqe c k q39 u39 (f39 J) d39 Tryz.f39 (.r (.r (.r (.r (.r (.r .root)))))) (Ae (Ae f 4 (.str l_4 c_4)) 9 (.int .i64 n_9)) h=Am6 c k J (f 2) l_4 c_4 n_9 h:=by kernel_rfl
theorem w39(hc:Bv c){n:Nat}{a:List AV}(hg:f39 (r39 c k n) 0 (Ab a) h):zqs 39 a h k:=
 zqw hc q39 Tryz.func39 rfl (by kernel_rfl) (by kernel_rfl) k u39 (fun n=>f39 (r39 c k n)) (fun L _ _ hl=>match L,hl with
  |0,hl=>Bd hl fun _ _ hl=>hl
  |1,hl=>Bd hl fun _ _ hl=>Bd hl fun _ _ hl=>Bf hl fun _ hl=>Bf hl fun _ hl=>hl
  |2,hl=>Bd hl fun _ _ hl=>Bf hl fun _ hl=>hl
  |_+3,hl=>hl) (fun n=>⟨
  fun f h hl=>by
    refine Bc 0 hl fun _ _ hl=>?_;exact Eq.mpr (Beq ..) hl,
  fun f h hl=>by
    refine Bc 4 hl fun _ _ hl=>?_;refine Bc 7 hl fun _ _ hl=>?_;refine Be 9 hl fun _ hl=>?_;refine Be 10 hl fun _ hl=>?_;exact Eq.mpr (Bep ..) hl,
  fun f h hl=>by
    refine Bc 4 hl fun _ _ hl=>?_;refine Be 9 hl fun _ hl=>?_;exact Eq.mpr (Beo ..) hl,
  trivial⟩) rfl hg
end
theorem g39{c:CF}{k:KV}{n l_0 c_0:Nat}{h:H}(hg:Am8 c k (r39 c k n) l_0 c_0 h):f39 (r39 c k (n+1)) 0 (Ab [.str l_0 c_0]) h:=hg
theorem Bca{c:CF}{k:KV}{n:Nat}{x0:AV}{x1 x2:Nat}{x3 x4:Nat}{x5 x6:Int}{h:H}(hg:Am7 c k (r39 c k n) x0 x1 x2 x3 x4 x5 x6 h):(r39 c k (n+1)).a1 x0 x1 x2 x3 x4 x5 x6 h:=hg
theorem Bb9{c:CF}{k:KV}{n:Nat}{x0:AV}{x1 x2:Nat}{x3:Int}{h:H}(hg:Am6 c k (r39 c k n) x0 x1 x2 x3 h):(r39 c k (n+1)).a2 x0 x1 x2 x3 h:=hg
end Go.Den
noncomputable section
namespace Go.Den
open Go.Proofs
set_option maxRecDepth 100000
def d40:Code:=Option.rec .skip (fun c=>c) Tryz.f40.body
def q40:Aw:=[]
structure J40 where
 a0:Nat→Nat→H→Prop
 a1:Nat→Nat→Nat→Nat→Bool→H→Prop
def Am5(_c:CF)(_k:KV)(J:J40)(l_0 c_0:Nat)(h:H):Prop:=
 cnd (Bg l_0 c_0 1 35)
 (J.a1 l_0 c_0 l_0 c_0 (Bg l_0 c_0 1 35) h)
 (cnd (Bg l_0 c_0 2 8995)
 (J.a1 l_0 c_0 l_0 c_0 (Bg l_0 c_0 2 8995) h)
 (cnd (Bg l_0 c_0 2 14885)
 (J.a1 l_0 c_0 l_0 c_0 (Bg l_0 c_0 2 14885) h)
 (J.a1 l_0 c_0 l_0 c_0 (Bg l_0 c_0 4 975518245) h)))
def Am4(_c:CF)(k:KV)(_J:J40)(l_0 c_0:Nat)(l_4 c_4:Nat)(b_5:Bool)(h:H):Prop:=
 cnd b_5
 (k (.tuple [(.str l_0 c_0),(.bool false)]) h)
 (cnd (Bg l_4 c_4 2 14908)
 (k (.tuple [(.str 1 91),(.bool true)]) h)
 (cnd (Bg l_4 c_4 2 15930)
 (k (.tuple [(.str 1 93),(.bool true)]) h)
 (cnd (Bg l_4 c_4 2 9532)
 (k (.tuple [(.str 1 123),(.bool true)]) h)
 (cnd (Bg l_4 c_4 2 15909)
 (k (.tuple [(.str 1 125),(.bool true)]) h)
 (k (.tuple [(.str l_0 c_0),(.bool true)]) h)))))
def z40:J40:=⟨fun _ _ _=>False,fun _ _ _ _ _ _=>False⟩
def r40(c:CF)(k:KV)(m:Nat):J40:=Nat.rec z40 (fun _ J=>⟨Am5 c k J,Am4 c k J⟩) m
def f40(J:J40):Jump:=fun L f h=>match L with
 |0=>asS (f 0) fun l_0 c_0=>J.a0 l_0 c_0 h
 |1=>asS (f 0) fun l_0 c_0=>asS (f 4) fun l_4 c_4=>asB (f 5) fun b_5=>J.a1 l_0 c_0 l_4 c_4 b_5 h
 |_=>False
def u40:Bm:=[(.root,0),((.r (.l (.r (.l (.r .root))))),1)]
section
variable{c:CF}{k:KV}{f:FT}{h:H}
theorem Ben(J:J40)(l_0 c_0:Nat):zqe c k q40 u40 (f40 J) d40 Tryz.f40 .root (Ae f 0 (.str l_0 c_0)) h=Am5 c k J l_0 c_0 h:=by kernel_rfl
theorem Bem(J:J40)(l_0 c_0:Nat)(l_4 c_4:Nat)(b_5:Bool):zqe c k q40 u40 (f40 J) d40 Tryz.f40 (.r (.l (.r (.l (.r .root))))) (Ae (Ae (Ae f 0 (.str l_0 c_0)) 4 (.str l_4 c_4)) 5 (.bool b_5)) h=Am4 c k J l_0 c_0 l_4 c_4 b_5 h:=by kernel_rfl
theorem w40(hc:Bv c){n:Nat}{a:List AV}(hg:f40 (r40 c k n) 0 (Ab a) h):zqs 40 a h k:=
 zqw hc q40 Tryz.func40 rfl (by kernel_rfl) (by kernel_rfl) k u40 (fun n=>f40 (r40 c k n)) (fun L _ _ hl=>match L,hl with
  |0,hl=>Bd hl fun _ _ hl=>hl
  |1,hl=>Bd hl fun _ _ hl=>Bd hl fun _ _ hl=>Hz hl fun _ hl=>hl
  |_+2,hl=>hl) (fun n=>⟨
  fun f h hl=>by
    refine Bc 0 hl fun _ _ hl=>?_;exact Eq.mpr (Ben ..) hl,
  fun f h hl=>by
    refine Bc 0 hl fun _ _ hl=>?_;refine Bc 4 hl fun _ _ hl=>?_;refine Hy 5 hl fun _ hl=>?_;exact Eq.mpr (Bem ..) hl,
  trivial⟩) rfl hg
end
theorem g40{c:CF}{k:KV}{n l_0 c_0:Nat}{h:H}(hg:Am5 c k (r40 c k n) l_0 c_0 h):f40 (r40 c k (n+1)) 0 (Ab [.str l_0 c_0]) h:=hg
theorem Bb8{c:CF}{k:KV}{n x0:Nat}{x1 x2 x3:Nat}{x4:Bool}{h:H}(hg:Am4 c k (r40 c k n) x0 x1 x2 x3 x4 h):(r40 c k (n+1)).a1 x0 x1 x2 x3 x4 h:=hg
end Go.Den
noncomputable section
namespace Go.Den
open Go.Proofs
set_option maxRecDepth 100000
def d41:Code:=Option.rec .skip (fun c=>c) Tryz.f41.body
def q41:Aw:=[]
structure J41 where
 a0:Nat→Nat→H→Prop
 a1:Int→Nat→Nat→AV→Int→H→Prop
 a2:Int→Nat→Nat→AV→Int→H→Prop
def Am3(c:CF)(k:KV)(J:J41)(l_0 c_0:Nat)(h:H):Prop:=
 c (.func 72) [(.str l_0 c_0)] h fun v1 h2=>
 ext 0 v1 fun v3=>
 asS v3 fun l4 _=>
 ext 1 v1 fun v6=>
 asI .u8 v6 fun n7=>
 ext 2 v1 fun v8=>
 asB v8 fun b9=>
 cnd (Cn b9)
 (k (.tuple [(.str 0 0),(.bool false)]) h2)
 (fI (wrap .i64 (Cd (Int.ofNat l4) (Int.ofNat 1))) fun n10=>
 fI (wrap .i64 (Hw (Int.ofNat l_0) (Int.ofNat 1))) fun n11=>
 Bz n11 fun m12=>
 Bz n10 fun m13=>
 Fm l_0 c_0 m13 m12 fun l14 c15=>
 J.a1 n7 l14 c15 .Af (Int.ofNat 0) h2)
def Am2(c:CF)(k:KV)(J:J41)(n_5:Int)(l_7 c_7:Nat)(v_8:AV)(n_9:Int)(h:H):Prop:=
 cnd (Cl n_9 (Int.ofNat l_7))
 (Bz n_9 fun m16=>
 Ci l_7 c_7 m16 fun m17=>
 cnd (Ba (Int.ofNat m17) n_5)
 (k (.tuple [(.str 0 0),(.bool false)]) h)
 (cnd (Ba (Int.ofNat m17) (Int.ofNat 92))
 (fI (wrap .i64 (Cd n_9 (Int.ofNat 1))) fun n18=>
 Bz n18 fun m19=>
 Fm l_7 c_7 m19 l_7 fun l20 c21=>
 c (.func 73) [(.str l20 c21)] h fun v22 h23=>
 ext 0 v22 fun v24=>
 asI .u8 v24 fun n25=>
 ext 1 v22 fun v26=>
 asI .i64 v26 fun n27=>
 cnd (Ba n27 (Int.ofNat 0))
 (k (.tuple [(.str 0 0),(.bool false)]) h23)
 (oK (Au env 115 (fun e ei=>Ak 1 [(0,(.int .u8 n25))] h23 e ei)) fun v28 h29=>
 oK (Az env .append [115,115] [v_8,v28] h29) fun v30 h31=>
 fI (wrap .i64 (Cd n_9 n27)) fun n32=>
 J.a2 n_5 l_7 c_7 v30 n32 h31))
 (Bz n_9 fun m33=>
 Ci l_7 c_7 m33 fun m34=>
 oK (Au env 115 (fun e ei=>Ak 1 [(0,(.int .u8 (Int.ofNat m34)))] h e ei)) fun v35 h36=>
 oK (Az env .append [115,115] [v_8,v35] h36) fun v37 h38=>
 J.a2 n_5 l_7 c_7 v37 n_9 h38)))
 (oK (Fz env h 115 9 v_8) fun v39 h40=>
 asS v39 fun l41 c42=>
 k (.tuple [(.str l41 c42),(.bool true)]) h40)
def Ag8(_c:CF)(_k:KV)(J:J41)(n_5:Int)(l_7 c_7:Nat)(v_8:AV)(n_9:Int)(h:H):Prop:=
 fI (wrap .i64 (Cd n_9 (Int.ofNat 1))) fun n43=>
 J.a1 n_5 l_7 c_7 v_8 n43 h
def z41:J41:=⟨fun _ _ _=>False,fun _ _ _ _ _ _=>False,fun _ _ _ _ _ _=>False⟩
def r41(c:CF)(k:KV)(m:Nat):J41:=Nat.rec z41 (fun _ J=>⟨Am3 c k J,Am2 c k J,Ag8 c k J⟩) m
def f41(J:J41):Jump:=fun L f h=>match L with
 |0=>asS (f 0) fun l_0 c_0=>J.a0 l_0 c_0 h
 |1=>asI .u8 (f 5) fun n_5=>asS (f 7) fun l_7 c_7=>asI .i64 (f 9) fun n_9=>J.a1 n_5 l_7 c_7 (f 8) n_9 h
 |2=>asI .u8 (f 5) fun n_5=>asS (f 7) fun l_7 c_7=>asI .i64 (f 9) fun n_9=>J.a2 n_5 l_7 c_7 (f 8) n_9 h
 |_=>False
def u41:Bm:=[(.root,0),((.l (.r (.l (.r (.r (.r (.r (.r .root)))))))),1),((.r (.r (.l (.l (.r (.l (.r (.r (.r (.r (.r .root))))))))))),2)]
section
variable{c:CF}{k:KV}{f:FT}{h:H}
theorem Bel(J:J41)(l_0 c_0:Nat):zqe c k q41 u41 (f41 J) d41 Tryz.f41 .root (Ae f 0 (.str l_0 c_0)) h=Am3 c k J l_0 c_0 h:=by kernel_rfl
theorem Bek(J:J41)(n_5:Int)(l_7 c_7:Nat)(n_9:Int):zqe c k q41 u41 (f41 J) d41 Tryz.f41 (.l (.r (.l (.r (.r (.r (.r (.r .root)))))))) (Ae (Ae (Ae f 5 (.int .u8 n_5)) 7 (.str l_7 c_7)) 9 (.int .i64 n_9)) h=Am2 c k J n_5 l_7 c_7 (f 8) n_9 h:=by kernel_rfl
theorem Bej(J:J41)(n_5:Int)(l_7 c_7:Nat)(n_9:Int):zqe c k q41 u41 (f41 J) d41 Tryz.f41 (.r (.r (.l (.l (.r (.l (.r (.r (.r (.r (.r .root))))))))))) (Ae (Ae (Ae f 5 (.int .u8 n_5)) 7 (.str l_7 c_7)) 9 (.int .i64 n_9)) h=Ag8 c k J n_5 l_7 c_7 (f 8) n_9 h:=by kernel_rfl
theorem w41(hc:Bv c){n:Nat}{a:List AV}(hg:f41 (r41 c k n) 0 (Ab a) h):zqs 41 a h k:=
 zqw hc q41 Tryz.func41 rfl (by kernel_rfl) (by kernel_rfl) k u41 (fun n=>f41 (r41 c k n)) (fun L _ _ hl=>match L,hl with
  |0,hl=>Bd hl fun _ _ hl=>hl
  |1,hl=>Bf hl fun _ hl=>Bd hl fun _ _ hl=>Bf hl fun _ hl=>hl
  |2,hl=>Bf hl fun _ hl=>Bd hl fun _ _ hl=>Bf hl fun _ hl=>hl
  |_+3,hl=>hl) (fun n=>⟨
  fun f h hl=>by
    refine Bc 0 hl fun _ _ hl=>?_;exact Eq.mpr (Bel ..) hl,
  fun f h hl=>by
    refine Be 5 hl fun _ hl=>?_;refine Bc 7 hl fun _ _ hl=>?_;refine Be 9 hl fun _ hl=>?_;exact Eq.mpr (Bek ..) hl,
  fun f h hl=>by
    refine Be 5 hl fun _ hl=>?_;refine Bc 7 hl fun _ _ hl=>?_;refine Be 9 hl fun _ hl=>?_;exact Eq.mpr (Bej ..) hl,
  trivial⟩) rfl hg
end
theorem g41{c:CF}{k:KV}{n l_0 c_0:Nat}{h:H}(hg:Am3 c k (r41 c k n) l_0 c_0 h):f41 (r41 c k (n+1)) 0 (Ab [.str l_0 c_0]) h:=hg
theorem Bb7{c:CF}{k:KV}{n:Nat}{x0:Int}{x1 x2:Nat}{x3:AV}{x4:Int}{h:H}(hg:Am2 c k (r41 c k n) x0 x1 x2 x3 x4 h):(r41 c k (n+1)).a1 x0 x1 x2 x3 x4 h:=hg
theorem A0o{c:CF}{k:KV}{n:Nat}{x0:Int}{x1 x2:Nat}{x3:AV}{x4:Int}{h:H}(hg:Ag8 c k (r41 c k n) x0 x1 x2 x3 x4 h):(r41 c k (n+1)).a2 x0 x1 x2 x3 x4 h:=hg
end Go.Den
noncomputable section
namespace Go.Den
open Go.Proofs
set_option maxRecDepth 100000
def d42:Code:=Option.rec .skip (fun c=>c) Tryz.f42.body
def q42:Aw:=[]
structure J42 where
 a0:Nat→Nat→H→Prop
 a1:Nat→Nat→Int→H→Prop
def Am1(_c:CF)(_k:KV)(J:J42)(l_0 c_0:Nat)(h:H):Prop:=
 J.a1 l_0 c_0 (Int.ofNat 0) h
def Am0(_c:CF)(k:KV)(J:J42)(l_0 c_0:Nat)(n_3:Int)(h:H):Prop:=
 cnd (Cl n_3 (Int.ofNat l_0))
 (Bz n_3 fun m1=>
 Ci l_0 c_0 m1 fun m2=>
 Ao (fun k3=>gate false (Ba (Int.ofNat m2) (Int.ofNat 34))
 (Bz n_3 fun m6=>
 Ci l_0 c_0 m6 fun m7=>
 k3 (Ba (Int.ofNat m7) (Int.ofNat 39)) h)
 (k3 true h)) fun b5 h4=>
 cnd b5
 (Bz n_3 fun m8=>
 Fm l_0 c_0 0 m8 fun l9 c10=>
 k (.str l9 c10) h4)
 (fI (wrap .i64 (Cd n_3 (Int.ofNat 1))) fun n11=>
 J.a1 l_0 c_0 n11 h4))
 (k (.str 0 0) h)
def z42:J42:=⟨fun _ _ _=>False,fun _ _ _ _=>False⟩
def r42(c:CF)(k:KV)(m:Nat):J42:=Nat.rec z42 (fun _ J=>⟨Am1 c k J,Am0 c k J⟩) m
def f42(J:J42):Jump:=fun L f h=>match L with
 |0=>asS (f 0) fun l_0 c_0=>J.a0 l_0 c_0 h
 |1=>asS (f 0) fun l_0 c_0=>asI .i64 (f 3) fun n_3=>J.a1 l_0 c_0 n_3 h
 |_=>False
def u42:Bm:=[(.root,0),((.l (.r (.l (.r .root)))),1)]
section
variable{c:CF}{k:KV}{f:FT}{h:H}
theorem Bei(J:J42)(l_0 c_0:Nat):zqe c k q42 u42 (f42 J) d42 Tryz.f42 .root (Ae f 0 (.str l_0 c_0)) h=Am1 c k J l_0 c_0 h:=by kernel_rfl
theorem Beh(J:J42)(l_0 c_0:Nat)(n_3:Int):zqe c k q42 u42 (f42 J) d42 Tryz.f42 (.l (.r (.l (.r .root)))) (Ae (Ae f 0 (.str l_0 c_0)) 3 (.int .i64 n_3)) h=Am0 c k J l_0 c_0 n_3 h:=by kernel_rfl
theorem w42(hc:Bv c){n:Nat}{a:List AV}(hg:f42 (r42 c k n) 0 (Ab a) h):zqs 42 a h k:=
 zqw hc q42 Tryz.func42 rfl (by kernel_rfl) (by kernel_rfl) k u42 (fun n=>f42 (r42 c k n)) (fun L _ _ hl=>match L,hl with
  |0,hl=>Bd hl fun _ _ hl=>hl
  |1,hl=>Bd hl fun _ _ hl=>Bf hl fun _ hl=>hl
  |_+2,hl=>hl) (fun n=>⟨
  fun f h hl=>by
    refine Bc 0 hl fun _ _ hl=>?_;exact Eq.mpr (Bei ..) hl,
  fun f h hl=>by
    refine Bc 0 hl fun _ _ hl=>?_;refine Be 3 hl fun _ hl=>?_;exact Eq.mpr (Beh ..) hl,
  trivial⟩) rfl hg
end
theorem g42{c:CF}{k:KV}{n l_0 c_0:Nat}{h:H}(hg:Am1 c k (r42 c k n) l_0 c_0 h):f42 (r42 c k (n+1)) 0 (Ab [.str l_0 c_0]) h:=hg
theorem Bb6{c:CF}{k:KV}{n x0 x1:Nat}{x2:Int}{h:H}(hg:Am0 c k (r42 c k n) x0 x1 x2 h):(r42 c k (n+1)).a1 x0 x1 x2 h:=hg
end Go.Den
noncomputable section
namespace Go.Den
open Go.Proofs
set_option maxRecDepth 100000
def d44:Code:=Option.rec .skip (fun c=>c) Tryz.f44.body
def q44:Aw:=[]
structure J44 where
 a0:AV→Nat→Nat→H→Prop
 a1:AV→Nat→Nat→Int→H→Prop
def Amz(_c:CF)(_k:KV)(J:J44)(v_0:AV)(l_1 c_1:Nat)(h:H):Prop:=
 J.a1 v_0 l_1 c_1 (Int.ofNat 0) h
def Amy(_c:CF)(k:KV)(J:J44)(v_0:AV)(l_1 c_1:Nat)(n_5:Int)(h:H):Prop:=
 Gn v_0 fun m1=>
 cnd (Cl n_5 (Int.ofNat m1))
 (Bz n_5 fun m2=>
 Dd 1 m2 v_0 fun v3=>
 ld1 v3 h fun v4=>
 asS v4 fun l5 c6=>
 cnd (Bg l5 c6 l_1 c_1)
 (k (.bool true) h)
 (fI (wrap .i64 (Cd n_5 (Int.ofNat 1))) fun n7=>
 J.a1 v_0 l_1 c_1 n7 h))
 (k (.bool false) h)
def z44:J44:=⟨fun _ _ _ _=>False,fun _ _ _ _ _=>False⟩
def r44(c:CF)(k:KV)(m:Nat):J44:=Nat.rec z44 (fun _ J=>⟨Amz c k J,Amy c k J⟩) m
def f44(J:J44):Jump:=fun L f h=>match L with
 |0=>asS (f 1) fun l_1 c_1=>J.a0 (f 0) l_1 c_1 h
 |1=>asS (f 1) fun l_1 c_1=>asI .i64 (f 5) fun n_5=>J.a1 (f 0) l_1 c_1 n_5 h
 |_=>False
def u44:Bm:=[(.root,0),((.l (.r (.l (.r .root)))),1)]
section
variable{c:CF}{k:KV}{f:FT}{h:H}
theorem Bef(J:J44)(l_1 c_1:Nat):zqe c k q44 u44 (f44 J) d44 Tryz.f44 .root (Ae f 1 (.str l_1 c_1)) h=Amz c k J (f 0) l_1 c_1 h:=by kernel_rfl
theorem Bee(J:J44)(l_1 c_1:Nat)(n_5:Int):zqe c k q44 u44 (f44 J) d44 Tryz.f44 (.l (.r (.l (.r .root)))) (Ae (Ae f 1 (.str l_1 c_1)) 5 (.int .i64 n_5)) h=Amy c k J (f 0) l_1 c_1 n_5 h:=by kernel_rfl
theorem w44(hc:Bv c){n:Nat}{a:List AV}(hg:f44 (r44 c k n) 0 (Ab a) h):zqs 44 a h k:=
 zqw hc q44 Tryz.func44 rfl (by kernel_rfl) (by kernel_rfl) k u44 (fun n=>f44 (r44 c k n)) (fun L _ _ hl=>match L,hl with
  |0,hl=>Bd hl fun _ _ hl=>hl
  |1,hl=>Bd hl fun _ _ hl=>Bf hl fun _ hl=>hl
  |_+2,hl=>hl) (fun n=>⟨
  fun f h hl=>by
    refine Bc 1 hl fun _ _ hl=>?_;exact Eq.mpr (Bef ..) hl,
  fun f h hl=>by
    refine Bc 1 hl fun _ _ hl=>?_;refine Be 5 hl fun _ hl=>?_;exact Eq.mpr (Bee ..) hl,
  trivial⟩) rfl hg
end
theorem g44{c:CF}{k:KV}{n l_1 c_1:Nat}{v_0:AV}{h:H}(hg:Amz c k (r44 c k n) v_0 l_1 c_1 h):f44 (r44 c k (n+1)) 0 (Ab [v_0,.str l_1 c_1]) h:=hg
theorem Bb5{c:CF}{k:KV}{n:Nat}{x0:AV}{x1 x2:Nat}{x3:Int}{h:H}(hg:Amy c k (r44 c k n) x0 x1 x2 x3 h):(r44 c k (n+1)).a1 x0 x1 x2 x3 h:=hg
end Go.Den
noncomputable section
namespace Go.Den
open Go.Proofs
set_option maxRecDepth 100000
def d45:Code:=Option.rec .skip (fun c=>c) Tryz.f45.body
def q45:Aw:=[]
structure J45 where
 a0:H→Prop
def Amx(_c:CF)(k:KV)(_J:J45)(h:H):Prop:=
 oK (Au env 44 (fun e ei=>Ak 44 [(0,(.str 4 1869903201)),(1,(.str 5 461195539042)),(2,(.str 4 1702060387)),(3,(.str 4 1918986339)),(4,(.str 5 500152823651)),(5,(.str 8 7310870969309884259)),(6,(.str 7 32770348699510116)),(7,(.str 2 28516)),(8,(.str 6 111516182736740)),(9,(.str 4 1702063205)),(10,(.str 4 1836412517)),(11,(.str 6 121437607458917)),(12,(.str 5 499850898534)),(13,(.str 3 7499622)),(14,(.str 4 1869901671)),(15,(.str 2 26217)),(16,(.str 6 111524889521769)),(17,(.str 3 7630441)),(18,(.str 4 1735290732)),(19,(.str 8 8243122732010005874)),(20,(.str 8 8386662871394903410)),(21,(.str 6 121437875889522)),(22,(.str 5 500136110195)),(23,(.str 6 110386806745459)),(24,(.str 6 112628629924211)),(25,(.str 6 109304575259763)),(26,(.str 6 127970521019507)),(27,(.str 6 114776364119923)),(28,(.str 7 28821929497491828)),(29,(.str 5 474315583093)),(30,(.str 8 7234309766870429301)),(31,(.str 4 1684631414)),(32,(.str 8 7308332243887091574)),(33,(.str 5 435610544247)),(34,(.str 8 8314047777532035423)),(35,(.str 8 7381239704712921439)),(36,(.str 7 27981941436596575)),(37,(.str 5 465726030431)),(38,(.str 8 8675459487327273823)),(39,(.str 8 7163382462278879071)),(40,(.str 10 573516293916391814023519)),(41,(.str 9 2037389474379710025311)),(42,(.str 14 2361822922107549468356405349339999)),(43,(.str 13 8586781807331162464568209855583))] h e ei)) fun v1 h2=>
 k v1 h2
def z45:J45:=⟨fun _=>False⟩
def r45(c:CF)(k:KV)(m:Nat):J45:=Nat.rec z45 (fun _ J=>⟨Amx c k J⟩) m
def f45(J:J45):Jump:=fun L _ h=>match L with
 |0=>J.a0 h
 |_=>False
def u45:Bm:=[(.root,0)]
section
variable{c:CF}{k:KV}{f:FT}{h:H}
theorem Bed(J:J45):zqe c k q45 u45 (f45 J) d45 Tryz.f45 .root f h=Amx c k J  h:=by kernel_rfl
theorem w45(hc:Bv c){n:Nat}{a:List AV}(hg:f45 (r45 c k n) 0 (Ab a) h):zqs 45 a h k:=
 zqw hc q45 Tryz.func45 rfl (by kernel_rfl) (by kernel_rfl) k u45 (fun n=>f45 (r45 c k n)) (fun L _ _ hl=>match L,hl with
  |0,hl=>hl
  |_+1,hl=>hl) (fun n=>⟨
  fun f h hl=>Eq.mpr (Bed ..) hl,
  trivial⟩) rfl hg
end
theorem g45{c:CF}{k:KV}{n:Nat}  {h:H} (hg:Amx c k (r45 c k n) h):f45 (r45 c k (n+1)) 0 (Ab []) h:=hg
end Go.Den
noncomputable section
namespace Go.Den
open Go.Proofs
set_option maxRecDepth 100000
def d68:Code:=Option.rec .skip (fun c=>c) Tryz.f68.body
def q68:Aw:=[]
structure J68 where
 a0:Nat→Nat→Int→Int→H→Prop
 a1:Nat→Nat→Int→Int→Int→H→Prop
def Ami(_c:CF)(_k:KV)(J:J68)(l_0 c_0:Nat)(n_1 n_2:Int)(h:H):Prop:=
 J.a1 l_0 c_0 n_1 n_2 (Int.ofNat 0) h
def Amh(c:CF)(k:KV)(J:J68)(l_0 c_0:Nat)(n_1 n_2 n_7:Int)(h:H):Prop:=
 fI (wrap .i64 (Cd n_1 n_7)) fun n1=>
 Ao (fun k2=>gate true (Cl n1 (Int.ofNat l_0))
 (fI (wrap .i64 (Cd n_1 n_7)) fun n5=>
 Bz n5 fun m6=>
 Ci l_0 c_0 m6 fun m7=>
 c (.func 69) [(.int .u8 (Int.ofNat m7))] h fun v8 h9=>
 asI .i64 v8 fun n10=>
 k2 (Cl n10 n_2) h9)
 (k2 false h)) fun b4 h3=>
 cnd b4
 (fI (wrap .i64 (Cd n_7 (Int.ofNat 1))) fun n11=>
 J.a1 l_0 c_0 n_1 n_2 n11 h3)
 (k (.int .i64 n_7) h3)
def z68:J68:=⟨fun _ _ _ _ _=>False,fun _ _ _ _ _ _=>False⟩
def r68(c:CF)(k:KV)(m:Nat):J68:=Nat.rec z68 (fun _ J=>⟨Ami c k J,Amh c k J⟩) m
def f68(J:J68):Jump:=fun L f h=>match L with
 |0=>asS (f 0) fun l_0 c_0=>asI .i64 (f 1) fun n_1=>asI .i64 (f 2) fun n_2=>J.a0 l_0 c_0 n_1 n_2 h
 |1=>asS (f 0) fun l_0 c_0=>asI .i64 (f 1) fun n_1=>asI .i64 (f 2) fun n_2=>asI .i64 (f 7) fun n_7=>J.a1 l_0 c_0 n_1 n_2 n_7 h
 |_=>False
def u68:Bm:=[(.root,0),((.l (.l (.r (.r .root)))),1)]
section
variable{c:CF}{k:KV}{f:FT}{h:H}
theorem Bdu(J:J68)(l_0 c_0:Nat)(n_1 n_2:Int):zqe c k q68 u68 (f68 J) d68 Tryz.f68 .root (Ae (Ae (Ae f 0 (.str l_0 c_0)) 1 (.int .i64 n_1)) 2 (.int .i64 n_2)) h=Ami c k J l_0 c_0 n_1 n_2 h:=by kernel_rfl
theorem Bdt(J:J68)(l_0 c_0:Nat)(n_1 n_2 n_7:Int):zqe c k q68 u68 (f68 J) d68 Tryz.f68 (.l (.l (.r (.r .root)))) (Ae (Ae (Ae (Ae f 0 (.str l_0 c_0)) 1 (.int .i64 n_1)) 2 (.int .i64 n_2)) 7 (.int .i64 n_7)) h=Amh c k J l_0 c_0 n_1 n_2 n_7 h:=by kernel_rfl
theorem w68(hc:Bv c){n:Nat}{a:List AV}(hg:f68 (r68 c k n) 0 (Ab a) h):zqs 68 a h k:=
 zqw hc q68 Tryz.func68 rfl (by kernel_rfl) (by kernel_rfl) k u68 (fun n=>f68 (r68 c k n)) (fun L _ _ hl=>match L,hl with
  |0,hl=>Bd hl fun _ _ hl=>Bf hl fun _ hl=>Bf hl fun _ hl=>hl
  |1,hl=>Bd hl fun _ _ hl=>Bf hl fun _ hl=>Bf hl fun _ hl=>Bf hl fun _ hl=>hl
  |_+2,hl=>hl) (fun n=>⟨
  fun f h hl=>by
    refine Bc 0 hl fun _ _ hl=>?_;refine Be 1 hl fun _ hl=>?_;refine Be 2 hl fun _ hl=>?_;exact Eq.mpr (Bdu ..) hl,
  fun f h hl=>by
    refine Bc 0 hl fun _ _ hl=>?_;refine Be 1 hl fun _ hl=>?_;refine Be 2 hl fun _ hl=>?_;refine Be 7 hl fun _ hl=>?_;exact Eq.mpr (Bdt ..) hl,
  trivial⟩) rfl hg
end
theorem g68{c:CF}{k:KV}{n l_0 c_0:Nat}{n_1 n_2:Int}{h:H}(hg:Ami c k (r68 c k n) l_0 c_0 n_1 n_2 h):f68 (r68 c k (n+1)) 0 (Ab [.str l_0 c_0,.int .i64 n_1,.int .i64 n_2]) h:=hg
theorem Bbx{c:CF}{k:KV}{n x0 x1:Nat}{x2 x3 x4:Int}{h:H}(hg:Amh c k (r68 c k n) x0 x1 x2 x3 x4 h):(r68 c k (n+1)).a1 x0 x1 x2 x3 x4 h:=hg
end Go.Den
noncomputable section
namespace Go.Den
open Go.Proofs
set_option maxRecDepth 100000
def d69:Code:=Option.rec .skip (fun c=>c) Tryz.f69.body
def q69:Aw:=[]
structure J69 where
 a0:Int→H→Prop
def Amg(_c:CF)(k:KV)(_J:J69)(n_0:Int)(h:H):Prop:=
 Ao (fun k1=>gate true (Fw (Int.ofNat 48) n_0)
 (k1 (Fw n_0 (Int.ofNat 57)) h)
 (k1 false h)) fun b3 h2=>
 cnd b3
 (fI (wrap .u8 (Hw n_0 (Int.ofNat 48))) fun n4=>
 fI (wrap .i64 n4) fun n5=>
 k (.int .i64 n5) h2)
 (Ao (fun k6=>gate true (Fw (Int.ofNat 97) n_0)
 (k6 (Fw n_0 (Int.ofNat 102)) h2)
 (k6 false h2)) fun b8 h7=>
 cnd b8
 (fI (wrap .u8 (Hw n_0 (Int.ofNat 97))) fun n9=>
 fI (wrap .i64 n9) fun n10=>
 fI (wrap .i64 (Cd n10 (Int.ofNat 10))) fun n11=>
 k (.int .i64 n11) h7)
 (Ao (fun k12=>gate true (Fw (Int.ofNat 65) n_0)
 (k12 (Fw n_0 (Int.ofNat 70)) h7)
 (k12 false h7)) fun b14 h13=>
 cnd b14
 (fI (wrap .u8 (Hw n_0 (Int.ofNat 65))) fun n15=>
 fI (wrap .i64 n15) fun n16=>
 fI (wrap .i64 (Cd n16 (Int.ofNat 10))) fun n17=>
 k (.int .i64 n17) h13)
 (k (.int .i64 (Int.ofNat 99)) h13)))
def z69:J69:=⟨fun _ _=>False⟩
def r69(c:CF)(k:KV)(m:Nat):J69:=Nat.rec z69 (fun _ J=>⟨Amg c k J⟩) m
def f69(J:J69):Jump:=fun L f h=>match L with
 |0=>asI .u8 (f 0) fun n_0=>J.a0 n_0 h
 |_=>False
def u69:Bm:=[(.root,0)]
section
variable{c:CF}{k:KV}{f:FT}{h:H}
theorem Bds(J:J69)(n_0:Int):zqe c k q69 u69 (f69 J) d69 Tryz.f69 .root (Ae f 0 (.int .u8 n_0)) h=Amg c k J n_0 h:=by kernel_rfl
theorem w69(hc:Bv c){n:Nat}{a:List AV}(hg:f69 (r69 c k n) 0 (Ab a) h):zqs 69 a h k:=
 zqw hc q69 Tryz.func69 rfl (by kernel_rfl) (by kernel_rfl) k u69 (fun n=>f69 (r69 c k n)) (fun L _ _ hl=>match L,hl with
  |0,hl=>Bf hl fun _ hl=>hl
  |_+1,hl=>hl) (fun n=>⟨
  fun f h hl=>by
    refine Be 0 hl fun _ hl=>?_;exact Eq.mpr (Bds ..) hl,
  trivial⟩) rfl hg
end
theorem g69{c:CF}{k:KV}{n:Nat}{n_0:Int}{h:H}(hg:Amg c k (r69 c k n) n_0 h):f69 (r69 c k (n+1)) 0 (Ab [.int .u8 n_0]) h:=hg
end Go.Den
noncomputable section
namespace Go.Den
open Go.Proofs
set_option maxRecDepth 100000
def d70:Code:=Option.rec .skip (fun c=>c) Tryz.f70.body
def q70:Aw:=[]
structure J70 where
 a0:Nat→Nat→H→Prop
 a1:Nat→Nat→AV→Nat→Nat→Int→H→Prop
 a2:Nat→Nat→AV→Nat→Nat→Int→Int→H→Prop
 a3:AV→Nat→Nat→Int→H→Prop
def Amf(_c:CF)(_k:KV)(J:J70)(l_0 c_0:Nat)(h:H):Prop:=
 oK (Au env 44 (fun e ei=>Ak 8 [(0,(.str 0 0)),(1,(.str 1 117)),(2,(.str 1 108)),(3,(.str 2 27765)),(4,(.str 2 30060)),(5,(.str 2 27756)),(6,(.str 3 7105653)),(7,(.str 3 7695468))] h e ei)) fun v1 h2=>
 J.a1 l_0 c_0 v1 0 0 (Int.ofNat 0) h2
def Ame(_c:CF)(k:KV)(J:J70)(l_0 c_0:Nat)(v_4:AV)(l_5 c_5:Nat)(n_6:Int)(h:H):Prop:=
 cnd (Cl n_6 (Int.ofNat l_0))
 (Bz n_6 fun m3=>
 Ci l_0 c_0 m3 fun m4=>
 cnd (Ba (Int.ofNat m4) (Int.ofNat 85))
 (J.a2 l_0 c_0 v_4 l_5 c_5 n_6 (Int.ofNat 117) h)
 (cnd (Ba (Int.ofNat m4) (Int.ofNat 76))
 (fI (wrap .i64 (Cd n_6 (Int.ofNat 1))) fun n5=>
 Ao (fun k6=>gate true (Cl n5 (Int.ofNat l_0))
 (fI (wrap .i64 (Cd n_6 (Int.ofNat 1))) fun n9=>
 Bz n9 fun m10=>
 Ci l_0 c_0 m10 fun m11=>
 k6 (Ba (Int.ofNat m11) (Int.ofNat 108)) h)
 (k6 false h)) fun b8 h7=>
 Ao (fun k12=>gate false b8
 (Ao (fun k15=>gate true (Cl (Int.ofNat 0) n_6)
 (fI (wrap .i64 (Hw n_6 (Int.ofNat 1))) fun n18=>
 Bz n18 fun m19=>
 Ci l_0 c_0 m19 fun m20=>
 k15 (Ba (Int.ofNat m20) (Int.ofNat 108)) h7)
 (k15 false h7)) fun b17 h16=>
 k12 b17 h16)
 (k12 true h7)) fun b14 h13=>
 cnd b14
 (k (.tuple [(.bool false),(.bool false)]) h13)
 (J.a2 l_0 c_0 v_4 l_5 c_5 n_6 (Int.ofNat 108) h13))
 (J.a2 l_0 c_0 v_4 l_5 c_5 n_6 (Int.ofNat m4) h)))
 (J.a3 v_4 l_5 c_5 (Int.ofNat 0) h)
def Amd(_c:CF)(_k:KV)(J:J70)(l_0 c_0:Nat)(v_4:AV)(l_5 c_5:Nat)(n_6 n_7:Int)(h:H):Prop:=
 oK (Au env 115 (fun e ei=>Ak 1 [(0,(.int .u8 n_7))] h e ei)) fun v21 h22=>
 oK (Fz env h22 115 9 v21) fun v23 h24=>
 asS v23 fun l25 c26=>
 Abu l_5 c_5 l25 c26 fun l27 c28=>
 fI (wrap .i64 (Cd n_6 (Int.ofNat 1))) fun n29=>
 J.a1 l_0 c_0 v_4 l27 c28 n29 h24
def Amc(_c:CF)(k:KV)(J:J70)(v_4:AV)(l_5 c_5:Nat)(n_8:Int)(h:H):Prop:=
 Gn v_4 fun m30=>
 cnd (Cl n_8 (Int.ofNat m30))
 (Bz n_8 fun m31=>
 Dd 1 m31 v_4 fun v32=>
 ld1 v32 h fun v33=>
 asS v33 fun l34 c35=>
 cnd (Bg l34 c35 l_5 c_5)
 (Ao (fun k36=>gate false (Ba n_8 (Int.ofNat 1))
 (k36 (Ba n_8 (Int.ofNat 3)) h)
 (k36 true h)) fun b38 h37=>
 Ao (fun k39=>gate false b38
 (k39 (Ba n_8 (Int.ofNat 4)) h37)
 (k39 true h37)) fun b41 h40=>
 Ao (fun k42=>gate false b41
 (k42 (Fw (Int.ofNat 6) n_8) h40)
 (k42 true h40)) fun b44 h43=>
 k (.tuple [(.bool b44),(.bool true)]) h43)
 (fI (wrap .i64 (Cd n_8 (Int.ofNat 1))) fun n45=>
 J.a3 v_4 l_5 c_5 n45 h))
 (k (.tuple [(.bool false),(.bool false)]) h)
def z70:J70:=⟨fun _ _ _=>False,fun _ _ _ _ _ _ _=>False,fun _ _ _ _ _ _ _ _=>False,fun _ _ _ _ _=>False⟩
def r70(c:CF)(k:KV)(m:Nat):J70:=Nat.rec z70 (fun _ J=>⟨Amf c k J,Ame c k J,Amd c k J,Amc c k J⟩) m
def f70(J:J70):Jump:=fun L f h=>match L with
 |0=>asS (f 0) fun l_0 c_0=>J.a0 l_0 c_0 h
 |1=>asS (f 0) fun l_0 c_0=>asS (f 5) fun l_5 c_5=>asI .i64 (f 6) fun n_6=>J.a1 l_0 c_0 (f 4) l_5 c_5 n_6 h
 |2=>asS (f 0) fun l_0 c_0=>asS (f 5) fun l_5 c_5=>asI .i64 (f 6) fun n_6=>asI .u8 (f 7) fun n_7=>J.a2 l_0 c_0 (f 4) l_5 c_5 n_6 n_7 h
 |3=>asS (f 5) fun l_5 c_5=>asI .i64 (f 8) fun n_8=>J.a3 (f 4) l_5 c_5 n_8 h
 |_=>False
def u70:Bm:=[(.root,0),((.l (.r (.l (.r (.r (.r .root)))))),1),((.r (.r (.l (.l (.r (.l (.l (.r (.l (.r (.r (.r .root)))))))))))),2),((.l (.r (.l (.r (.r (.r (.r .root))))))),3)]
section
variable{c:CF}{k:KV}{f:FT}{h:H}
theorem Bdr(J:J70)(l_0 c_0:Nat):zqe c k q70 u70 (f70 J) d70 Tryz.f70 .root (Ae f 0 (.str l_0 c_0)) h=Amf c k J l_0 c_0 h:=by kernel_rfl
theorem Bdq(J:J70)(l_0 c_0:Nat)(l_5 c_5:Nat)(n_6:Int):zqe c k q70 u70 (f70 J) d70 Tryz.f70 (.l (.r (.l (.r (.r (.r .root)))))) (Ae (Ae (Ae f 0 (.str l_0 c_0)) 5 (.str l_5 c_5)) 6 (.int .i64 n_6)) h=Ame c k J l_0 c_0 (f 4) l_5 c_5 n_6 h:=by kernel_rfl
theorem Bdp(J:J70)(l_0 c_0:Nat)(l_5 c_5:Nat)(n_6 n_7:Int):zqe c k q70 u70 (f70 J) d70 Tryz.f70 (.r (.r (.l (.l (.r (.l (.l (.r (.l (.r (.r (.r .root)))))))))))) (Ae (Ae (Ae (Ae f 0 (.str l_0 c_0)) 5 (.str l_5 c_5)) 6 (.int .i64 n_6)) 7 (.int .u8 n_7)) h=Amd c k J l_0 c_0 (f 4) l_5 c_5 n_6 n_7 h:=by kernel_rfl
theorem Bdo(J:J70)(l_5 c_5:Nat)(n_8:Int):zqe c k q70 u70 (f70 J) d70 Tryz.f70 (.l (.r (.l (.r (.r (.r (.r .root))))))) (Ae (Ae f 5 (.str l_5 c_5)) 8 (.int .i64 n_8)) h=Amc c k J (f 4) l_5 c_5 n_8 h:=by kernel_rfl
theorem w70(hc:Bv c){n:Nat}{a:List AV}(hg:f70 (r70 c k n) 0 (Ab a) h):zqs 70 a h k:=
 zqw hc q70 Tryz.func70 rfl (by kernel_rfl) (by kernel_rfl) k u70 (fun n=>f70 (r70 c k n)) (fun L _ _ hl=>match L,hl with
  |0,hl=>Bd hl fun _ _ hl=>hl
  |1,hl=>Bd hl fun _ _ hl=>Bd hl fun _ _ hl=>Bf hl fun _ hl=>hl
  |2,hl=>Bd hl fun _ _ hl=>Bd hl fun _ _ hl=>Bf hl fun _ hl=>Bf hl fun _ hl=>hl
  |3,hl=>Bd hl fun _ _ hl=>Bf hl fun _ hl=>hl
  |_+4,hl=>hl) (fun n=>⟨
  fun f h hl=>by
    refine Bc 0 hl fun _ _ hl=>?_;exact Eq.mpr (Bdr ..) hl,
  fun f h hl=>by
    refine Bc 0 hl fun _ _ hl=>?_;refine Bc 5 hl fun _ _ hl=>?_;refine Be 6 hl fun _ hl=>?_;exact Eq.mpr (Bdq ..) hl,
  fun f h hl=>by
    refine Bc 0 hl fun _ _ hl=>?_;refine Bc 5 hl fun _ _ hl=>?_;refine Be 6 hl fun _ hl=>?_;refine Be 7 hl fun _ hl=>?_;exact Eq.mpr (Bdp ..) hl,
  fun f h hl=>by
    refine Bc 5 hl fun _ _ hl=>?_;refine Be 8 hl fun _ hl=>?_;exact Eq.mpr (Bdo ..) hl,
  trivial⟩) rfl hg
end
theorem g70{c:CF}{k:KV}{n l_0 c_0:Nat}{h:H}(hg:Amf c k (r70 c k n) l_0 c_0 h):f70 (r70 c k (n+1)) 0 (Ab [.str l_0 c_0]) h:=hg
theorem Bbw{c:CF}{k:KV}{n x0 x1:Nat}{x2:AV}{x3 x4:Nat}{x5:Int}{h:H}(hg:Ame c k (r70 c k n) x0 x1 x2 x3 x4 x5 h):(r70 c k (n+1)).a1 x0 x1 x2 x3 x4 x5 h:=hg
theorem Bbv{c:CF}{k:KV}{n x0 x1:Nat}{x2:AV}{x3 x4:Nat}{x5 x6:Int}{h:H}(hg:Amd c k (r70 c k n) x0 x1 x2 x3 x4 x5 x6 h):(r70 c k (n+1)).a2 x0 x1 x2 x3 x4 x5 x6 h:=hg
theorem Bbu{c:CF}{k:KV}{n:Nat}{x0:AV}{x1 x2:Nat}{x3:Int}{h:H}(hg:Amc c k (r70 c k n) x0 x1 x2 x3 h):(r70 c k (n+1)).a3 x0 x1 x2 x3 h:=hg
end Go.Den
noncomputable section
namespace Go.Den
open Go.Proofs
set_option maxRecDepth 100000
def d71:Code:=Option.rec .skip (fun c=>c) Tryz.f71.body
def q71:Aw:=[]
structure J71 where
 a0:Nat→Nat→Int→H→Prop
 a1:Nat→Nat→Int→H→Prop
def Amb(_c:CF)(_k:KV)(J:J71)(l_0 c_0:Nat)(n_1:Int)(h:H):Prop:=
 Ao (fun k1=>gate true (Cl n_1 (Int.ofNat l_0))
 (Bz n_1 fun m4=>
 Ci l_0 c_0 m4 fun m5=>
 Ao (fun k6=>gate false (Ba (Int.ofNat m5) (Int.ofNat 43))
 (Bz n_1 fun m9=>
 Ci l_0 c_0 m9 fun m10=>
 k6 (Ba (Int.ofNat m10) (Int.ofNat 45)) h)
 (k6 true h)) fun b8 h7=>
 k1 b8 h7)
 (k1 false h)) fun b3 h2=>
 cnd b3
 (fI (wrap .i64 (Cd n_1 (Int.ofNat 1))) fun n11=>
 J.a1 l_0 c_0 n11 h2)
 (J.a1 l_0 c_0 n_1 h2)
def Ama(c:CF)(k:KV)(_J:J71)(l_0 c_0:Nat)(n_1:Int)(h:H):Prop:=
 c (.func 68) [(.str l_0 c_0),(.int .i64 n_1),(.int .i64 (Int.ofNat 10))] h fun v12 h13=>
 asI .i64 v12 fun n14=>
 fI (wrap .i64 (Cd n_1 n14)) fun n15=>
 k (.tuple [(.int .i64 n15),(.bool (Cl (Int.ofNat 0) n14))]) h13
def z71:J71:=⟨fun _ _ _ _=>False,fun _ _ _ _=>False⟩
def r71(c:CF)(k:KV)(m:Nat):J71:=Nat.rec z71 (fun _ J=>⟨Amb c k J,Ama c k J⟩) m
def f71(J:J71):Jump:=fun L f h=>match L with
 |0=>asS (f 0) fun l_0 c_0=>asI .i64 (f 1) fun n_1=>J.a0 l_0 c_0 n_1 h
 |1=>asS (f 0) fun l_0 c_0=>asI .i64 (f 1) fun n_1=>J.a1 l_0 c_0 n_1 h
 |_=>False
def u71:Bm:=[(.root,0),((.r (.r .root)),1)]
section
variable{c:CF}{k:KV}{f:FT}{h:H}
theorem Bdn(J:J71)(l_0 c_0:Nat)(n_1:Int):zqe c k q71 u71 (f71 J) d71 Tryz.f71 .root (Ae (Ae f 0 (.str l_0 c_0)) 1 (.int .i64 n_1)) h=Amb c k J l_0 c_0 n_1 h:=by kernel_rfl
theorem Bdm(J:J71)(l_0 c_0:Nat)(n_1:Int):zqe c k q71 u71 (f71 J) d71 Tryz.f71 (.r (.r .root)) (Ae (Ae f 0 (.str l_0 c_0)) 1 (.int .i64 n_1)) h=Ama c k J l_0 c_0 n_1 h:=by kernel_rfl
theorem w71(hc:Bv c){n:Nat}{a:List AV}(hg:f71 (r71 c k n) 0 (Ab a) h):zqs 71 a h k:=
 zqw hc q71 Tryz.func71 rfl (by kernel_rfl) (by kernel_rfl) k u71 (fun n=>f71 (r71 c k n)) (fun L _ _ hl=>match L,hl with
  |0,hl=>Bd hl fun _ _ hl=>Bf hl fun _ hl=>hl
  |1,hl=>Bd hl fun _ _ hl=>Bf hl fun _ hl=>hl
  |_+2,hl=>hl) (fun n=>⟨
  fun f h hl=>by
    refine Bc 0 hl fun _ _ hl=>?_;refine Be 1 hl fun _ hl=>?_;exact Eq.mpr (Bdn ..) hl,
  fun f h hl=>by
    refine Bc 0 hl fun _ _ hl=>?_;refine Be 1 hl fun _ hl=>?_;exact Eq.mpr (Bdm ..) hl,
  trivial⟩) rfl hg
end
theorem g71{c:CF}{k:KV}{n l_0 c_0:Nat}{n_1:Int}{h:H}(hg:Amb c k (r71 c k n) l_0 c_0 n_1 h):f71 (r71 c k (n+1)) 0 (Ab [.str l_0 c_0,.int .i64 n_1]) h:=hg
theorem Bbt{c:CF}{k:KV}{n x0 x1:Nat}{x2:Int}{h:H}(hg:Ama c k (r71 c k n) x0 x1 x2 h):(r71 c k (n+1)).a1 x0 x1 x2 h:=hg
end Go.Den
noncomputable section
namespace Go.Den
open Go.Proofs
set_option maxRecDepth 100000
def d72:Code:=Option.rec .skip (fun c=>c) Tryz.f72.body
def q72:Aw:=[(7,[0,1,2,3,4,5,6,7,8,9])]
structure J72 where
 a0:Nat→Nat→H→Prop
 a1:Nat→Nat→AV→Int→H→Prop
def Al9(_c:CF)(_k:KV)(J:J72)(l_0 c_0:Nat)(h:H):Prop:=
 oK (Au env 115 (fun e ei=>Ak 2 [(0,(.int .u8 (Int.ofNat 39))),(1,(.int .u8 (Int.ofNat 34)))] h e ei)) fun v1 h2=>
 J.a1 l_0 c_0 v1 (Int.ofNat 0) h2
def Ag2(c:CF)(k:KV)(J:J72)(l_0 c_0:Nat)(v_5:AV)(n_6:Int)(h:H):Prop:=
 cnd (Cl n_6 (Int.ofNat 2))
 (Bz n_6 fun m3=>
 Dd 1 m3 v_5 fun v4=>
 ld1 v4 h fun v5=>
 asI .u8 v5 fun n6=>
 c (.func 121) [(.str l_0 c_0),(.int .u8 n6)] h fun v7 h8=>
 asI .i64 v7 fun n9=>
 cnd (Fw (Int.ofNat 0) n9)
 (Bz n9 fun m10=>
 Fm l_0 c_0 0 m10 fun l11 c12=>
 Bz n_6 fun m13=>
 Dd 1 m13 v_5 fun v14=>
 ld1 v14 h8 fun v15=>
 asI .u8 v15 fun n16=>
 k (.tuple [(.str l11 c12),(.int .u8 n16),(.bool true)]) h8)
 (fI (wrap .i64 (Cd n_6 (Int.ofNat 1))) fun n17=>
 J.a1 l_0 c_0 v_5 n17 h8))
 (k (.tuple [(.str 0 0),(.int .u8 (Int.ofNat 0)),(.bool false)]) h)
def z72:J72:=⟨fun _ _ _=>False,fun _ _ _ _ _=>False⟩
def r72(c:CF)(k:KV)(m:Nat):J72:=Nat.rec z72 (fun _ J=>⟨Al9 c k J,Ag2 c k J⟩) m
def f72(J:J72):Jump:=fun L f h=>match L with
 |0=>asS (f 0) fun l_0 c_0=>J.a0 l_0 c_0 h
 |1=>asS (f 0) fun l_0 c_0=>asI .i64 (f 6) fun n_6=>J.a1 l_0 c_0 (f 5) n_6 h
 |_=>False
def u72:Bm:=[(.root,0),((.l (.r (.l (.r (.r .root))))),1)]
section
variable{c:CF}{k:KV}{f:FT}{h:H}
theorem Bdl(J:J72)(l_0 c_0:Nat):zqe c k q72 u72 (f72 J) d72 Tryz.f72 .root (Ae f 0 (.str l_0 c_0)) h=Al9 c k J l_0 c_0 h:=by kernel_rfl
theorem Bdk(J:J72)(l_0 c_0:Nat)(n_6:Int):zqe c k q72 u72 (f72 J) d72 Tryz.f72 (.l (.r (.l (.r (.r .root))))) (Ae (Ae f 0 (.str l_0 c_0)) 6 (.int .i64 n_6)) h=Ag2 c k J l_0 c_0 (f 5) n_6 h:=by kernel_rfl
theorem w72(hc:Bv c){n:Nat}{a:List AV}(hg:f72 (r72 c k n) 0 (Ab a) h):zqs 72 a h k:=
 zqw hc q72 Tryz.func72 rfl (by kernel_rfl) (by kernel_rfl) k u72 (fun n=>f72 (r72 c k n)) (fun L _ _ hl=>match L,hl with
  |0,hl=>Bd hl fun _ _ hl=>hl
  |1,hl=>Bd hl fun _ _ hl=>Bf hl fun _ hl=>hl
  |_+2,hl=>hl) (fun n=>⟨
  fun f h hl=>by
    refine Bc 0 hl fun _ _ hl=>?_;exact Eq.mpr (Bdl ..) hl,
  fun f h hl=>by
    refine Bc 0 hl fun _ _ hl=>?_;refine Be 6 hl fun _ hl=>?_;exact Eq.mpr (Bdk ..) hl,
  trivial⟩) rfl hg
end
theorem g72{c:CF}{k:KV}{n l_0 c_0:Nat}{h:H}(hg:Al9 c k (r72 c k n) l_0 c_0 h):f72 (r72 c k (n+1)) 0 (Ab [.str l_0 c_0]) h:=hg
theorem A0l{c:CF}{k:KV}{n x0 x1:Nat}{x2:AV}{x3:Int}{h:H}(hg:Ag2 c k (r72 c k n) x0 x1 x2 x3 h):(r72 c k (n+1)).a1 x0 x1 x2 x3 h:=hg
end Go.Den
noncomputable section
namespace Go.Den
open Go.Proofs
set_option maxRecDepth 100000
def d73:Code:=Option.rec .skip (fun c=>c) Tryz.f73.body
def q73:Aw:=[(4,[0,1,2,3,4,5,6,7,8,9])]
structure J73 where
 a0:Nat→Nat→H→Prop
 a1:Nat→Nat→Int→H→Prop
 a2:Nat→Nat→Int→Int→Int→Int→Int→H→Prop
 a3:Nat→Nat→Int→Int→Int→Int→H→Prop
def Al8(_c:CF)(_k:KV)(J:J73)(l_0 c_0:Nat)(h:H):Prop:=
 J.a1 l_0 c_0 (Int.ofNat 0) h
def Al7(c:CF)(k:KV)(J:J73)(l_0 c_0:Nat)(n_4:Int)(h:H):Prop:=
 cnd (Cl n_4 (Int.ofNat 11))
 (Ao (fun k1=>gate true (Cl (Int.ofNat 0) (Int.ofNat l_0))
 (Ci l_0 c_0 0 fun m4=>
 Bz n_4 fun m5=>
 Ci 11 143203152110517486444552743 m5 fun m6=>
 k1 (Ba (Int.ofNat m4) (Int.ofNat m6)) h)
 (k1 false h)) fun b3 h2=>
 cnd b3
 (Bz n_4 fun m7=>
 Ci 11 13340925845742173758104103 m7 fun m8=>
 k (.tuple [(.int .u8 (Int.ofNat m8)),(.int .i64 (Int.ofNat 1))]) h2)
 (fI (wrap .i64 (Cd n_4 (Int.ofNat 1))) fun n9=>
 J.a1 l_0 c_0 n9 h2))
 (c (.func 68) [(.str l_0 c_0),(.int .i64 (Int.ofNat 0)),(.int .i64 (Int.ofNat 8))] h fun v10 h11=>
 asI .i64 v10 fun n12=>
 oK (Az env .min [3,3] [(.int .i64 n12),(.int .i64 (Int.ofNat 3))] h11) fun v13 h14=>
 asI .i64 v13 fun n15=>
 Ao (fun k16=>gate true (Cl (Int.ofNat 0) (Int.ofNat l_0))
 (Ci l_0 c_0 0 fun m19=>
 k16 (Ba (Int.ofNat m19) (Int.ofNat 120)) h14)
 (k16 false h14)) fun b18 h17=>
 cnd b18
 (c (.func 68) [(.str l_0 c_0),(.int .i64 (Int.ofNat 1)),(.int .i64 (Int.ofNat 16))] h17 fun v20 h21=>
 asI .i64 v20 fun n22=>
 J.a3 l_0 c_0 (Int.ofNat 0) n22 (Int.ofNat 16) (Int.ofNat 1) h21)
 (J.a3 l_0 c_0 (Int.ofNat 0) n15 (Int.ofNat 8) (Int.ofNat 0) h17))
def Al6(c:CF)(k:KV)(J:J73)(l_0 c_0:Nat)(n_5 n_6:Int)(n_7 n_8 n_9:Int)(h:H):Prop:=
 fI (wrap .i64 (Cd n_8 n_6)) fun n23=>
 cnd (Cl n_9 n23)
 (fI (wrap .i64 (n_5*n_7)) fun n24=>
 Bz n_9 fun m25=>
 Ci l_0 c_0 m25 fun m26=>
 c (.func 69) [(.int .u8 (Int.ofNat m26))] h fun v27 h28=>
 asI .i64 v27 fun n29=>
 fI (wrap .i64 (Cd n24 n29)) fun n30=>
 Asb n30 (Int.ofNat 256) fun n31=>
 fI (wrap .i64 (Cd n_9 (Int.ofNat 1))) fun n32=>
 J.a2 l_0 c_0 n31 n_6 n_7 n_8 n32 h28)
 (fI (wrap .u8 n_5) fun n33=>
 fI (wrap .i64 (Cd n_8 n_6)) fun n34=>
 k (.tuple [(.int .u8 n33),(.int .i64 n34)]) h)
def Al5(_c:CF)(k:KV)(J:J73)(l_0 c_0:Nat)(n_5 n_6:Int)(n_7 n_8:Int)(h:H):Prop:=
 cnd (Ba n_6 (Int.ofNat 0))
 (k (.tuple [(.int .u8 (Int.ofNat 0)),(.int .i64 (Int.ofNat 0))]) h)
 (J.a2 l_0 c_0 n_5 n_6 n_7 n_8 n_8 h)
def z73:J73:=⟨fun _ _ _=>False,fun _ _ _ _=>False,fun _ _ _ _ _ _ _ _=>False,fun _ _ _ _ _ _ _=>False⟩
def r73(c:CF)(k:KV)(m:Nat):J73:=Nat.rec z73 (fun _ J=>⟨Al8 c k J,Al7 c k J,Al6 c k J,Al5 c k J⟩) m
def f73(J:J73):Jump:=fun L f h=>match L with
 |0=>asS (f 0) fun l_0 c_0=>J.a0 l_0 c_0 h
 |1=>asS (f 0) fun l_0 c_0=>asI .i64 (f 4) fun n_4=>J.a1 l_0 c_0 n_4 h
 |2=>asS (f 0) fun l_0 c_0=>asI .i64 (f 5) fun n_5=>asI .i64 (f 6) fun n_6=>asI .i64 (f 7) fun n_7=>asI .i64 (f 8) fun n_8=>asI .i64 (f 9) fun n_9=>J.a2 l_0 c_0 n_5 n_6 n_7 n_8 n_9 h
 |3=>asS (f 0) fun l_0 c_0=>asI .i64 (f 5) fun n_5=>asI .i64 (f 6) fun n_6=>asI .i64 (f 7) fun n_7=>asI .i64 (f 8) fun n_8=>J.a3 l_0 c_0 n_5 n_6 n_7 n_8 h
 |_=>False
def u73:Bm:=[(.root,0),((.l (.r (.l (.r .root)))),1),((.l (.r (.l (.r (.r (.r (.r (.r (.r (.r .root)))))))))),2),((.r (.r (.r (.r (.r (.r .root)))))),3)]
section
variable{c:CF}{k:KV}{f:FT}{h:H}
theorem Bdj(J:J73)(l_0 c_0:Nat):zqe c k q73 u73 (f73 J) d73 Tryz.f73 .root (Ae f 0 (.str l_0 c_0)) h=Al8 c k J l_0 c_0 h:=by kernel_rfl
theorem Bdi(J:J73)(l_0 c_0:Nat)(n_4:Int):zqe c k q73 u73 (f73 J) d73 Tryz.f73 (.l (.r (.l (.r .root)))) (Ae (Ae f 0 (.str l_0 c_0)) 4 (.int .i64 n_4)) h=Al7 c k J l_0 c_0 n_4 h:=by kernel_rfl
theorem Bdh(J:J73)(l_0 c_0:Nat)(n_5 n_6:Int)(n_7 n_8 n_9:Int):zqe c k q73 u73 (f73 J) d73 Tryz.f73 (.l (.r (.l (.r (.r (.r (.r (.r (.r (.r .root)))))))))) (Ae (Ae (Ae (Ae (Ae (Ae f 0 (.str l_0 c_0)) 5 (.int .i64 n_5)) 6 (.int .i64 n_6)) 7 (.int .i64 n_7)) 8 (.int .i64 n_8)) 9 (.int .i64 n_9)) h=Al6 c k J l_0 c_0 n_5 n_6 n_7 n_8 n_9 h:=by kernel_rfl
theorem Bdg(J:J73)(l_0 c_0:Nat)(n_5 n_6:Int)(n_7 n_8:Int):zqe c k q73 u73 (f73 J) d73 Tryz.f73 (.r (.r (.r (.r (.r (.r .root)))))) (Ae (Ae (Ae (Ae (Ae f 0 (.str l_0 c_0)) 5 (.int .i64 n_5)) 6 (.int .i64 n_6)) 7 (.int .i64 n_7)) 8 (.int .i64 n_8)) h=Al5 c k J l_0 c_0 n_5 n_6 n_7 n_8 h:=by kernel_rfl
theorem w73(hc:Bv c){n:Nat}{a:List AV}(hg:f73 (r73 c k n) 0 (Ab a) h):zqs 73 a h k:=
 zqw hc q73 Tryz.func73 rfl (by kernel_rfl) (by kernel_rfl) k u73 (fun n=>f73 (r73 c k n)) (fun L _ _ hl=>match L,hl with
  |0,hl=>Bd hl fun _ _ hl=>hl
  |1,hl=>Bd hl fun _ _ hl=>Bf hl fun _ hl=>hl
  |2,hl=>Bd hl fun _ _ hl=>Bf hl fun _ hl=>Bf hl fun _ hl=>Bf hl fun _ hl=>Bf hl fun _ hl=>Bf hl fun _ hl=>hl
  |3,hl=>Bd hl fun _ _ hl=>Bf hl fun _ hl=>Bf hl fun _ hl=>Bf hl fun _ hl=>Bf hl fun _ hl=>hl
  |_+4,hl=>hl) (fun n=>⟨
  fun f h hl=>by
    refine Bc 0 hl fun _ _ hl=>?_;exact Eq.mpr (Bdj ..) hl,
  fun f h hl=>by
    refine Bc 0 hl fun _ _ hl=>?_;refine Be 4 hl fun _ hl=>?_;exact Eq.mpr (Bdi ..) hl,
  fun f h hl=>by
    refine Bc 0 hl fun _ _ hl=>?_;refine Be 5 hl fun _ hl=>?_;refine Be 6 hl fun _ hl=>?_;refine Be 7 hl fun _ hl=>?_;refine Be 8 hl fun _ hl=>?_;refine Be 9 hl fun _ hl=>?_;exact Eq.mpr (Bdh ..) hl,
  fun f h hl=>by
    refine Bc 0 hl fun _ _ hl=>?_;refine Be 5 hl fun _ hl=>?_;refine Be 6 hl fun _ hl=>?_;refine Be 7 hl fun _ hl=>?_;refine Be 8 hl fun _ hl=>?_;exact Eq.mpr (Bdg ..) hl,
  trivial⟩) rfl hg
end
theorem g73{c:CF}{k:KV}{n l_0 c_0:Nat}{h:H}(hg:Al8 c k (r73 c k n) l_0 c_0 h):f73 (r73 c k (n+1)) 0 (Ab [.str l_0 c_0]) h:=hg
theorem Bbs{c:CF}{k:KV}{n x0 x1:Nat}{x2:Int}{h:H}(hg:Al7 c k (r73 c k n) x0 x1 x2 h):(r73 c k (n+1)).a1 x0 x1 x2 h:=hg
theorem Bbr{c:CF}{k:KV}{n x0 x1:Nat}{x2 x3:Int}{x4 x5 x6:Int}{h:H}(hg:Al6 c k (r73 c k n) x0 x1 x2 x3 x4 x5 x6 h):(r73 c k (n+1)).a2 x0 x1 x2 x3 x4 x5 x6 h:=hg
theorem Bbq{c:CF}{k:KV}{n x0 x1:Nat}{x2 x3:Int}{x4 x5:Int}{h:H}(hg:Al5 c k (r73 c k n) x0 x1 x2 x3 x4 x5 h):(r73 c k (n+1)).a3 x0 x1 x2 x3 x4 x5 h:=hg
end Go.Den
noncomputable section
namespace Go.Den
open Go.Proofs
set_option maxRecDepth 100000
def d121:Code:=Option.rec .skip (fun c=>c) Tryz.f121.body
def A3w:Aw:=[(6,[0,1,2,3,4,5,6,7,8,9,10,11,12,13,14,15,16,17,18,19,20,21,22,23,24,25,26,27,28,29,30])]
structure Aly where
 a0:Nat→Nat→Int→H→Prop
 a1:Nat→Nat→Int→AV→Int→H→Prop
def Aeq(_c:CF)(_k:KV)(J:Aly)(l_0 c_0:Nat)(n_1:Int)(h:H):Prop:=
 oK (Au env 44 (fun e ei=>Ak 5 [(0,(.str 0 0)),(1,(.str 1 76)),(2,(.str 1 117)),(3,(.str 1 85)),(4,(.str 2 14453))] h e ei)) fun v1 h2=>
 J.a1 l_0 c_0 n_1 v1 (Int.ofNat 0) h2
def Aep(_c:CF)(k:KV)(J:Aly)(l_0 c_0:Nat)(n_1:Int)(v_5:AV)(n_6:Int)(h:H):Prop:=
 Gn v_5 fun m3=>
 cnd (Cl n_6 (Int.ofNat m3))
 (Bz n_6 fun m4=>
 Dd 1 m4 v_5 fun v5=>
 ld1 v5 h fun v6=>
 asS v6 fun l7 _=>
 fI (wrap .i64 (Cd (Int.ofNat l7) (Int.ofNat 2))) fun n9=>
 Ao (fun k10=>gate true (Fw n9 (Int.ofNat l_0))
 (Fm l_0 c_0 0 l7 fun l13 c14=>
 Bz n_6 fun m15=>
 Dd 1 m15 v_5 fun v16=>
 ld1 v16 h fun v17=>
 asS v17 fun l18 c19=>
 k10 (Bg l13 c14 l18 c19) h)
 (k10 false h)) fun b12 h11=>
 Ao (fun k20=>gate true b12
 (Ci l_0 c_0 l7 fun m23=>
 k20 (Ba (Int.ofNat m23) n_1) h11)
 (k20 false h11)) fun b22 h21=>
 Ao (fun k24=>gate true b22
 (fI (wrap .i64 (Hw (Int.ofNat l_0) (Int.ofNat 1))) fun n27=>
 Bz n27 fun m28=>
 Ci l_0 c_0 m28 fun m29=>
 k24 (Ba (Int.ofNat m29) n_1) h21)
 (k24 false h21)) fun b26 h25=>
 cnd b26
 (k (.int .i64 (Int.ofNat l7)) h25)
 (fI (wrap .i64 (Cd n_6 (Int.ofNat 1))) fun n30=>
 J.a1 l_0 c_0 n_1 v_5 n30 h25))
 (k (.int .i64 (Int.negSucc 0)) h)
def Bhg:Aly:=⟨fun _ _ _ _=>False,fun _ _ _ _ _ _=>False⟩
def Ahh(c:CF)(k:KV)(m:Nat):Aly:=Nat.rec Bhg (fun _ J=>⟨Aeq c k J,Aep c k J⟩) m
def f121(J:Aly):Jump:=fun L f h=>match L with
 |0=>asS (f 0) fun l_0 c_0=>asI .u8 (f 1) fun n_1=>J.a0 l_0 c_0 n_1 h
 |1=>asS (f 0) fun l_0 c_0=>asI .u8 (f 1) fun n_1=>asI .i64 (f 6) fun n_6=>J.a1 l_0 c_0 n_1 (f 5) n_6 h
 |_=>False
def A2w:Bm:=[(.root,0),((.l (.r (.l (.r (.r .root))))),1)]
section
variable{c:CF}{k:KV}{f:FT}{h:H}
theorem A6v(J:Aly)(l_0 c_0:Nat)(n_1:Int):zqe c k A3w A2w (f121 J) d121 Tryz.f121 .root (Ae (Ae f 0 (.str l_0 c_0)) 1 (.int .u8 n_1)) h=Aeq c k J l_0 c_0 n_1 h:=by kernel_rfl
theorem A6u(J:Aly)(l_0 c_0:Nat)(n_1 n_6:Int):zqe c k A3w A2w (f121 J) d121 Tryz.f121 (.l (.r (.l (.r (.r .root))))) (Ae (Ae (Ae f 0 (.str l_0 c_0)) 1 (.int .u8 n_1)) 6 (.int .i64 n_6)) h=Aep c k J l_0 c_0 n_1 (f 5) n_6 h:=by kernel_rfl
theorem Bip(hc:Bv c){n:Nat}{a:List AV}(hg:f121 (Ahh c k n) 0 (Ab a) h):zqs 121 a h k:=
 zqw hc A3w Tryz.func121 rfl (by kernel_rfl) (by kernel_rfl) k A2w (fun n=>f121 (Ahh c k n)) (fun L _ _ hl=>match L,hl with
  |0,hl=>Bd hl fun _ _ hl=>Bf hl fun _ hl=>hl
  |1,hl=>Bd hl fun _ _ hl=>Bf hl fun _ hl=>Bf hl fun _ hl=>hl
  |_+2,hl=>hl) (fun n=>⟨
  fun f h hl=>by
    refine Bc 0 hl fun _ _ hl=>?_;refine Be 1 hl fun _ hl=>?_;exact Eq.mpr (A6v ..) hl,
  fun f h hl=>by
    refine Bc 0 hl fun _ _ hl=>?_;refine Be 1 hl fun _ hl=>?_;refine Be 6 hl fun _ hl=>?_;exact Eq.mpr (A6u ..) hl,
  trivial⟩) rfl hg
end
theorem Bjy{c:CF}{k:KV}{n l_0 c_0:Nat}{n_1:Int}{h:H}(hg:Aeq c k (Ahh c k n) l_0 c_0 n_1 h):f121 (Ahh c k (n+1)) 0 (Ab [.str l_0 c_0,.int .u8 n_1]) h:=hg
theorem A4w{c:CF}{k:KV}{n x0 x1:Nat}{x2:Int}{x3:AV}{x4:Int}{h:H}(hg:Aep c k (Ahh c k n) x0 x1 x2 x3 x4 h):(Ahh c k (n+1)).a1 x0 x1 x2 x3 x4 h:=hg
end Go.Den
noncomputable section
namespace Go.Den
open Go.Proofs
set_option maxRecDepth 100000
def d3:Code:=Option.rec .skip (fun c=>c) Tryz.f3.body
def q3:Aw:=[]
structure J3 where
 a0:AV→Nat→Nat→H→Prop
def Aya(c:CF)(k:KV)(_J:J3)(v_0:AV)(l_1 c_1:Nat)(h:H):Prop:=
 c (.func 14) [v_0,(.int .i64 (Int.ofNat 200))] h fun v1 h2=>
 asB v1 fun b3=>
 Ao (fun k4=>gate false (Cn b3)
 (k4 (Cl (Int.ofNat 100) (Int.ofNat l_1)) h2)
 (k4 true h2)) fun b6 h5=>
 cnd b6
 (c (.func 15) [] h5 fun v7 h8=>
 asB v7 fun b9=>
 k (.bool b9) h8)
 (c (.func 16) [v_0] h5 fun v10 h11=>
 ext 0 v10 fun v12=>
 ext 1 v10 fun v13=>
 c (.func 17) [v_0] h11 fun v14 h15=>
 ext 0 v14 fun v16=>
 ext 1 v14 fun v17=>
 c (.func 18) [v12,v16] h15 fun v18 h19=>
 asB v18 fun b20=>
 Ao (fun k21=>gate true b20
 (c (.func 19) [v13,v17] h19 fun v24 h25=>
 asB v24 fun b26=>
 k21 b26 h25)
 (k21 false h19)) fun b23 h22=>
 Ao (fun k27=>gate true b23
 (c (.func 20) [(.str l_1 c_1)] h22 fun v30 h31=>
 asB v30 fun b32=>
 c (.func 21) [(.str l_1 c_1)] h31 fun v33 h34=>
 asB v33 fun b35=>
 oV (Jk env .eql 4 (.bool b32) (.bool b35)) fun v36=>
 asB v36 fun b37=>
 k27 b37 h34)
 (k27 false h22)) fun b29 h28=>
 Ao (fun k38=>gate true b29
 (c (.func 15) [] h28 fun v41 h42=>
 asB v41 fun b43=>
 k38 b43 h42)
 (k38 false h28)) fun b40 h39=>
 k (.bool b40) h39)
def z3:J3:=⟨fun _ _ _ _=>False⟩
def r3(c:CF)(k:KV)(m:Nat):J3:=Nat.rec z3 (fun _ J=>⟨Aya c k J⟩) m
def f3(J:J3):Jump:=fun L f h=>match L with
 |0=>asS (f 1) fun l_1 c_1=>J.a0 (f 0) l_1 c_1 h
 |_=>False
def u3:Bm:=[(.root,0)]
section
variable{c:CF}{k:KV}{f:FT}{h:H}
theorem Bkl(J:J3)(l_1 c_1:Nat):zqe c k q3 u3 (f3 J) d3 Tryz.f3 .root (Ae f 1 (.str l_1 c_1)) h=Aya c k J (f 0) l_1 c_1 h:=by kernel_rfl
theorem w3(hc:Bv c){n:Nat}{a:List AV}(hg:f3 (r3 c k n) 0 (Ab a) h):zqs 3 a h k:=
 zqw hc q3 Tryz.func3 rfl (by kernel_rfl) (by kernel_rfl) k u3 (fun n=>f3 (r3 c k n)) (fun L _ _ hl=>match L,hl with
  |0,hl=>Bd hl fun _ _ hl=>hl
  |_+1,hl=>hl) (fun n=>⟨
  fun f h hl=>by
    refine Bc 1 hl fun _ _ hl=>?_;exact Eq.mpr (Bkl ..) hl,
  trivial⟩) rfl hg
end
theorem g3{c:CF}{k:KV}{n l_1 c_1:Nat}{v_0:AV}{h:H}(hg:Aya c k (r3 c k n) v_0 l_1 c_1 h):f3 (r3 c k (n+1)) 0 (Ab [v_0,.str l_1 c_1]) h:=hg
end Go.Den
