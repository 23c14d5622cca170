/-
 Proof.
-/
import Derived.Test.YtcnmehbkpaoolaaGreatDoorRunE
import Derived.KernelRfl
noncomputable section
namespace Go.Den
set_option maxRecDepth 100000
def Da:Ob FT:=rowOf 58 [(.int .u64 (Int.ofNat 0)),(.bool false)]
end Go.Den
noncomputable section
namespace Go.Den
open Go.Proofs
set_option maxRecDepth 100000
def d14:Code:=Option.rec .skip (fun c=>c) Tryz.f14.body
def q14:Aj:=[]
structure J14 where
 a0:AV→Int→H→Prop
 a1:AV→Int→H→Prop
def Amt(_c:CF)(k:KV)(J:J14)(v_0:AV)(n_1:Int)(h:H):Prop:=
 Hy v_0 fun m1=>
 cnd (Cs n_1 (Int.ofNat m1))
 (k (.bool false) h)
 (J.a1 v_0 (Int.ofNat 0) h)
def Ams(_c:CF)(k:KV)(J:J14)(v_0:AV)(n_5:Int)(h:H):Prop:=
 Hy v_0 fun m2=>
 cnd (Cs n_5 (Int.ofNat m2))
 (Df n_5 fun m3=>
 Dj 8 m3 v_0 fun v4=>
 Af 1 v4 fun v5=>
 ld1 v5 h fun v6=>
 asS v6 fun l7 _=>
 Ar (fun k9=>gate false (Cs (Int.ofNat 300) (Int.ofNat l7))
 (Df n_5 fun m12=>
 Dj 8 m12 v_0 fun v13=>
 Af 7 v13 fun v14=>
 ld1 v14 h fun v15=>
 Hy v15 fun m16=>
 k9 (Cs (Int.ofNat 20) (Int.ofNat m16)) h)
 (k9 true h)) fun b11 h10=>
 cnd b11
 (k (.bool false) h10)
 (fI (wrap .i64 (Cl n_5 (Int.ofNat 1))) fun n17=>
 J.a1 v_0 n17 h10))
 (k (.bool true) h)
def z14:J14:=⟨fun _ _ _=>False,fun _ _ _=>False⟩
def r14(c:CF)(k:KV)(m:Nat):J14:=Nat.rec z14 (fun _ J=>⟨Amt c k J,Ams c k J⟩) m
def f14(J:J14):Jump:=fun L f h=>match L with
 |0=>asI .i64 (f 1) fun n_1=>J.a0 (f 0) n_1 h
 |1=>asI .i64 (f 5) fun n_5=>J.a1 (f 0) n_5 h
 |_=>False
def u14:Ay:=[(.root,0),((.l (.r (.l (.r (.r .root))))),1)]
section
variable{c:CF}{k:KV}{f:FT}{h:H}
theorem Be6(J:J14)(n_1:Int):zqe c k q14 u14 (f14 J) d14 Tryz.f14 .root (Ah f 1 (.int .i64 n_1)) h=Amt c k J (f 0) n_1 h:=by kernel_rfl
theorem Be5(J:J14)(n_5:Int):zqe c k q14 u14 (f14 J) d14 Tryz.f14 (.l (.r (.l (.r (.r .root))))) (Ah f 5 (.int .i64 n_5)) h=Ams c k J (f 0) n_5 h:=by kernel_rfl
theorem w14(hc:Be c){n:Nat}{a:List AV}(hg:f14 (r14 c k n) 0 (Ab a) h):zqs 14 a h k:=
 zqw hc q14 Tryz.func14 rfl (by kernel_rfl) (by kernel_rfl) k u14 (fun n=>f14 (r14 c k n)) (fun L _ _ hl=>match L,hl with
  |0,hl=>Bq hl fun _ hl=>hl
  |1,hl=>Bq hl fun _ hl=>hl
  |_+2,hl=>hl) (fun n=>⟨
  fun f h hl=>by
    refine Bp 1 hl fun _ hl=>?_;exact Eq.mpr (Be6 ..) hl,
  fun f h hl=>by
    refine Bp 5 hl fun _ hl=>?_;exact Eq.mpr (Be5 ..) hl,
  trivial⟩) rfl hg
end
theorem g14{c:CF}{k:KV}{n:Nat}{n_1:Int}{v_0:AV}{h:H}(hg:Amt c k (r14 c k n) v_0 n_1 h):f14 (r14 c k (n+1)) 0 (Ab [v_0,.int .i64 n_1]) h:=hg
theorem Bc6{c:CF}{k:KV}{n:Nat}{x0:AV}{x1:Int}{h:H}(hg:Ams c k (r14 c k n) x0 x1 h):(r14 c k (n+1)).a1 x0 x1 h:=hg
end Go.Den
noncomputable section
namespace Go.Den
open Go.Proofs
set_option maxRecDepth 100000
def d27:Code:=Option.rec .skip (fun c=>c) Tryz.f27.body
def q27:Aj:=[]
structure J27 where
 a0:AV→H→Prop
def Amq(c:CF)(k:KV)(_J:J27)(v_0:AV)(h:H):Prop:=
 Hp.Cz h Da fun p1 h2=>
 oK (Ax env (env.ty 125) [(0,v_0)] h2) fun v3 h4=>
 asG v3 fun g5=>
 chk (Nat.ble 1 (len g5))<|
 Hp.Cz h4 (rowOf 125 g5) fun p6 h7=>
 c (.func 50) [(.ptr p6 0)] h7 fun v8 h9=>
 Hp.Cz h9 Da fun p10 h11=>
 stn 2 (.ptr p10 0) v8 h11 fun h12=>
 oK (Bd (.ptr p6 0) h12) fun v13 h14=>
 Af 2 v13 fun v15=>
 ld1 v15 h14 fun v16=>
 asB v16 fun b17=>
 Ar (fun k18=>gate false b17
 (oK (Bd (.ptr p6 0) h14) fun v21 h22=>
 Af 1 v21 fun v23=>
 ld1 v23 h22 fun v24=>
 asI .i64 v24 fun n25=>
 Hy v_0 fun m26=>
 k18 (Ck (Bm n25 (Int.ofNat m26))) h22)
 (k18 true h14)) fun b20 h19=>
 cnd b20
 (oK (Ax env (env.ty 58) [] h19) fun v27 h28=>
 stn 2 (.ptr p1 0) v27 h28 fun h29=>
 ldn 2 (.ptr p1 0) h29 fun v30=>
 k (.tuple [v30,(.bool false)]) h29)
 (ldn 2 (.ptr p10 0) h19 fun v31=>
 stn 2 (.ptr p1 0) v31 h19 fun h32=>
 ldn 2 (.ptr p1 0) h32 fun v33=>
 k (.tuple [v33,(.bool true)]) h32)
def z27:J27:=⟨fun _ _=>False⟩
def r27(c:CF)(k:KV)(m:Nat):J27:=Nat.rec z27 (fun _ J=>⟨Amq c k J⟩) m
def f27(J:J27):Jump:=fun L f h=>match L with
 |0=>J.a0 (f 0) h
 |_=>False
def u27:Ay:=[(.root,0)]
section
variable{c:CF}{k:KV}{f:FT}{h:H}
theorem Be3(J:J27):zqe c k q27 u27 (f27 J) d27 Tryz.f27 .root f h=Amq c k J (f 0) h:=by kernel_rfl
theorem w27(hc:Be c){n:Nat}{a:List AV}(hg:f27 (r27 c k n) 0 (Ab a) h):zqs 27 a h k:=
 zqw hc q27 Tryz.func27 rfl (by kernel_rfl) (by kernel_rfl) k u27 (fun n=>f27 (r27 c k n)) (fun L _ _ hl=>match L,hl with
  |0,hl=>hl
  |_+1,hl=>hl) (fun n=>⟨
  fun f h hl=>Eq.mpr (Be3 ..) hl,
  trivial⟩) rfl hg
end
theorem g27{c:CF}{k:KV}{n:Nat}{v_0:AV}{h:H}(hg:Amq c k (r27 c k n) v_0 h):f27 (r27 c k (n+1)) 0 (Ab [v_0]) h:=hg
end Go.Den
noncomputable section
namespace Go.Den
open Go.Proofs
set_option maxRecDepth 100000
def d37:Code:=Option.rec .skip (fun c=>c) Tryz.f37.body
def q37:Aj:=[]
structure J37 where
 a0:Nat→Nat→H→Prop
 a1:Nat→Nat→AV→Int→Int→Int→Int→Int→H→Prop
 a2:Nat→Nat→AV→Int→Int→H→Prop
def Amp(_c:CF)(_k:KV)(J:J37)(l_0 c_0:Nat)(h:H):Prop:=
 Hp.Cz h Da fun p1 h2=>
 Ar (fun k3=>gate true (Cs (Int.ofNat 0) (Int.ofNat l_0))
 (Dq l_0 c_0 0 fun m6=>
 k3 (Bm (Int.ofNat m6) (Int.ofNat 48)) h2)
 (k3 false h2)) fun b5 h4=>
 cnd b5
 (Ar (fun k7=>gate true (Cs (Int.ofNat 1) (Int.ofNat l_0))
 (Dq l_0 c_0 1 fun m10=>
 Ar (fun k11=>gate false (Bm (Int.ofNat m10) (Int.ofNat 120))
 (Dq l_0 c_0 1 fun m14=>
 k11 (Bm (Int.ofNat m14) (Int.ofNat 88)) h4)
 (k11 true h4)) fun b13 h12=>
 k7 b13 h12)
 (k7 false h4)) fun b9 h8=>
 cnd b9
 (J.a2 l_0 c_0 (.ptr p1 0) (Int.ofNat 16) (Int.ofNat 2) h8)
 (J.a2 l_0 c_0 (.ptr p1 0) (Int.ofNat 8) (Int.ofNat 0) h8))
 (J.a2 l_0 c_0 (.ptr p1 0) (Int.ofNat 10) (Int.ofNat 0) h4)
def Amo(c:CF)(k:KV)(J:J37)(l_0 c_0:Nat)(v_2:AV)(n_4 n_5:Int)(n_6 n_7 n_8:Int)(h:H):Prop:=
 fI (wrap .i64 (Cl n_5 n_6)) fun n15=>
 cnd (Cs n_8 n15)
 (Df n_8 fun m16=>
 Dq l_0 c_0 m16 fun m17=>
 c (.func 69) [(.int .u8 (Int.ofNat m17))] h fun v18 h19=>
 asI .i64 v18 fun n20=>
 fI (wrap .u64 n20) fun n21=>
 fI (wrap .u64 (Gl (Int.ofNat 18446744073709551615) n21)) fun n22=>
 fI (wrap .u64 n_4) fun n23=>
 Rx .u64 n22 n23 fun n24=>
 cnd (Cs n24 n_7)
 (oK (Ax env (env.ty 58) [] h19) fun v25 h26=>
 stn 2 v_2 v25 h26 fun h27=>
 ldn 2 v_2 h27 fun v28=>
 k (.tuple [v28,(.bool false)]) h27)
 (fI (wrap .u64 n_4) fun n29=>
 fI (wrap .u64 (n_7*n29)) fun n30=>
 fI (wrap .u64 (Cl n30 n21)) fun n31=>
 fI (wrap .i64 (Cl n_8 (Int.ofNat 1))) fun n32=>
 J.a1 l_0 c_0 v_2 n_4 n_5 n_6 n31 n32 h19))
 (fI (wrap .i64 (Cl n_5 n_6)) fun n33=>
 Df n33 fun m34=>
 Gq l_0 c_0 m34 l_0 fun l35 c36=>
 c (.func 70) [(.str l35 c36)] h fun v37 h38=>
 ext 0 v37 fun v39=>
 asB v39 fun b40=>
 ext 1 v37 fun v41=>
 asB v41 fun b42=>
 cnd (Ck b42)
 (oK (Ax env (env.ty 58) [] h38) fun v43 h44=>
 stn 2 v_2 v43 h44 fun h45=>
 ldn 2 v_2 h45 fun v46=>
 k (.tuple [v46,(.bool false)]) h45)
 (Ar (fun k47=>gate false b40
 (k47 (Cs (Int.ofNat 9223372036854775807) n_7) h38)
 (k47 true h38)) fun b49 h48=>
 oK (Ax env (env.ty 58) [(0,(.int .u64 n_7)),(1,(.bool b49))] h48) fun v50 h51=>
 stn 2 v_2 v50 h51 fun h52=>
 ldn 2 v_2 h52 fun v53=>
 k (.tuple [v53,(.bool true)]) h52))
def Amn(c:CF)(k:KV)(J:J37)(l_0 c_0:Nat)(v_2:AV)(n_4 n_5:Int)(h:H):Prop:=
 c (.func 68) [(.str l_0 c_0),(.int .i64 n_5),(.int .i64 n_4)] h fun v54 h55=>
 asI .i64 v54 fun n56=>
 cnd (Bm n56 (Int.ofNat 0))
 (oK (Ax env (env.ty 58) [] h55) fun v57 h58=>
 stn 2 v_2 v57 h58 fun h59=>
 ldn 2 v_2 h59 fun v60=>
 k (.tuple [v60,(.bool false)]) h59)
 (J.a1 l_0 c_0 v_2 n_4 n_5 n56 (Int.ofNat 0) n_5 h55)
def z37:J37:=⟨fun _ _ _=>False,fun _ _ _ _ _ _ _ _ _=>False,fun _ _ _ _ _ _=>False⟩
def r37(c:CF)(k:KV)(m:Nat):J37:=Nat.rec z37 (fun _ J=>⟨Amp c k J,Amo c k J,Amn c k J⟩) m
def f37(J:J37):Jump:=fun L f h=>match L with
 |0=>asS (f 0) fun l_0 c_0=>J.a0 l_0 c_0 h
 |1=>asS (f 0) fun l_0 c_0=>asI .i64 (f 4) fun n_4=>asI .i64 (f 5) fun n_5=>asI .i64 (f 6) fun n_6=>asI .u64 (f 7) fun n_7=>asI .i64 (f 8) fun n_8=>J.a1 l_0 c_0 (f 2) n_4 n_5 n_6 n_7 n_8 h
 |2=>asS (f 0) fun l_0 c_0=>asI .i64 (f 4) fun n_4=>asI .i64 (f 5) fun n_5=>J.a2 l_0 c_0 (f 2) n_4 n_5 h
 |_=>False
def u37:Ay:=[(.root,0),((.l (.r (.l (.r (.r (.r (.r (.r (.r .root))))))))),1),((.r (.r (.r .root))),2)]
section
variable{c:CF}{k:KV}{f:FT}{h:H}
theorem Be2(J:J37)(l_0 c_0:Nat):zqe c k q37 u37 (f37 J) d37 Tryz.f37 .root (Ah f 0 (.str l_0 c_0)) h=Amp c k J l_0 c_0 h:=by kernel_rfl
theorem Be1(J:J37)(l_0 c_0:Nat)(n_4 n_5:Int)(n_6 n_7 n_8:Int):zqe c k q37 u37 (f37 J) d37 Tryz.f37 (.l (.r (.l (.r (.r (.r (.r (.r (.r .root))))))))) (Ah (Ah (Ah (Ah (Ah (Ah f 0 (.str l_0 c_0)) 4 (.int .i64 n_4)) 5 (.int .i64 n_5)) 6 (.int .i64 n_6)) 7 (.int .u64 n_7)) 8 (.int .i64 n_8)) h=Amo c k J l_0 c_0 (f 2) n_4 n_5 n_6 n_7 n_8 h:=by kernel_rfl
theorem Be0(J:J37)(l_0 c_0:Nat)(n_4 n_5:Int):zqe c k q37 u37 (f37 J) d37 Tryz.f37 (.r (.r (.r .root))) (Ah (Ah (Ah f 0 (.str l_0 c_0)) 4 (.int .i64 n_4)) 5 (.int .i64 n_5)) h=Amn c k J l_0 c_0 (f 2) n_4 n_5 h:=by kernel_rfl
theorem w37(hc:Be c){n:Nat}{a:List AV}(hg:f37 (r37 c k n) 0 (Ab a) h):zqs 37 a h k:=
 zqw hc q37 Tryz.func37 rfl (by kernel_rfl) (by kernel_rfl) k u37 (fun n=>f37 (r37 c k n)) (fun L _ _ hl=>match L,hl with
  |0,hl=>Bv hl fun _ _ hl=>hl
  |1,hl=>Bv hl fun _ _ hl=>Bq hl fun _ hl=>Bq hl fun _ hl=>Bq hl fun _ hl=>Bq hl fun _ hl=>Bq hl fun _ hl=>hl
  |2,hl=>Bv hl fun _ _ hl=>Bq hl fun _ hl=>Bq hl fun _ hl=>hl
  |_+3,hl=>hl) (fun n=>⟨
  fun f h hl=>by
    refine Bu 0 hl fun _ _ hl=>?_;exact Eq.mpr (Be2 ..) hl,
  fun f h hl=>by
    refine Bu 0 hl fun _ _ hl=>?_;refine Bp 4 hl fun _ hl=>?_;refine Bp 5 hl fun _ hl=>?_;refine Bp 6 hl fun _ hl=>?_;refine Bp 7 hl fun _ hl=>?_;refine Bp 8 hl fun _ hl=>?_;exact Eq.mpr (Be1 ..) hl,
  fun f h hl=>by
    refine Bu 0 hl fun _ _ hl=>?_;refine Bp 4 hl fun _ hl=>?_;refine Bp 5 hl fun _ hl=>?_;exact Eq.mpr (Be0 ..) hl,
  trivial⟩) rfl hg
end
theorem g37{c:CF}{k:KV}{n l_0 c_0:Nat}{h:H}(hg:Amp c k (r37 c k n) l_0 c_0 h):f37 (r37 c k (n+1)) 0 (Ab [.str l_0 c_0]) h:=hg
theorem Bc5{c:CF}{k:KV}{n x0 x1:Nat}{x2:AV}{x3 x4:Int}{x5 x6 x7:Int}{h:H}(hg:Amo c k (r37 c k n) x0 x1 x2 x3 x4 x5 x6 x7 h):(r37 c k (n+1)).a1 x0 x1 x2 x3 x4 x5 x6 x7 h:=hg
theorem Bc4{c:CF}{k:KV}{n x0 x1:Nat}{x2:AV}{x3 x4:Int}{h:H}(hg:Amn c k (r37 c k n) x0 x1 x2 x3 x4 h):(r37 c k (n+1)).a2 x0 x1 x2 x3 x4 h:=hg
end Go.Den
noncomputable section
namespace Go.Den
open Go.Proofs
set_option maxRecDepth 100000
def d39:Code:=Option.rec .skip (fun c=>c) Tryz.f39.body
def q39:Aj:=[]
structure J39 where
 a0:Nat→Nat→H→Prop
 a1:AV→Nat→Nat→Nat→Nat→Int→Int→H→Prop
 a2:AV→Nat→Nat→Int→H→Prop
def Amm(c:CF)(k:KV)(J:J39)(l_0 c_0:Nat)(h:H):Prop:=
 Hp.Cz h Da fun p1 h2=>
 c (.func 72) [(.str l_0 c_0)] h2 fun v3 h4=>
 ext 0 v3 fun v5=>
 asS v5 fun l6 c7=>
 ext 1 v3 fun v8=>
 asI .u8 v8 fun n9=>
 ext 2 v3 fun v10=>
 asB v10 fun b11=>
 c (.func 41) [(.str l_0 c_0)] h4 fun v12 h13=>
 ext 0 v12 fun v14=>
 asS v14 fun l15 c16=>
 ext 1 v12 fun v17=>
 asB v17 fun b18=>
 Ar (fun k19=>gate false (Ck b11)
 (k19 (Ck b18) h13)
 (k19 true h13)) fun b21 h20=>
 Ar (fun k22=>gate false b21
 (k22 (Ck (Bm n9 (Int.ofNat 39))) h20)
 (k22 true h20)) fun b24 h23=>
 Ar (fun k25=>gate false b24
 (k25 (Bc l6 c7 2 14453) h23)
 (k25 true h23)) fun b27 h26=>
 Ar (fun k28=>gate false b27
 (k28 (Cs (Int.ofNat l15) (Int.ofNat 1)) h26)
 (k28 true h26)) fun b30 h29=>
 Ar (fun k31=>gate false b30
 (k31 (Cs (Int.ofNat 8) (Int.ofNat l15)) h29)
 (k31 true h29)) fun b33 h32=>
 cnd b33
 (oK (Ax env (env.ty 58) [] h32) fun v34 h35=>
 stn 2 (.ptr p1 0) v34 h35 fun h36=>
 ldn 2 (.ptr p1 0) h36 fun v37=>
 k (.tuple [v37,(.bool false)]) h36)
 (cnd (Bm (Int.ofNat l15) (Int.ofNat 1))
 (Dq l15 c16 0 fun m38=>
 fI (wrap .i64 (Int.ofNat m38)) fun n39=>
 cnd (Cs (Int.ofNat 127) n39)
 (fI (wrap .i64 (Gl n39 (Int.ofNat 256))) fun n40=>
 J.a2 (.ptr p1 0) l6 c7 n40 h32)
 (J.a2 (.ptr p1 0) l6 c7 n39 h32))
 (J.a1 (.ptr p1 0) l6 c7 l15 c16 (Int.ofNat 0) (Int.ofNat 0) h32))
def Aml(_c:CF)(_k:KV)(J:J39)(v_2:AV)(l_4 c_4:Nat)(l_7 c_7:Nat)(n_9 n_10:Int)(h:H):Prop:=
 cnd (Cs n_10 (Int.ofNat l_7))
 (fI (wrap .i64 (n_9*(Int.ofNat 256))) fun n41=>
 Df n_10 fun m42=>
 Dq l_7 c_7 m42 fun m43=>
 fI (wrap .i64 (Int.ofNat m43)) fun n44=>
 fI (wrap .i64 (Cl n41 n44)) fun n45=>
 Tx n45 (Int.ofNat 4294967296) fun n46=>
 fI (wrap .i64 (Cl n_10 (Int.ofNat 1))) fun n47=>
 J.a1 v_2 l_4 c_4 l_7 c_7 n46 n47 h)
 (cnd (Er (Int.ofNat 2147483648) n_9)
 (fI (wrap .i64 (Gl n_9 (Int.ofNat 4294967296))) fun n48=>
 J.a2 v_2 l_4 c_4 n48 h)
 (J.a2 v_2 l_4 c_4 n_9 h))
def Amk(_c:CF)(k:KV)(_J:J39)(v_2:AV)(l_4 c_4:Nat)(n_9:Int)(h:H):Prop:=
 fI (wrap .u64 n_9) fun n49=>
 Ar (fun k50=>gate false (Bc l_4 c_4 1 117)
 (k50 (Bc l_4 c_4 1 85) h)
 (k50 true h)) fun b52 h51=>
 oK (Ax env (env.ty 58) [(0,(.int .u64 n49)),(1,(.bool b52))] h51) fun v53 h54=>
 stn 2 v_2 v53 h54 fun h55=>
 ldn 2 v_2 h55 fun v56=>
 k (.tuple [v56,(.bool true)]) h55
def z39:J39:=⟨fun _ _ _=>False,fun _ _ _ _ _ _ _ _=>False,fun _ _ _ _ _=>False⟩
def r39(c:CF)(k:KV)(m:Nat):J39:=Nat.rec z39 (fun _ J=>⟨Amm c k J,Aml c k J,Amk c k J⟩) m
def f39(J:J39):Jump:=fun L f h=>match L with
 |0=>asS (f 0) fun l_0 c_0=>J.a0 l_0 c_0 h
 |1=>asS (f 4) fun l_4 c_4=>asS (f 7) fun l_7 c_7=>asI .i64 (f 9) fun n_9=>asI .i64 (f 10) fun n_10=>J.a1 (f 2) l_4 c_4 l_7 c_7 n_9 n_10 h
 |2=>asS (f 4) fun l_4 c_4=>asI .i64 (f 9) fun n_9=>J.a2 (f 2) l_4 c_4 n_9 h
 |_=>False
def u39:Ay:=[(.root,0),((.l (.r (.l (.r (.r (.l (.r (.r (.r (.r (.r .root))))))))))),1),((.r (.r (.r (.r (.r (.r .root)))))),2)]
section
variable{c:CF}{k:KV}{f:FT}{h:H}
theorem Bez(J:J39)(l_0 c_0:Nat):zqe c k q39 u39 (f39 J) d39 Tryz.f39 .root (Ah f 0 (.str l_0 c_0)) h=Amm c k J l_0 c_0 h:=by kernel_rfl
theorem Bey(J:J39)(l_4 c_4:Nat)(l_7 c_7:Nat)(n_9 n_10:Int):zqe c k q39 u39 (f39 J) d39 Tryz.f39 (.l (.r (.l (.r (.r (.l (.r (.r (.r (.r (.r .root))))))))))) (Ah (Ah (Ah (Ah f 4 (.str l_4 c_4)) 7 (.str l_7 c_7)) 9 (.int .i64 n_9)) 10 (.int .i64 n_10)) h=Aml c k J (f 2) l_4 c_4 l_7 c_7 n_9 n_10 h:=by kernel_rfl
theorem Bex(J:J39)(l_4 c_4:Nat)(n_9:Int):zqe c k q39 u39 (f39 J) d39 Tryz.f39 (.r (.r (.r (.r (.r (.r .root)))))) (Ah (Ah f 4 (.str l_4 c_4)) 9 (.int .i64 n_9)) h=Amk c k J (f 2) l_4 c_4 n_9 h:=by kernel_rfl
theorem w39(hc:Be c){n:Nat}{a:List AV}(hg:f39 (r39 c k n) 0 (Ab a) h):zqs 39 a h k:=
 zqw hc q39 Tryz.func39 rfl (by kernel_rfl) (by kernel_rfl) k u39 (fun n=>f39 (r39 c k n)) (fun L _ _ hl=>match L,hl with
  |0,hl=>Bv hl fun _ _ hl=>hl
  |1,hl=>Bv hl fun _ _ hl=>Bv hl fun _ _ hl=>Bq hl fun _ hl=>Bq hl fun _ hl=>hl
  |2,hl=>Bv hl fun _ _ hl=>Bq hl fun _ hl=>hl
  |_+3,hl=>hl) (fun n=>⟨
  fun f h hl=>by
    refine Bu 0 hl fun _ _ hl=>?_;exact Eq.mpr (Bez ..) hl,
  fun f h hl=>by
    refine Bu 4 hl fun _ _ hl=>?_;refine Bu 7 hl fun _ _ hl=>?_;refine Bp 9 hl fun _ hl=>?_;refine Bp 10 hl fun _ hl=>?_;exact Eq.mpr (Bey ..) hl,
  fun f h hl=>by
    refine Bu 4 hl fun _ _ hl=>?_;refine Bp 9 hl fun _ hl=>?_;exact Eq.mpr (Bex ..) hl,
  trivial⟩) rfl hg
end
theorem g39{c:CF}{k:KV}{n l_0 c_0:Nat}{h:H}(hg:Amm c k (r39 c k n) l_0 c_0 h):f39 (r39 c k (n+1)) 0 (Ab [.str l_0 c_0]) h:=hg
theorem Bc3{c:CF}{k:KV}{n:Nat}{x0:AV}{x1 x2:Nat}{x3 x4:Nat}{x5 x6:Int}{h:H}(hg:Aml c k (r39 c k n) x0 x1 x2 x3 x4 x5 x6 h):(r39 c k (n+1)).a1 x0 x1 x2 x3 x4 x5 x6 h:=hg
theorem Bc2{c:CF}{k:KV}{n:Nat}{x0:AV}{x1 x2:Nat}{x3:Int}{h:H}(hg:Amk c k (r39 c k n) x0 x1 x2 x3 h):(r39 c k (n+1)).a2 x0 x1 x2 x3 h:=hg
end Go.Den
noncomputable section
namespace Go.Den
open Go.Proofs
set_option maxRecDepth 100000
def d41:Code:=Option.rec .skip (fun c=>c) Tryz.f41.body
def q41:Aj:=[]
structure J41 where
 a0:Nat→Nat→H→Prop
 a1:Int→Nat→Nat→AV→Int→H→Prop
 a2:Int→Nat→Nat→AV→Int→H→Prop
def Amj(c:CF)(k:KV)(J:J41)(l_0 c_0:Nat)(h:H):Prop:=
 c (.func 72) [(.str l_0 c_0)] h fun v1 h2=>
 ext 0 v1 fun v3=>
 asS v3 fun l4 _=>
 ext 1 v1 fun v6=>
 asI .u8 v6 fun n7=>
 ext 2 v1 fun v8=>
 asB v8 fun b9=>
 cnd (Ck b9)
 (k (.tuple [(.str 0 0),(.bool false)]) h2)
 (fI (wrap .i64 (Cl (Int.ofNat l4) (Int.ofNat 1))) fun n10=>
 fI (wrap .i64 (Gl (Int.ofNat l_0) (Int.ofNat 1))) fun n11=>
 Df n11 fun m12=>
 Df n10 fun m13=>
 Gq l_0 c_0 m13 m12 fun l14 c15=>
 J.a1 n7 l14 c15 .Cy (Int.ofNat 0) h2)
def Ami(c:CF)(k:KV)(J:J41)(n_5:Int)(l_7 c_7:Nat)(v_8:AV)(n_9:Int)(h:H):Prop:=
 cnd (Cs n_9 (Int.ofNat l_7))
 (Df n_9 fun m16=>
 Dq l_7 c_7 m16 fun m17=>
 cnd (Bm (Int.ofNat m17) n_5)
 (k (.tuple [(.str 0 0),(.bool false)]) h)
 (cnd (Bm (Int.ofNat m17) (Int.ofNat 92))
 (fI (wrap .i64 (Cl n_9 (Int.ofNat 1))) fun n18=>
 Df n18 fun m19=>
 Gq l_7 c_7 m19 l_7 fun l20 c21=>
 c (.func 73) [(.str l20 c21)] h fun v22 h23=>
 ext 0 v22 fun v24=>
 asI .u8 v24 fun n25=>
 ext 1 v22 fun v26=>
 asI .i64 v26 fun n27=>
 cnd (Bm n27 (Int.ofNat 0))
 (k (.tuple [(.str 0 0),(.bool false)]) h23)
 (oK (Ao env 115 (fun e ei=>Ai 1 [(0,(.int .u8 n25))] h23 e ei)) fun v28 h29=>
 oK (Cb env .append [115,115] [v_8,v28] h29) fun v30 h31=>
 fI (wrap .i64 (Cl n_9 n27)) fun n32=>
 J.a2 n_5 l_7 c_7 v30 n32 h31))
 (Df n_9 fun m33=>
 Dq l_7 c_7 m33 fun m34=>
 oK (Ao env 115 (fun e ei=>Ai 1 [(0,(.int .u8 (Int.ofNat m34)))] h e ei)) fun v35 h36=>
 oK (Cb env .append [115,115] [v_8,v35] h36) fun v37 h38=>
 J.a2 n_5 l_7 c_7 v37 n_9 h38)))
 (oK (Fs env h 115 9 v_8) fun v39 h40=>
 asS v39 fun l41 c42=>
 k (.tuple [(.str l41 c42),(.bool true)]) h40)
def Agz(_c:CF)(_k:KV)(J:J41)(n_5:Int)(l_7 c_7:Nat)(v_8:AV)(n_9:Int)(h:H):Prop:=
 fI (wrap .i64 (Cl n_9 (Int.ofNat 1))) fun n43=>
 J.a1 n_5 l_7 c_7 v_8 n43 h
def z41:J41:=⟨fun _ _ _=>False,fun _ _ _ _ _ _=>False,fun _ _ _ _ _ _=>False⟩
def r41(c:CF)(k:KV)(m:Nat):J41:=Nat.rec z41 (fun _ J=>⟨Amj c k J,Ami c k J,Agz c k J⟩) m
def f41(J:J41):Jump:=fun L f h=>match L with
 |0=>asS (f 0) fun l_0 c_0=>J.a0 l_0 c_0 h
 |1=>asI .u8 (f 5) fun n_5=>asS (f 7) fun l_7 c_7=>asI .i64 (f 9) fun n_9=>J.a1 n_5 l_7 c_7 (f 8) n_9 h
 |2=>asI .u8 (f 5) fun n_5=>asS (f 7) fun l_7 c_7=>asI .i64 (f 9) fun n_9=>J.a2 n_5 l_7 c_7 (f 8) n_9 h
 |_=>False
def u41:Ay:=[(.root,0),((.l (.r (.l (.r (.r (.r (.r (.r .root)))))))),1),((.r (.r (.l (.l (.r (.l (.r (.r (.r (.r (.r .root))))))))))),2)]
section
variable{c:CF}{k:KV}{f:FT}{h:H}
theorem Bew(J:J41)(l_0 c_0:Nat):zqe c k q41 u41 (f41 J) d41 Tryz.f41 .root (Ah f 0 (.str l_0 c_0)) h=Amj c k J l_0 c_0 h:=by kernel_rfl
theorem Bev(J:J41)(n_5:Int)(l_7 c_7:Nat)(n_9:Int):zqe c k q41 u41 (f41 J) d41 Tryz.f41 (.l (.r (.l (.r (.r (.r (.r (.r .root)))))))) (Ah (Ah (Ah f 5 (.int .u8 n_5)) 7 (.str l_7 c_7)) 9 (.int .i64 n_9)) h=Ami c k J n_5 l_7 c_7 (f 8) n_9 h:=by kernel_rfl
theorem Beu(J:J41)(n_5:Int)(l_7 c_7:Nat)(n_9:Int):zqe c k q41 u41 (f41 J) d41 Tryz.f41 (.r (.r (.l (.l (.r (.l (.r (.r (.r (.r (.r .root))))))))))) (Ah (Ah (Ah f 5 (.int .u8 n_5)) 7 (.str l_7 c_7)) 9 (.int .i64 n_9)) h=Agz c k J n_5 l_7 c_7 (f 8) n_9 h:=by kernel_rfl
theorem w41(hc:Be c){n:Nat}{a:List AV}(hg:f41 (r41 c k n) 0 (Ab a) h):zqs 41 a h k:=
 zqw hc q41 Tryz.func41 rfl (by kernel_rfl) (by kernel_rfl) k u41 (fun n=>f41 (r41 c k n)) (fun L _ _ hl=>match L,hl with
  |0,hl=>Bv hl fun _ _ hl=>hl
  |1,hl=>Bq hl fun _ hl=>Bv hl fun _ _ hl=>Bq hl fun _ hl=>hl
  |2,hl=>Bq hl fun _ hl=>Bv hl fun _ _ hl=>Bq hl fun _ hl=>hl
  |_+3,hl=>hl) (fun n=>⟨
  fun f h hl=>by
    refine Bu 0 hl fun _ _ hl=>?_;exact Eq.mpr (Bew ..) hl,
  fun f h hl=>by
    refine Bp 5 hl fun _ hl=>?_;refine Bu 7 hl fun _ _ hl=>?_;refine Bp 9 hl fun _ hl=>?_;exact Eq.mpr (Bev ..) hl,
  fun f h hl=>by
    refine Bp 5 hl fun _ hl=>?_;refine Bu 7 hl fun _ _ hl=>?_;refine Bp 9 hl fun _ hl=>?_;exact Eq.mpr (Beu ..) hl,
  trivial⟩) rfl hg
end
theorem g41{c:CF}{k:KV}{n l_0 c_0:Nat}{h:H}(hg:Amj c k (r41 c k n) l_0 c_0 h):f41 (r41 c k (n+1)) 0 (Ab [.str l_0 c_0]) h:=hg
theorem Bc1{c:CF}{k:KV}{n:Nat}{x0:Int}{x1 x2:Nat}{x3:AV}{x4:Int}{h:H}(hg:Ami c k (r41 c k n) x0 x1 x2 x3 x4 h):(r41 c k (n+1)).a1 x0 x1 x2 x3 x4 h:=hg
theorem Ay9{c:CF}{k:KV}{n:Nat}{x0:Int}{x1 x2:Nat}{x3:AV}{x4:Int}{h:H}(hg:Agz c k (r41 c k n) x0 x1 x2 x3 x4 h):(r41 c k (n+1)).a2 x0 x1 x2 x3 x4 h:=hg
end Go.Den
noncomputable section
namespace Go.Den
open Go.Proofs
set_option maxRecDepth 100000
def d50:Code:=Option.rec .skip (fun c=>c) Tryz.f50.body
def q50:Aj:=[]
structure J50 where
 a0:AV→H→Prop
 a1:AV→AV→Bool→H→Prop
 a2:AV→AV→AV→AV→H→Prop
 a3:AV→AV→AV→AV→H→Prop
 a4:AV→AV→AV→AV→H→Prop
 a5:AV→AV→AV→AV→H→Prop
 a6:AV→AV→AV→H→Prop
def Agy(c:CF)(k:KV)(J:J50)(v_0:AV)(h:H):Prop:=
 Hp.Cz h Da fun p1 h2=>
 c (.func 89) [v_0,(.int .i64 (Int.ofNat 0))] h2 fun v3 h4=>
 Hp.Cz h4 Da fun p5 h6=>
 stn 2 (.ptr p5 0) v3 h6 fun h7=>
 c (.func 90) [v_0,(.str 1 63)] h7 fun v8 h9=>
 asB v8 fun b10=>
 cnd (Ck b10)
 (ldn 2 (.ptr p5 0) h9 fun v11=>
 stn 2 (.ptr p1 0) v11 h9 fun h12=>
 ldn 2 (.ptr p1 0) h12 fun v13=>
 k v13 h12)
 (Af 0 (.ptr p5 0) fun v14=>
 ld1 v14 h9 fun v15=>
 asI .u64 v15 fun n16=>
 cnd (Bm n16 (Int.ofNat 0))
 (oK (Bd v_0 h9) fun v17 h18=>
 Af 3 v17 fun v19=>
 ld1 v19 h18 fun v20=>
 asI .i64 v20 fun n21=>
 fI (wrap .i64 (Cl n21 (Int.ofNat 1))) fun n22=>
 oK (Bd v_0 h18) fun v23 h24=>
 Af 3 v23 fun v25=>
 st1 v25 (.int .i64 n22) h24 fun h26=>
 J.a6 v_0 (.ptr p1 0) (.ptr p5 0) h26)
 (J.a6 v_0 (.ptr p1 0) (.ptr p5 0) h9))
def Ame(_c:CF)(k:KV)(_J:J50)(v_2 v_4:AV)(b_6:Bool)(h:H):Prop:=
 Af 0 v_4 fun v27=>
 ld1 v27 h fun v28=>
 asI .u64 v28 fun n29=>
 oK (Ax env (env.ty 58) [(0,(.int .u64 n29)),(1,(.bool b_6))] h) fun v30 h31=>
 stn 2 v_2 v30 h31 fun h32=>
 ldn 2 v_2 h32 fun v33=>
 k v33 h32
def Amd(_c:CF)(_k:KV)(J:J50)(v_2 v_3:AV)(v_4 v_5:AV)(h:H):Prop:=
 Af 1 v_4 fun v34=>
 ld1 v34 h fun v35=>
 asB v35 fun b36=>
 Ar (fun k37=>gate false b36
 (Af 1 v_5 fun v40=>
 ld1 v40 h fun v41=>
 asB v41 fun b42=>
 k37 b42 h)
 (k37 true h)) fun b39 h38=>
 Af 0 v_3 fun v43=>
 ld1 v43 h38 fun v44=>
 asI .u64 v44 fun n45=>
 cnd (Bm n45 (Int.ofNat 0))
 (ldn 2 v_5 h38 fun v46=>
 stn 2 v_4 v46 h38 fun h47=>
 J.a1 v_2 v_4 b39 h47)
 (J.a1 v_2 v_4 b39 h38)
def Amc(c:CF)(_k:KV)(J:J50)(v_0 v_2:AV)(v_3 v_4:AV)(h:H):Prop:=
 c (.func 50) [v_0] h fun v48 h49=>
 Hp.Cz h49 Da fun p50 h51=>
 stn 2 (.ptr p50 0) v48 h51 fun h52=>
 Af 0 v_3 fun v53=>
 ld1 v53 h52 fun v54=>
 asI .u64 v54 fun n55=>
 cnd (Ck (Bm n55 (Int.ofNat 0)))
 (oK (Bd v_0 h52) fun v56 h57=>
 Af 3 v56 fun v58=>
 ld1 v58 h57 fun v59=>
 asI .i64 v59 fun n60=>
 fI (wrap .i64 (Gl n60 (Int.ofNat 1))) fun n61=>
 oK (Bd v_0 h57) fun v62 h63=>
 Af 3 v62 fun v64=>
 st1 v64 (.int .i64 n61) h63 fun h65=>
 J.a2 v_2 v_3 v_4 (.ptr p50 0) h65)
 (J.a2 v_2 v_3 v_4 (.ptr p50 0) h52)
def Amb(_c:CF)(_k:KV)(J:J50)(v_0 v_2:AV)(v_3 v_4:AV)(h:H):Prop:=
 Af 0 v_3 fun v66=>
 ld1 v66 h fun v67=>
 asI .u64 v67 fun n68=>
 cnd (Ck (Bm n68 (Int.ofNat 0)))
 (oK (Bd v_0 h) fun v69 h70=>
 Af 3 v69 fun v71=>
 ld1 v71 h70 fun v72=>
 asI .i64 v72 fun n73=>
 fI (wrap .i64 (Cl n73 (Int.ofNat 1))) fun n74=>
 oK (Bd v_0 h70) fun v75 h76=>
 Af 3 v75 fun v77=>
 st1 v77 (.int .i64 n74) h76 fun h78=>
 J.a3 v_0 v_2 v_3 v_4 h78)
 (J.a3 v_0 v_2 v_3 v_4 h)
def Ama(c:CF)(_k:KV)(J:J50)(v_0 v_2:AV)(v_3 v_4:AV)(h:H):Prop:=
 c (.func 90) [v_0,(.str 1 58)] h fun v79 h80=>
 asB v79 fun b81=>
 cnd (Ck b81)
 (oK (Bd v_0 h80) fun v82 h83=>
 Af 2 v82 fun v84=>
 st1 v84 (.bool true) h83 fun h85=>
 J.a4 v_0 v_2 v_3 v_4 h85)
 (J.a4 v_0 v_2 v_3 v_4 h80)
def Al9(c:CF)(_k:KV)(J:J50)(v_0 v_2 v_3:AV)(h:H):Prop:=
 c (.func 50) [v_0] h fun v86 h87=>
 Hp.Cz h87 Da fun p88 h89=>
 stn 2 (.ptr p88 0) v86 h89 fun h90=>
 Af 0 v_3 fun v91=>
 ld1 v91 h90 fun v92=>
 asI .u64 v92 fun n93=>
 cnd (Bm n93 (Int.ofNat 0))
 (oK (Bd v_0 h90) fun v94 h95=>
 Af 3 v94 fun v96=>
 ld1 v96 h95 fun v97=>
 asI .i64 v97 fun n98=>
 fI (wrap .i64 (Gl n98 (Int.ofNat 1))) fun n99=>
 oK (Bd v_0 h95) fun v100 h101=>
 Af 3 v100 fun v102=>
 st1 v102 (.int .i64 n99) h101 fun h103=>
 J.a5 v_0 v_2 v_3 (.ptr p88 0) h103)
 (J.a5 v_0 v_2 v_3 (.ptr p88 0) h90)
def z50:J50:=⟨fun _ _=>False,fun _ _ _ _=>False,fun _ _ _ _ _=>False,fun _ _ _ _ _=>False,fun _ _ _ _ _=>False,fun _ _ _ _ _=>False,fun _ _ _ _=>False⟩
def r50(c:CF)(k:KV)(m:Nat):J50:=Nat.rec z50 (fun _ J=>⟨Agy c k J,Ame c k J,Amd c k J,Amc c k J,Amb c k J,Ama c k J,Al9 c k J⟩) m
def f50(J:J50):Jump:=fun L f h=>match L with
 |0=>J.a0 (f 0) h
 |1=>asB (f 6) fun b_6=>J.a1 (f 2) (f 4) b_6 h
 |2=>J.a2 (f 2) (f 3) (f 4) (f 5) h
 |3=>J.a3 (f 0) (f 2) (f 3) (f 4) h
 |4=>J.a4 (f 0) (f 2) (f 3) (f 4) h
 |5=>J.a5 (f 0) (f 2) (f 3) (f 4) h
 |6=>J.a6 (f 0) (f 2) (f 3) h
 |_=>False
def u50:Ay:=[(.root,0),((.r (.r (.r (.r (.r (.r (.r (.r (.r (.r (.r (.r .root)))))))))))),1),((.r (.r (.r (.r (.r (.r (.r (.r (.r (.r .root)))))))))),2),((.r (.r (.r (.r (.r (.r (.r (.r .root)))))))),3),((.r (.r (.r (.r (.r (.r (.r .root))))))),4),((.r (.r (.r (.r (.r (.r .root)))))),5),((.r (.r (.r (.r .root)))),6)]
section
variable{c:CF}{k:KV}{f:FT}{h:H}
theorem Beq(J:J50):zqe c k q50 u50 (f50 J) d50 Tryz.f50 .root f h=Agy c k J (f 0) h:=by kernel_rfl
theorem Bep(J:J50)(b_6:Bool):zqe c k q50 u50 (f50 J) d50 Tryz.f50 (.r (.r (.r (.r (.r (.r (.r (.r (.r (.r (.r (.r .root)))))))))))) (Ah f 6 (.bool b_6)) h=Ame c k J (f 2) (f 4) b_6 h:=by kernel_rfl
theorem Beo(J:J50):zqe c k q50 u50 (f50 J) d50 Tryz.f50 (.r (.r (.r (.r (.r (.r (.r (.r (.r (.r .root)))))))))) f h=Amd c k J (f 2) (f 3) (f 4) (f 5) h:=by kernel_rfl
theorem Ben(J:J50):zqe c k q50 u50 (f50 J) d50 Tryz.f50 (.r (.r (.r (.r (.r (.r (.r (.r .root)))))))) f h=Amc c k J (f 0) (f 2) (f 3) (f 4) h:=by kernel_rfl
theorem Bem(J:J50):zqe c k q50 u50 (f50 J) d50 Tryz.f50 (.r (.r (.r (.r (.r (.r (.r .root))))))) f h=Amb c k J (f 0) (f 2) (f 3) (f 4) h:=by kernel_rfl
theorem Bel(J:J50):zqe c k q50 u50 (f50 J) d50 Tryz.f50 (.r (.r (.r (.r (.r (.r .root)))))) f h=Ama c k J (f 0) (f 2) (f 3) (f 4) h:=by kernel_rfl
theorem Bek(J:J50):zqe c k q50 u50 (f50 J) d50 Tryz.f50 (.r (.r (.r (.r .root)))) f h=Al9 c k J (f 0) (f 2) (f 3) h:=by kernel_rfl
theorem w50(hc:Be c){n:Nat}{a:List AV}(hg:f50 (r50 c k n) 0 (Ab a) h):zqs 50 a h k:=
 zqw hc q50 Tryz.func50 rfl (by kernel_rfl) (by kernel_rfl) k u50 (fun n=>f50 (r50 c k n)) (fun L _ _ hl=>match L,hl with
  |0,hl=>hl
  |1,hl=>Gc hl fun _ hl=>hl
  |2,hl=>hl
  |3,hl=>hl
  |4,hl=>hl
  |5,hl=>hl
  |6,hl=>hl
  |_+7,hl=>hl) (fun n=>⟨
  fun f h hl=>Eq.mpr (Beq ..) hl,
  fun f h hl=>by
    refine Gb 6 hl fun _ hl=>?_;exact Eq.mpr (Bep ..) hl,
  fun f h hl=>Eq.mpr (Beo ..) hl,
  fun f h hl=>Eq.mpr (Ben ..) hl,
  fun f h hl=>Eq.mpr (Bem ..) hl,
  fun f h hl=>Eq.mpr (Bel ..) hl,
  fun f h hl=>Eq.mpr (Bek ..) hl,
  trivial⟩) rfl hg
end
theorem g50{c:CF}{k:KV}{n:Nat}{v_0:AV}{h:H}(hg:Agy c k (r50 c k n) v_0 h):f50 (r50 c k (n+1)) 0 (Ab [v_0]) h:=hg
theorem Bcy{c:CF}{k:KV}{n:Nat}{x0 x1:AV}{x2:Bool}{h:H}(hg:Ame c k (r50 c k n) x0 x1 x2 h):(r50 c k (n+1)).a1 x0 x1 x2 h:=hg
theorem Bcx{c:CF}{k:KV}{n:Nat}{x0 x1:AV}{x2 x3:AV}{h:H}(hg:Amd c k (r50 c k n) x0 x1 x2 x3 h):(r50 c k (n+1)).a2 x0 x1 x2 x3 h:=hg
theorem Bcw{c:CF}{k:KV}{n:Nat}{x0 x1:AV}{x2 x3:AV}{h:H}(hg:Amc c k (r50 c k n) x0 x1 x2 x3 h):(r50 c k (n+1)).a3 x0 x1 x2 x3 h:=hg
theorem Bcv{c:CF}{k:KV}{n:Nat}{x0 x1:AV}{x2 x3:AV}{h:H}(hg:Amb c k (r50 c k n) x0 x1 x2 x3 h):(r50 c k (n+1)).a4 x0 x1 x2 x3 h:=hg
theorem Bcu{c:CF}{k:KV}{n:Nat}{x0 x1:AV}{x2 x3:AV}{h:H}(hg:Ama c k (r50 c k n) x0 x1 x2 x3 h):(r50 c k (n+1)).a5 x0 x1 x2 x3 h:=hg
theorem Bct{c:CF}{k:KV}{n:Nat}{x0 x1 x2:AV}{h:H}(hg:Al9 c k (r50 c k n) x0 x1 x2 h):(r50 c k (n+1)).a6 x0 x1 x2 h:=hg
end Go.Den
noncomputable section
namespace Go.Den
open Go.Proofs
set_option maxRecDepth 100000
def d68:Code:=Option.rec .skip (fun c=>c) Tryz.f68.body
def q68:Aj:=[]
structure J68 where
 a0:Nat→Nat→Int→Int→H→Prop
 a1:Nat→Nat→Int→Int→Int→H→Prop
def Alx(_c:CF)(_k:KV)(J:J68)(l_0 c_0:Nat)(n_1 n_2:Int)(h:H):Prop:=
 J.a1 l_0 c_0 n_1 n_2 (Int.ofNat 0) h
def Alw(c:CF)(k:KV)(J:J68)(l_0 c_0:Nat)(n_1 n_2 n_7:Int)(h:H):Prop:=
 fI (wrap .i64 (Cl n_1 n_7)) fun n1=>
 Ar (fun k2=>gate true (Cs n1 (Int.ofNat l_0))
 (fI (wrap .i64 (Cl n_1 n_7)) fun n5=>
 Df n5 fun m6=>
 Dq l_0 c_0 m6 fun m7=>
 c (.func 69) [(.int .u8 (Int.ofNat m7))] h fun v8 h9=>
 asI .i64 v8 fun n10=>
 k2 (Cs n10 n_2) h9)
 (k2 false h)) fun b4 h3=>
 cnd b4
 (fI (wrap .i64 (Cl n_7 (Int.ofNat 1))) fun n11=>
 J.a1 l_0 c_0 n_1 n_2 n11 h3)
 (k (.int .i64 n_7) h3)
def z68:J68:=⟨fun _ _ _ _ _=>False,fun _ _ _ _ _ _=>False⟩
def r68(c:CF)(k:KV)(m:Nat):J68:=Nat.rec z68 (fun _ J=>⟨Alx c k J,Alw c k J⟩) m
def f68(J:J68):Jump:=fun L f h=>match L with
 |0=>asS (f 0) fun l_0 c_0=>asI .i64 (f 1) fun n_1=>asI .i64 (f 2) fun n_2=>J.a0 l_0 c_0 n_1 n_2 h
 |1=>asS (f 0) fun l_0 c_0=>asI .i64 (f 1) fun n_1=>asI .i64 (f 2) fun n_2=>asI .i64 (f 7) fun n_7=>J.a1 l_0 c_0 n_1 n_2 n_7 h
 |_=>False
def u68:Ay:=[(.root,0),((.l (.l (.r (.r .root)))),1)]
section
variable{c:CF}{k:KV}{f:FT}{h:H}
theorem Bd6(J:J68)(l_0 c_0:Nat)(n_1 n_2:Int):zqe c k q68 u68 (f68 J) d68 Tryz.f68 .root (Ah (Ah (Ah f 0 (.str l_0 c_0)) 1 (.int .i64 n_1)) 2 (.int .i64 n_2)) h=Alx c k J l_0 c_0 n_1 n_2 h:=by kernel_rfl
theorem Bd5(J:J68)(l_0 c_0:Nat)(n_1 n_2 n_7:Int):zqe c k q68 u68 (f68 J) d68 Tryz.f68 (.l (.l (.r (.r .root)))) (Ah (Ah (Ah (Ah f 0 (.str l_0 c_0)) 1 (.int .i64 n_1)) 2 (.int .i64 n_2)) 7 (.int .i64 n_7)) h=Alw c k J l_0 c_0 n_1 n_2 n_7 h:=by kernel_rfl
theorem w68(hc:Be c){n:Nat}{a:List AV}(hg:f68 (r68 c k n) 0 (Ab a) h):zqs 68 a h k:=
 zqw hc q68 Tryz.func68 rfl (by kernel_rfl) (by kernel_rfl) k u68 (fun n=>f68 (r68 c k n)) (fun L _ _ hl=>match L,hl with
  |0,hl=>Bv hl fun _ _ hl=>Bq hl fun _ hl=>Bq hl fun _ hl=>hl
  |1,hl=>Bv hl fun _ _ hl=>Bq hl fun _ hl=>Bq hl fun _ hl=>Bq hl fun _ hl=>hl
  |_+2,hl=>hl) (fun n=>⟨
  fun f h hl=>by
    refine Bu 0 hl fun _ _ hl=>?_;refine Bp 1 hl fun _ hl=>?_;refine Bp 2 hl fun _ hl=>?_;exact Eq.mpr (Bd6 ..) hl,
  fun f h hl=>by
    refine Bu 0 hl fun _ _ hl=>?_;refine Bp 1 hl fun _ hl=>?_;refine Bp 2 hl fun _ hl=>?_;refine Bp 7 hl fun _ hl=>?_;exact Eq.mpr (Bd5 ..) hl,
  trivial⟩) rfl hg
end
theorem g68{c:CF}{k:KV}{n l_0 c_0:Nat}{n_1 n_2:Int}{h:H}(hg:Alx c k (r68 c k n) l_0 c_0 n_1 n_2 h):f68 (r68 c k (n+1)) 0 (Ab [.str l_0 c_0,.int .i64 n_1,.int .i64 n_2]) h:=hg
theorem Bcn{c:CF}{k:KV}{n x0 x1:Nat}{x2 x3 x4:Int}{h:H}(hg:Alw c k (r68 c k n) x0 x1 x2 x3 x4 h):(r68 c k (n+1)).a1 x0 x1 x2 x3 x4 h:=hg
end Go.Den
noncomputable section
namespace Go.Den
open Go.Proofs
set_option maxRecDepth 100000
def d69:Code:=Option.rec .skip (fun c=>c) Tryz.f69.body
def q69:Aj:=[]
structure J69 where
 a0:Int→H→Prop
def Alv(_c:CF)(k:KV)(_J:J69)(n_0:Int)(h:H):Prop:=
 Ar (fun k1=>gate true (Er (Int.ofNat 48) n_0)
 (k1 (Er n_0 (Int.ofNat 57)) h)
 (k1 false h)) fun b3 h2=>
 cnd b3
 (fI (wrap .u8 (Gl n_0 (Int.ofNat 48))) fun n4=>
 fI (wrap .i64 n4) fun n5=>
 k (.int .i64 n5) h2)
 (Ar (fun k6=>gate true (Er (Int.ofNat 97) n_0)
 (k6 (Er n_0 (Int.ofNat 102)) h2)
 (k6 false h2)) fun b8 h7=>
 cnd b8
 (fI (wrap .u8 (Gl n_0 (Int.ofNat 97))) fun n9=>
 fI (wrap .i64 n9) fun n10=>
 fI (wrap .i64 (Cl n10 (Int.ofNat 10))) fun n11=>
 k (.int .i64 n11) h7)
 (Ar (fun k12=>gate true (Er (Int.ofNat 65) n_0)
 (k12 (Er n_0 (Int.ofNat 70)) h7)
 (k12 false h7)) fun b14 h13=>
 cnd b14
 (fI (wrap .u8 (Gl n_0 (Int.ofNat 65))) fun n15=>
 fI (wrap .i64 n15) fun n16=>
 fI (wrap .i64 (Cl n16 (Int.ofNat 10))) fun n17=>
 k (.int .i64 n17) h13)
 (k (.int .i64 (Int.ofNat 99)) h13)))
def z69:J69:=⟨fun _ _=>False⟩
def r69(c:CF)(k:KV)(m:Nat):J69:=Nat.rec z69 (fun _ J=>⟨Alv c k J⟩) m
def f69(J:J69):Jump:=fun L f h=>match L with
 |0=>asI .u8 (f 0) fun n_0=>J.a0 n_0 h
 |_=>False
def u69:Ay:=[(.root,0)]
section
variable{c:CF}{k:KV}{f:FT}{h:H}
theorem Bd4(J:J69)(n_0:Int):zqe c k q69 u69 (f69 J) d69 Tryz.f69 .root (Ah f 0 (.int .u8 n_0)) h=Alv c k J n_0 h:=by kernel_rfl
theorem w69(hc:Be c){n:Nat}{a:List AV}(hg:f69 (r69 c k n) 0 (Ab a) h):zqs 69 a h k:=
 zqw hc q69 Tryz.func69 rfl (by kernel_rfl) (by kernel_rfl) k u69 (fun n=>f69 (r69 c k n)) (fun L _ _ hl=>match L,hl with
  |0,hl=>Bq hl fun _ hl=>hl
  |_+1,hl=>hl) (fun n=>⟨
  fun f h hl=>by
    refine Bp 0 hl fun _ hl=>?_;exact Eq.mpr (Bd4 ..) hl,
  trivial⟩) rfl hg
end
theorem g69{c:CF}{k:KV}{n:Nat}{n_0:Int}{h:H}(hg:Alv c k (r69 c k n) n_0 h):f69 (r69 c k (n+1)) 0 (Ab [.int .u8 n_0]) h:=hg
end Go.Den
noncomputable section
namespace Go.Den
open Go.Proofs
set_option maxRecDepth 100000
def d70:Code:=Option.rec .skip (fun c=>c) Tryz.f70.body
def q70:Aj:=[]
structure J70 where
 a0:Nat→Nat→H→Prop
 a1:Nat→Nat→AV→Nat→Nat→Int→H→Prop
 a2:Nat→Nat→AV→Nat→Nat→Int→Int→H→Prop
 a3:AV→Nat→Nat→Int→H→Prop
def Alu(_c:CF)(_k:KV)(J:J70)(l_0 c_0:Nat)(h:H):Prop:=
 oK (Ao env 44 (fun e ei=>Ai 8 [(0,(.str 0 0)),(1,(.str 1 117)),(2,(.str 1 108)),(3,(.str 2 27765)),(4,(.str 2 30060)),(5,(.str 2 27756)),(6,(.str 3 7105653)),(7,(.str 3 7695468))] h e ei)) fun v1 h2=>
 J.a1 l_0 c_0 v1 0 0 (Int.ofNat 0) h2
def Als(_c:CF)(k:KV)(J:J70)(l_0 c_0:Nat)(v_4:AV)(l_5 c_5:Nat)(n_6:Int)(h:H):Prop:=
 cnd (Cs n_6 (Int.ofNat l_0))
 (Df n_6 fun m3=>
 Dq l_0 c_0 m3 fun m4=>
 cnd (Bm (Int.ofNat m4) (Int.ofNat 85))
 (J.a2 l_0 c_0 v_4 l_5 c_5 n_6 (Int.ofNat 117) h)
 (cnd (Bm (Int.ofNat m4) (Int.ofNat 76))
 (fI (wrap .i64 (Cl n_6 (Int.ofNat 1))) fun n5=>
 Ar (fun k6=>gate true (Cs n5 (Int.ofNat l_0))
 (fI (wrap .i64 (Cl n_6 (Int.ofNat 1))) fun n9=>
 Df n9 fun m10=>
 Dq l_0 c_0 m10 fun m11=>
 k6 (Bm (Int.ofNat m11) (Int.ofNat 108)) h)
 (k6 false h)) fun b8 h7=>
 Ar (fun k12=>gate false b8
 (Ar (fun k15=>gate true (Cs (Int.ofNat 0) n_6)
 (fI (wrap .i64 (Gl n_6 (Int.ofNat 1))) fun n18=>
 Df n18 fun m19=>
 Dq l_0 c_0 m19 fun m20=>
 k15 (Bm (Int.ofNat m20) (Int.ofNat 108)) h7)
 (k15 false h7)) fun b17 h16=>
 k12 b17 h16)
 (k12 true h7)) fun b14 h13=>
 cnd b14
 (k (.tuple [(.bool false),(.bool false)]) h13)
 (J.a2 l_0 c_0 v_4 l_5 c_5 n_6 (Int.ofNat 108) h13))
 (J.a2 l_0 c_0 v_4 l_5 c_5 n_6 (Int.ofNat m4) h)))
 (J.a3 v_4 l_5 c_5 (Int.ofNat 0) h)
def Alr(_c:CF)(_k:KV)(J:J70)(l_0 c_0:Nat)(v_4:AV)(l_5 c_5:Nat)(n_6 n_7:Int)(h:H):Prop:=
 oK (Ao env 115 (fun e ei=>Ai 1 [(0,(.int .u8 n_7))] h e ei)) fun v21 h22=>
 oK (Fs env h22 115 9 v21) fun v23 h24=>
 asS v23 fun l25 c26=>
 Auf l_5 c_5 l25 c26 fun l27 c28=>
 fI (wrap .i64 (Cl n_6 (Int.ofNat 1))) fun n29=>
 J.a1 l_0 c_0 v_4 l27 c28 n29 h24
def Alq(_c:CF)(k:KV)(J:J70)(v_4:AV)(l_5 c_5:Nat)(n_8:Int)(h:H):Prop:=
 Hy v_4 fun m30=>
 cnd (Cs n_8 (Int.ofNat m30))
 (Df n_8 fun m31=>
 Dj 1 m31 v_4 fun v32=>
 ld1 v32 h fun v33=>
 asS v33 fun l34 c35=>
 cnd (Bc l34 c35 l_5 c_5)
 (Ar (fun k36=>gate false (Bm n_8 (Int.ofNat 1))
 (k36 (Bm n_8 (Int.ofNat 3)) h)
 (k36 true h)) fun b38 h37=>
 Ar (fun k39=>gate false b38
 (k39 (Bm n_8 (Int.ofNat 4)) h37)
 (k39 true h37)) fun b41 h40=>
 Ar (fun k42=>gate false b41
 (k42 (Er (Int.ofNat 6) n_8) h40)
 (k42 true h40)) fun b44 h43=>
 k (.tuple [(.bool b44),(.bool true)]) h43)
 (fI (wrap .i64 (Cl n_8 (Int.ofNat 1))) fun n45=>
 J.a3 v_4 l_5 c_5 n45 h))
 (k (.tuple [(.bool false),(.bool false)]) h)
def z70:J70:=⟨fun _ _ _=>False,fun _ _ _ _ _ _ _=>False,fun _ _ _ _ _ _ _ _=>False,fun _ _ _ _ _=>False⟩
def r70(c:CF)(k:KV)(m:Nat):J70:=Nat.rec z70 (fun _ J=>⟨Alu c k J,Als c k J,Alr c k J,Alq c k J⟩) m
def f70(J:J70):Jump:=fun L f h=>match L with
 |0=>asS (f 0) fun l_0 c_0=>J.a0 l_0 c_0 h
 |1=>asS (f 0) fun l_0 c_0=>asS (f 5) fun l_5 c_5=>asI .i64 (f 6) fun n_6=>J.a1 l_0 c_0 (f 4) l_5 c_5 n_6 h
 |2=>asS (f 0) fun l_0 c_0=>asS (f 5) fun l_5 c_5=>asI .i64 (f 6) fun n_6=>asI .u8 (f 7) fun n_7=>J.a2 l_0 c_0 (f 4) l_5 c_5 n_6 n_7 h
 |3=>asS (f 5) fun l_5 c_5=>asI .i64 (f 8) fun n_8=>J.a3 (f 4) l_5 c_5 n_8 h
 |_=>False
def u70:Ay:=[(.root,0),((.l (.r (.l (.r (.r (.r .root)))))),1),((.r (.r (.l (.l (.r (.l (.l (.r (.l (.r (.r (.r .root)))))))))))),2),((.l (.r (.l (.r (.r (.r (.r .root))))))),3)]
section
variable{c:CF}{k:KV}{f:FT}{h:H}
theorem Bd3(J:J70)(l_0 c_0:Nat):zqe c k q70 u70 (f70 J) d70 Tryz.f70 .root (Ah f 0 (.str l_0 c_0)) h=Alu c k J l_0 c_0 h:=by kernel_rfl
theorem Bd2(J:J70)(l_0 c_0:Nat)(l_5 c_5:Nat)(n_6:Int):zqe c k q70 u70 (f70 J) d70 Tryz.f70 (.l (.r (.l (.r (.r (.r .root)))))) (Ah (Ah (Ah f 0 (.str l_0 c_0)) 5 (.str l_5 c_5)) 6 (.int .i64 n_6)) h=Als c k J l_0 c_0 (f 4) l_5 c_5 n_6 h:=by kernel_rfl
theorem Bd1(J:J70)(l_0 c_0:Nat)(l_5 c_5:Nat)(n_6 n_7:Int):zqe c k q70 u70 (f70 J) d70 Tryz.f70 (.r (.r (.l (.l (.r (.l (.l (.r (.l (.r (.r (.r .root)))))))))))) (Ah (Ah (Ah (Ah f 0 (.str l_0 c_0)) 5 (.str l_5 c_5)) 6 (.int .i64 n_6)) 7 (.int .u8 n_7)) h=Alr c k J l_0 c_0 (f 4) l_5 c_5 n_6 n_7 h:=by kernel_rfl
theorem Bd0(J:J70)(l_5 c_5:Nat)(n_8:Int):zqe c k q70 u70 (f70 J) d70 Tryz.f70 (.l (.r (.l (.r (.r (.r (.r .root))))))) (Ah (Ah f 5 (.str l_5 c_5)) 8 (.int .i64 n_8)) h=Alq c k J (f 4) l_5 c_5 n_8 h:=by kernel_rfl
theorem w70(hc:Be c){n:Nat}{a:List AV}(hg:f70 (r70 c k n) 0 (Ab a) h):zqs 70 a h k:=
 zqw hc q70 Tryz.func70 rfl (by kernel_rfl) (by kernel_rfl) k u70 (fun n=>f70 (r70 c k n)) (fun L _ _ hl=>match L,hl with
  |0,hl=>Bv hl fun _ _ hl=>hl
  |1,hl=>Bv hl fun _ _ hl=>Bv hl fun _ _ hl=>Bq hl fun _ hl=>hl
  |2,hl=>Bv hl fun _ _ hl=>Bv hl fun _ _ hl=>Bq hl fun _ hl=>Bq hl fun _ hl=>hl
  |3,hl=>Bv hl fun _ _ hl=>Bq hl fun _ hl=>hl
  |_+4,hl=>hl) (fun n=>⟨
  fun f h hl=>by
    refine Bu 0 hl fun _ _ hl=>?_;exact Eq.mpr (Bd3 ..) hl,
  fun f h hl=>by
    refine Bu 0 hl fun _ _ hl=>?_;refine Bu 5 hl fun _ _ hl=>?_;refine Bp 6 hl fun _ hl=>?_;exact Eq.mpr (Bd2 ..) hl,
  fun f h hl=>by
    refine Bu 0 hl fun _ _ hl=>?_;refine Bu 5 hl fun _ _ hl=>?_;refine Bp 6 hl fun _ hl=>?_;refine Bp 7 hl fun _ hl=>?_;exact Eq.mpr (Bd1 ..) hl,
  fun f h hl=>by
    refine Bu 5 hl fun _ _ hl=>?_;refine Bp 8 hl fun _ hl=>?_;exact Eq.mpr (Bd0 ..) hl,
  trivial⟩) rfl hg
end
theorem g70{c:CF}{k:KV}{n l_0 c_0:Nat}{h:H}(hg:Alu c k (r70 c k n) l_0 c_0 h):f70 (r70 c k (n+1)) 0 (Ab [.str l_0 c_0]) h:=hg
theorem Bcm{c:CF}{k:KV}{n x0 x1:Nat}{x2:AV}{x3 x4:Nat}{x5:Int}{h:H}(hg:Als c k (r70 c k n) x0 x1 x2 x3 x4 x5 h):(r70 c k (n+1)).a1 x0 x1 x2 x3 x4 x5 h:=hg
theorem Bcl{c:CF}{k:KV}{n x0 x1:Nat}{x2:AV}{x3 x4:Nat}{x5 x6:Int}{h:H}(hg:Alr c k (r70 c k n) x0 x1 x2 x3 x4 x5 x6 h):(r70 c k (n+1)).a2 x0 x1 x2 x3 x4 x5 x6 h:=hg
theorem Bck{c:CF}{k:KV}{n:Nat}{x0:AV}{x1 x2:Nat}{x3:Int}{h:H}(hg:Alq c k (r70 c k n) x0 x1 x2 x3 h):(r70 c k (n+1)).a3 x0 x1 x2 x3 h:=hg
end Go.Den
noncomputable section
namespace Go.Den
open Go.Proofs
set_option maxRecDepth 100000
def d72:Code:=Option.rec .skip (fun c=>c) Tryz.f72.body
def q72:Aj:=[(7,[0,1,2,3,4,5,6,7,8,9])]
structure J72 where
 a0:Nat→Nat→H→Prop
 a1:Nat→Nat→AV→Int→H→Prop
def Alp(_c:CF)(_k:KV)(J:J72)(l_0 c_0:Nat)(h:H):Prop:=
 oK (Ao env 115 (fun e ei=>Ai 2 [(0,(.int .u8 (Int.ofNat 39))),(1,(.int .u8 (Int.ofNat 34)))] h e ei)) fun v1 h2=>
 J.a1 l_0 c_0 v1 (Int.ofNat 0) h2
def Agv(c:CF)(k:KV)(J:J72)(l_0 c_0:Nat)(v_5:AV)(n_6:Int)(h:H):Prop:=
 cnd (Cs n_6 (Int.ofNat 2))
 (Df n_6 fun m3=>
 Dj 1 m3 v_5 fun v4=>
 ld1 v4 h fun v5=>
 asI .u8 v5 fun n6=>
 c (.func 121) [(.str l_0 c_0),(.int .u8 n6)] h fun v7 h8=>
 asI .i64 v7 fun n9=>
 cnd (Er (Int.ofNat 0) n9)
 (Df n9 fun m10=>
 Gq l_0 c_0 0 m10 fun l11 c12=>
 Df n_6 fun m13=>
 Dj 1 m13 v_5 fun v14=>
 ld1 v14 h8 fun v15=>
 asI .u8 v15 fun n16=>
 k (.tuple [(.str l11 c12),(.int .u8 n16),(.bool true)]) h8)
 (fI (wrap .i64 (Cl n_6 (Int.ofNat 1))) fun n17=>
 J.a1 l_0 c_0 v_5 n17 h8))
 (k (.tuple [(.str 0 0),(.int .u8 (Int.ofNat 0)),(.bool false)]) h)
def z72:J72:=⟨fun _ _ _=>False,fun _ _ _ _ _=>False⟩
def r72(c:CF)(k:KV)(m:Nat):J72:=Nat.rec z72 (fun _ J=>⟨Alp c k J,Agv c k J⟩) m
def f72(J:J72):Jump:=fun L f h=>match L with
 |0=>asS (f 0) fun l_0 c_0=>J.a0 l_0 c_0 h
 |1=>asS (f 0) fun l_0 c_0=>asI .i64 (f 6) fun n_6=>J.a1 l_0 c_0 (f 5) n_6 h
 |_=>False
def u72:Ay:=[(.root,0),((.l (.r (.l (.r (.r .root))))),1)]
section
variable{c:CF}{k:KV}{f:FT}{h:H}
theorem Bdz(J:J72)(l_0 c_0:Nat):zqe c k q72 u72 (f72 J) d72 Tryz.f72 .root (Ah f 0 (.str l_0 c_0)) h=Alp c k J l_0 c_0 h:=by kernel_rfl
theorem Bdy(J:J72)(l_0 c_0:Nat)(n_6:Int):zqe c k q72 u72 (f72 J) d72 Tryz.f72 (.l (.r (.l (.r (.r .root))))) (Ah (Ah f 0 (.str l_0 c_0)) 6 (.int .i64 n_6)) h=Agv c k J l_0 c_0 (f 5) n_6 h:=by kernel_rfl
theorem w72(hc:Be c){n:Nat}{a:List AV}(hg:f72 (r72 c k n) 0 (Ab a) h):zqs 72 a h k:=
 zqw hc q72 Tryz.func72 rfl (by kernel_rfl) (by kernel_rfl) k u72 (fun n=>f72 (r72 c k n)) (fun L _ _ hl=>match L,hl with
  |0,hl=>Bv hl fun _ _ hl=>hl
  |1,hl=>Bv hl fun _ _ hl=>Bq hl fun _ hl=>hl
  |_+2,hl=>hl) (fun n=>⟨
  fun f h hl=>by
    refine Bu 0 hl fun _ _ hl=>?_;exact Eq.mpr (Bdz ..) hl,
  fun f h hl=>by
    refine Bu 0 hl fun _ _ hl=>?_;refine Bp 6 hl fun _ hl=>?_;exact Eq.mpr (Bdy ..) hl,
  trivial⟩) rfl hg
end
theorem g72{c:CF}{k:KV}{n l_0 c_0:Nat}{h:H}(hg:Alp c k (r72 c k n) l_0 c_0 h):f72 (r72 c k (n+1)) 0 (Ab [.str l_0 c_0]) h:=hg
theorem Ay6{c:CF}{k:KV}{n x0 x1:Nat}{x2:AV}{x3:Int}{h:H}(hg:Agv c k (r72 c k n) x0 x1 x2 x3 h):(r72 c k (n+1)).a1 x0 x1 x2 x3 h:=hg
end Go.Den
noncomputable section
namespace Go.Den
open Go.Proofs
set_option maxRecDepth 100000
def d73:Code:=Option.rec .skip (fun c=>c) Tryz.f73.body
def q73:Aj:=[(4,[0,1,2,3,4,5,6,7,8,9])]
structure J73 where
 a0:Nat→Nat→H→Prop
 a1:Nat→Nat→Int→H→Prop
 a2:Nat→Nat→Int→Int→Int→Int→Int→H→Prop
 a3:Nat→Nat→Int→Int→Int→Int→H→Prop
def Alo(_c:CF)(_k:KV)(J:J73)(l_0 c_0:Nat)(h:H):Prop:=
 J.a1 l_0 c_0 (Int.ofNat 0) h
def Aln(c:CF)(k:KV)(J:J73)(l_0 c_0:Nat)(n_4:Int)(h:H):Prop:=
 cnd (Cs n_4 (Int.ofNat 11))
 (Ar (fun k1=>gate true (Cs (Int.ofNat 0) (Int.ofNat l_0))
 (Dq l_0 c_0 0 fun m4=>
 Df n_4 fun m5=>
 Dq 11 143203152110517486444552743 m5 fun m6=>
 k1 (Bm (Int.ofNat m4) (Int.ofNat m6)) h)
 (k1 false h)) fun b3 h2=>
 cnd b3
 (Df n_4 fun m7=>
 Dq 11 13340925845742173758104103 m7 fun m8=>
 k (.tuple [(.int .u8 (Int.ofNat m8)),(.int .i64 (Int.ofNat 1))]) h2)
 (fI (wrap .i64 (Cl n_4 (Int.ofNat 1))) fun n9=>
 J.a1 l_0 c_0 n9 h2))
 (c (.func 68) [(.str l_0 c_0),(.int .i64 (Int.ofNat 0)),(.int .i64 (Int.ofNat 8))] h fun v10 h11=>
 asI .i64 v10 fun n12=>
 oK (Cb env .min [3,3] [(.int .i64 n12),(.int .i64 (Int.ofNat 3))] h11) fun v13 h14=>
 asI .i64 v13 fun n15=>
 Ar (fun k16=>gate true (Cs (Int.ofNat 0) (Int.ofNat l_0))
 (Dq l_0 c_0 0 fun m19=>
 k16 (Bm (Int.ofNat m19) (Int.ofNat 120)) h14)
 (k16 false h14)) fun b18 h17=>
 cnd b18
 (c (.func 68) [(.str l_0 c_0),(.int .i64 (Int.ofNat 1)),(.int .i64 (Int.ofNat 16))] h17 fun v20 h21=>
 asI .i64 v20 fun n22=>
 J.a3 l_0 c_0 (Int.ofNat 0) n22 (Int.ofNat 16) (Int.ofNat 1) h21)
 (J.a3 l_0 c_0 (Int.ofNat 0) n15 (Int.ofNat 8) (Int.ofNat 0) h17))
def Alm(c:CF)(k:KV)(J:J73)(l_0 c_0:Nat)(n_5 n_6:Int)(n_7 n_8 n_9:Int)(h:H):Prop:=
 fI (wrap .i64 (Cl n_8 n_6)) fun n23=>
 cnd (Cs n_9 n23)
 (fI (wrap .i64 (n_5*n_7)) fun n24=>
 Df n_9 fun m25=>
 Dq l_0 c_0 m25 fun m26=>
 c (.func 69) [(.int .u8 (Int.ofNat m26))] h fun v27 h28=>
 asI .i64 v27 fun n29=>
 fI (wrap .i64 (Cl n24 n29)) fun n30=>
 Tx n30 (Int.ofNat 256) fun n31=>
 fI (wrap .i64 (Cl n_9 (Int.ofNat 1))) fun n32=>
 J.a2 l_0 c_0 n31 n_6 n_7 n_8 n32 h28)
 (fI (wrap .u8 n_5) fun n33=>
 fI (wrap .i64 (Cl n_8 n_6)) fun n34=>
 k (.tuple [(.int .u8 n33),(.int .i64 n34)]) h)
def All(_c:CF)(k:KV)(J:J73)(l_0 c_0:Nat)(n_5 n_6:Int)(n_7 n_8:Int)(h:H):Prop:=
 cnd (Bm n_6 (Int.ofNat 0))
 (k (.tuple [(.int .u8 (Int.ofNat 0)),(.int .i64 (Int.ofNat 0))]) h)
 (J.a2 l_0 c_0 n_5 n_6 n_7 n_8 n_8 h)
def z73:J73:=⟨fun _ _ _=>False,fun _ _ _ _=>False,fun _ _ _ _ _ _ _ _=>False,fun _ _ _ _ _ _ _=>False⟩
def r73(c:CF)(k:KV)(m:Nat):J73:=Nat.rec z73 (fun _ J=>⟨Alo c k J,Aln c k J,Alm c k J,All c k J⟩) m
def f73(J:J73):Jump:=fun L f h=>match L with
 |0=>asS (f 0) fun l_0 c_0=>J.a0 l_0 c_0 h
 |1=>asS (f 0) fun l_0 c_0=>asI .i64 (f 4) fun n_4=>J.a1 l_0 c_0 n_4 h
 |2=>asS (f 0) fun l_0 c_0=>asI .i64 (f 5) fun n_5=>asI .i64 (f 6) fun n_6=>asI .i64 (f 7) fun n_7=>asI .i64 (f 8) fun n_8=>asI .i64 (f 9) fun n_9=>J.a2 l_0 c_0 n_5 n_6 n_7 n_8 n_9 h
 |3=>asS (f 0) fun l_0 c_0=>asI .i64 (f 5) fun n_5=>asI .i64 (f 6) fun n_6=>asI .i64 (f 7) fun n_7=>asI .i64 (f 8) fun n_8=>J.a3 l_0 c_0 n_5 n_6 n_7 n_8 h
 |_=>False
def u73:Ay:=[(.root,0),((.l (.r (.l (.r .root)))),1),((.l (.r (.l (.r (.r (.r (.r (.r (.r (.r .root)))))))))),2),((.r (.r (.r (.r (.r (.r .root)))))),3)]
section
variable{c:CF}{k:KV}{f:FT}{h:H}
theorem Bdx(J:J73)(l_0 c_0:Nat):zqe c k q73 u73 (f73 J) d73 Tryz.f73 .root (Ah f 0 (.str l_0 c_0)) h=Alo c k J l_0 c_0 h:=by kernel_rfl
theorem Bdw(J:J73)(l_0 c_0:Nat)(n_4:Int):zqe c k q73 u73 (f73 J) d73 Tryz.f73 (.l (.r (.l (.r .root)))) (Ah (Ah f 0 (.str l_0 c_0)) 4 (.int .i64 n_4)) h=Aln c k J l_0 c_0 n_4 h:=by kernel_rfl
theorem Bdv(J:J73)(l_0 c_0:Nat)(n_5 n_6:Int)(n_7 n_8 n_9:Int):zqe c k q73 u73 (f73 J) d73 Tryz.f73 (.l (.r (.l (.r (.r (.r (.r (.r (.r (.r .root)))))))))) (Ah (Ah (Ah (Ah (Ah (Ah f 0 (.str l_0 c_0)) 5 (.int .i64 n_5)) 6 (.int .i64 n_6)) 7 (.int .i64 n_7)) 8 (.int .i64 n_8)) 9 (.int .i64 n_9)) h=Alm c k J l_0 c_0 n_5 n_6 n_7 n_8 n_9 h:=by kernel_rfl
theorem Bdu(J:J73)(l_0 c_0:Nat)(n_5 n_6:Int)(n_7 n_8:Int):zqe c k q73 u73 (f73 J) d73 Tryz.f73 (.r (.r (.r (.r (.r (.r .root)))))) (Ah (Ah (Ah (Ah (Ah f 0 (.str l_0 c_0)) 5 (.int .i64 n_5)) 6 (.int .i64 n_6)) 7 (.int .i64 n_7)) 8 (.int .i64 n_8)) h=All c k J l_0 c_0 n_5 n_6 n_7 n_8 h:=by kernel_rfl
theorem w73(hc:Be c){n:Nat}{a:List AV}(hg:f73 (r73 c k n) 0 (Ab a) h):zqs 73 a h k:=
 zqw hc q73 Tryz.func73 rfl (by kernel_rfl) (by kernel_rfl) k u73 (fun n=>f73 (r73 c k n)) (fun L _ _ hl=>match L,hl with
  |0,hl=>Bv hl fun _ _ hl=>hl
  |1,hl=>Bv hl fun _ _ hl=>Bq hl fun _ hl=>hl
  |2,hl=>Bv hl fun _ _ hl=>Bq hl fun _ hl=>Bq hl fun _ hl=>Bq hl fun _ hl=>Bq hl fun _ hl=>Bq hl fun _ hl=>hl
  |3,hl=>Bv hl fun _ _ hl=>Bq hl fun _ hl=>Bq hl fun _ hl=>Bq hl fun _ hl=>Bq hl fun _ hl=>hl
  |_+4,hl=>hl) (fun n=>⟨
  fun f h hl=>by
    refine Bu 0 hl fun _ _ hl=>?_;exact Eq.mpr (Bdx ..) hl,
  fun f h hl=>by
    refine Bu 0 hl fun _ _ hl=>?_;refine Bp 4 hl fun _ hl=>?_;exact Eq.mpr (Bdw ..) hl,
  fun f h hl=>by
    refine Bu 0 hl fun _ _ hl=>?_;refine Bp 5 hl fun _ hl=>?_;refine Bp 6 hl fun _ hl=>?_;refine Bp 7 hl fun _ hl=>?_;refine Bp 8 hl fun _ hl=>?_;refine Bp 9 hl fun _ hl=>?_;exact Eq.mpr (Bdv ..) hl,
  fun f h hl=>by
    refine Bu 0 hl fun _ _ hl=>?_;refine Bp 5 hl fun _ hl=>?_;refine Bp 6 hl fun _ hl=>?_;refine Bp 7 hl fun _ hl=>?_;refine Bp 8 hl fun _ hl=>?_;exact Eq.mpr (Bdu ..) hl,
  trivial⟩) rfl hg
end
theorem g73{c:CF}{k:KV}{n l_0 c_0:Nat}{h:H}(hg:Alo c k (r73 c k n) l_0 c_0 h):f73 (r73 c k (n+1)) 0 (Ab [.str l_0 c_0]) h:=hg
theorem Bcj{c:CF}{k:KV}{n x0 x1:Nat}{x2:Int}{h:H}(hg:Aln c k (r73 c k n) x0 x1 x2 h):(r73 c k (n+1)).a1 x0 x1 x2 h:=hg
theorem Bci{c:CF}{k:KV}{n x0 x1:Nat}{x2 x3:Int}{x4 x5 x6:Int}{h:H}(hg:Alm c k (r73 c k n) x0 x1 x2 x3 x4 x5 x6 h):(r73 c k (n+1)).a2 x0 x1 x2 x3 x4 x5 x6 h:=hg
theorem Bch{c:CF}{k:KV}{n x0 x1:Nat}{x2 x3:Int}{x4 x5:Int}{h:H}(hg:All c k (r73 c k n) x0 x1 x2 x3 x4 x5 h):(r73 c k (n+1)).a3 x0 x1 x2 x3 x4 x5 h:=hg
end Go.Den
noncomputable section
namespace Go.Den
open Go.Proofs
set_option maxRecDepth 100000
def d89:Code:=Option.rec .skip (fun c=>c) Tryz.f89.body
def q89:Aj:=[]
structure J89 where
 a0:AV→Int→H→Prop
 a1:AV→Int→AV→AV→AV→H→Prop
 a2:AV→Int→AV→AV→AV→Nat→Nat→Int→H→Prop
 a3:AV→Int→AV→AV→AV→Nat→Nat→Int→H→Prop
 a4:AV→Int→AV→AV→AV→Nat→Nat→AV→H→Prop
 a5:AV→Int→AV→AV→AV→Nat→Nat→Bool→H→Prop
def Yq(c:CF)(k:KV)(J:J89)(v_0:AV)(n_1:Int)(h:H):Prop:=
 Hp.Cz h Da fun p1 h2=>
 c (.func 143) [] h2 fun v3 h4=>
 Hy v3 fun m5=>
 cnd (Bm n_1 (Int.ofNat m5))
 (c (.func 144) [v_0] h4 fun v6 h7=>
 stn 2 (.ptr p1 0) v6 h7 fun h8=>
 ldn 2 (.ptr p1 0) h8 fun v9=>
 k v9 h8)
 (fI (wrap .i64 (Cl n_1 (Int.ofNat 1))) fun n10=>
 c (.func 89) [v_0,(.int .i64 n10)] h4 fun v11 h12=>
 Hp.Cz h12 Da fun p13 h14=>
 stn 2 (.ptr p13 0) v11 h14 fun h15=>
 J.a1 v_0 n_1 (.ptr p1 0) v3 (.ptr p13 0) h15)
def Abm(_c:CF)(_k:KV)(J:J89)(v_0:AV)(n_1:Int)(v_4 v_5 v_6:AV)(h:H):Prop:=
 J.a2 v_0 n_1 v_4 v_5 v_6 0 0 (Int.ofNat 0) h
def Agt(c:CF)(k:KV)(J:J89)(v_0:AV)(n_1:Int)(v_4 v_5 v_6:AV)(l_7 c_7:Nat)(n_8:Int)(h:H):Prop:=
 Df n_1 fun m16=>
 Dj 1 m16 v_5 fun v17=>
 ld1 v17 h fun v18=>
 Hy v18 fun m19=>
 Ar (fun k20=>gate true (Cs n_8 (Int.ofNat m19))
 (k20 (Bc l_7 c_7 0 0) h)
 (k20 false h)) fun b22 h21=>
 cnd b22
 (Df n_1 fun m23=>
 Dj 1 m23 v_5 fun v24=>
 ld1 v24 h21 fun v25=>
 Df n_8 fun m26=>
 Dj 1 m26 v25 fun v27=>
 ld1 v27 h21 fun v28=>
 asS v28 fun l29 c30=>
 c (.func 90) [v_0,(.str l29 c30)] h21 fun v31 h32=>
 asB v31 fun b33=>
 cnd b33
 (Df n_1 fun m34=>
 Dj 1 m34 v_5 fun v35=>
 ld1 v35 h32 fun v36=>
 Df n_8 fun m37=>
 Dj 1 m37 v36 fun v38=>
 ld1 v38 h32 fun v39=>
 asS v39 fun l40 c41=>
 J.a3 v_0 n_1 v_4 v_5 v_6 l40 c41 n_8 h32)
 (J.a3 v_0 n_1 v_4 v_5 v_6 l_7 c_7 n_8 h32))
 (Ar (fun k42=>gate false (Bc l_7 c_7 0 0)
 (oK (Bd v_0 h21) fun v45 h46=>
 Af 2 v45 fun v47=>
 ld1 v47 h46 fun v48=>
 asB v48 fun b49=>
 k42 b49 h46)
 (k42 true h21)) fun b44 h43=>
 cnd b44
 (ldn 2 v_6 h43 fun v50=>
 stn 2 v_4 v50 h43 fun h51=>
 ldn 2 v_4 h51 fun v52=>
 k v52 h51)
 (Ar (fun k53=>gate true (Bc l_7 c_7 2 31868)
 (Af 0 v_6 fun v56=>
 ld1 v56 h43 fun v57=>
 asI .u64 v57 fun n58=>
 k53 (Ck (Bm n58 (Int.ofNat 0))) h43)
 (k53 false h43)) fun b55 h54=>
 Ar (fun k59=>gate false b55
 (Ar (fun k62=>gate true (Bc l_7 c_7 2 9766)
 (Af 0 v_6 fun v65=>
 ld1 v65 h54 fun v66=>
 asI .u64 v66 fun n67=>
 k62 (Bm n67 (Int.ofNat 0)) h54)
 (k62 false h54)) fun b64 h63=>
 k59 b64 h63)
 (k59 true h54)) fun b61 h60=>
 cnd b61
 (oK (Bd v_0 h60) fun v68 h69=>
 Af 3 v68 fun v70=>
 ld1 v70 h69 fun v71=>
 asI .i64 v71 fun n72=>
 fI (wrap .i64 (Cl n72 (Int.ofNat 1))) fun n73=>
 oK (Bd v_0 h69) fun v74 h75=>
 Af 3 v74 fun v76=>
 st1 v76 (.int .i64 n73) h75 fun h77=>
 J.a5 v_0 n_1 v_4 v_5 v_6 l_7 c_7 b61 h77)
 (J.a5 v_0 n_1 v_4 v_5 v_6 l_7 c_7 b61 h60)))
def Ags(_c:CF)(_k:KV)(J:J89)(v_0:AV)(n_1:Int)(v_4 v_5 v_6:AV)(l_7 c_7:Nat)(n_8:Int)(h:H):Prop:=
 fI (wrap .i64 (Cl n_8 (Int.ofNat 1))) fun n78=>
 J.a2 v_0 n_1 v_4 v_5 v_6 l_7 c_7 n78 h
def Ali(c:CF)(_k:KV)(J:J89)(v_0:AV)(n_1:Int)(v_4 v_5 v_6:AV)(l_7 c_7:Nat)(v_10:AV)(h:H):Prop:=
 ldn 2 v_6 h fun v79=>
 ldn 2 v_10 h fun v80=>
 c (.func 145) [v_0,(.str l_7 c_7),v79,v80] h fun v81 h82=>
 stn 2 v_6 v81 h82 fun h83=>
 J.a1 v_0 n_1 v_4 v_5 v_6 h83
def Alh(c:CF)(_k:KV)(J:J89)(v_0:AV)(n_1:Int)(v_4 v_5 v_6:AV)(l_7 c_7:Nat)(b_9:Bool)(h:H):Prop:=
 fI (wrap .i64 (Cl n_1 (Int.ofNat 1))) fun n84=>
 c (.func 89) [v_0,(.int .i64 n84)] h fun v85 h86=>
 Hp.Cz h86 Da fun p87 h88=>
 stn 2 (.ptr p87 0) v85 h88 fun h89=>
 cnd b_9
 (oK (Bd v_0 h89) fun v90 h91=>
 Af 3 v90 fun v92=>
 ld1 v92 h91 fun v93=>
 asI .i64 v93 fun n94=>
 fI (wrap .i64 (Gl n94 (Int.ofNat 1))) fun n95=>
 oK (Bd v_0 h91) fun v96 h97=>
 Af 3 v96 fun v98=>
 st1 v98 (.int .i64 n95) h97 fun h99=>
 J.a4 v_0 n_1 v_4 v_5 v_6 l_7 c_7 (.ptr p87 0) h99)
 (J.a4 v_0 n_1 v_4 v_5 v_6 l_7 c_7 (.ptr p87 0) h89)
def z89:J89:=⟨fun _ _ _=>False,fun _ _ _ _ _ _=>False,fun _ _ _ _ _ _ _ _ _=>False,fun _ _ _ _ _ _ _ _ _=>False,fun _ _ _ _ _ _ _ _ _=>False,fun _ _ _ _ _ _ _ _ _=>False⟩
def r89(c:CF)(k:KV)(m:Nat):J89:=Nat.rec z89 (fun _ J=>⟨Yq c k J,Abm c k J,Agt c k J,Ags c k J,Ali c k J,Alh c k J⟩) m
def f89(J:J89):Jump:=fun L f h=>match L with
 |0=>asI .i64 (f 1) fun n_1=>J.a0 (f 0) n_1 h
 |1=>asI .i64 (f 1) fun n_1=>J.a1 (f 0) n_1 (f 4) (f 5) (f 6) h
 |2=>asI .i64 (f 1) fun n_1=>asS (f 7) fun l_7 c_7=>asI .i64 (f 8) fun n_8=>J.a2 (f 0) n_1 (f 4) (f 5) (f 6) l_7 c_7 n_8 h
 |3=>asI .i64 (f 1) fun n_1=>asS (f 7) fun l_7 c_7=>asI .i64 (f 8) fun n_8=>J.a3 (f 0) n_1 (f 4) (f 5) (f 6) l_7 c_7 n_8 h
 |4=>asI .i64 (f 1) fun n_1=>asS (f 7) fun l_7 c_7=>J.a4 (f 0) n_1 (f 4) (f 5) (f 6) l_7 c_7 (f 10) h
 |5=>asI .i64 (f 1) fun n_1=>asS (f 7) fun l_7 c_7=>asB (f 9) fun b_9=>J.a5 (f 0) n_1 (f 4) (f 5) (f 6) l_7 c_7 b_9 h
 |_=>False
def u89:Ay:=[(.root,0),((.l (.r (.r (.r (.r .root))))),1),((.l (.r (.l (.r (.l (.l (.l (.r (.r (.r (.r .root))))))))))),2),((.r (.r (.l (.l (.r (.l (.r (.l (.l (.l (.r (.r (.r (.r .root)))))))))))))),3),((.r (.r (.r (.r (.r (.r (.r (.l (.l (.l (.r (.r (.r (.r .root)))))))))))))),4),((.r (.r (.r (.r (.r (.l (.l (.l (.r (.r (.r (.r .root)))))))))))),5)]
section
variable{c:CF}{k:KV}{f:FT}{h:H}
theorem Bdq(J:J89)(n_1:Int):zqe c k q89 u89 (f89 J) d89 Tryz.f89 .root (Ah f 1 (.int .i64 n_1)) h=Yq c k J (f 0) n_1 h:=by kernel_rfl
theorem Bdp(J:J89)(n_1:Int):zqe c k q89 u89 (f89 J) d89 Tryz.f89 (.l (.r (.r (.r (.r .root))))) (Ah f 1 (.int .i64 n_1)) h=Abm c k J (f 0) n_1 (f 4) (f 5) (f 6) h:=by kernel_rfl
theorem Bdo(J:J89)(n_1:Int)(l_7 c_7:Nat)(n_8:Int):zqe c k q89 u89 (f89 J) d89 Tryz.f89 (.l (.r (.l (.r (.l (.l (.l (.r (.r (.r (.r .root))))))))))) (Ah (Ah (Ah f 1 (.int .i64 n_1)) 7 (.str l_7 c_7)) 8 (.int .i64 n_8)) h=Agt c k J (f 0) n_1 (f 4) (f 5) (f 6) l_7 c_7 n_8 h:=by kernel_rfl
theorem Bdn(J:J89)(n_1:Int)(l_7 c_7:Nat)(n_8:Int):zqe c k q89 u89 (f89 J) d89 Tryz.f89 (.r (.r (.l (.l (.r (.l (.r (.l (.l (.l (.r (.r (.r (.r .root)))))))))))))) (Ah (Ah (Ah f 1 (.int .i64 n_1)) 7 (.str l_7 c_7)) 8 (.int .i64 n_8)) h=Ags c k J (f 0) n_1 (f 4) (f 5) (f 6) l_7 c_7 n_8 h:=by kernel_rfl
theorem Bdm(J:J89)(n_1:Int)(l_7 c_7:Nat):zqe c k q89 u89 (f89 J) d89 Tryz.f89 (.r (.r (.r (.r (.r (.r (.r (.l (.l (.l (.r (.r (.r (.r .root)))))))))))))) (Ah (Ah f 1 (.int .i64 n_1)) 7 (.str l_7 c_7)) h=Ali c k J (f 0) n_1 (f 4) (f 5) (f 6) l_7 c_7 (f 10) h:=by kernel_rfl
theorem Bdl(J:J89)(n_1:Int)(l_7 c_7:Nat)(b_9:Bool):zqe c k q89 u89 (f89 J) d89 Tryz.f89 (.r (.r (.r (.r (.r (.l (.l (.l (.r (.r (.r (.r .root)))))))))))) (Ah (Ah (Ah f 1 (.int .i64 n_1)) 7 (.str l_7 c_7)) 9 (.bool b_9)) h=Alh c k J (f 0) n_1 (f 4) (f 5) (f 6) l_7 c_7 b_9 h:=by kernel_rfl
theorem w89(hc:Be c){n:Nat}{a:List AV}(hg:f89 (r89 c k n) 0 (Ab a) h):zqs 89 a h k:=
 zqw hc q89 Tryz.func89 rfl (by kernel_rfl) (by kernel_rfl) k u89 (fun n=>f89 (r89 c k n)) (fun L _ _ hl=>match L,hl with
  |0,hl=>Bq hl fun _ hl=>hl
  |1,hl=>Bq hl fun _ hl=>hl
  |2,hl=>Bq hl fun _ hl=>Bv hl fun _ _ hl=>Bq hl fun _ hl=>hl
  |3,hl=>Bq hl fun _ hl=>Bv hl fun _ _ hl=>Bq hl fun _ hl=>hl
  |4,hl=>Bq hl fun _ hl=>Bv hl fun _ _ hl=>hl
  |5,hl=>Bq hl fun _ hl=>Bv hl fun _ _ hl=>Gc hl fun _ hl=>hl
  |_+6,hl=>hl) (fun n=>⟨
  fun f h hl=>by
    refine Bp 1 hl fun _ hl=>?_;exact Eq.mpr (Bdq ..) hl,
  fun f h hl=>by
    refine Bp 1 hl fun _ hl=>?_;exact Eq.mpr (Bdp ..) hl,
  fun f h hl=>by
    refine Bp 1 hl fun _ hl=>?_;refine Bu 7 hl fun _ _ hl=>?_;refine Bp 8 hl fun _ hl=>?_;exact Eq.mpr (Bdo ..) hl,
  fun f h hl=>by
    refine Bp 1 hl fun _ hl=>?_;refine Bu 7 hl fun _ _ hl=>?_;refine Bp 8 hl fun _ hl=>?_;exact Eq.mpr (Bdn ..) hl,
  fun f h hl=>by
    refine Bp 1 hl fun _ hl=>?_;refine Bu 7 hl fun _ _ hl=>?_;exact Eq.mpr (Bdm ..) hl,
  fun f h hl=>by
    refine Bp 1 hl fun _ hl=>?_;refine Bu 7 hl fun _ _ hl=>?_;refine Gb 9 hl fun _ hl=>?_;exact Eq.mpr (Bdl ..) hl,
  trivial⟩) rfl hg
end
theorem g89{c:CF}{k:KV}{n:Nat}{n_1:Int}{v_0:AV}{h:H}(hg:Yq c k (r89 c k n) v_0 n_1 h):f89 (r89 c k (n+1)) 0 (Ab [v_0,.int .i64 n_1]) h:=hg
theorem Asp{c:CF}{k:KV}{n:Nat}{x0:AV}{x1:Int}{x2 x3 x4:AV}{h:H}(hg:Abm c k (r89 c k n) x0 x1 x2 x3 x4 h):(r89 c k (n+1)).a1 x0 x1 x2 x3 x4 h:=hg
theorem Ay4{c:CF}{k:KV}{n:Nat}{x0:AV}{x1:Int}{x2 x3 x4:AV}{x5 x6:Nat}{x7:Int}{h:H}(hg:Agt c k (r89 c k n) x0 x1 x2 x3 x4 x5 x6 x7 h):(r89 c k (n+1)).a2 x0 x1 x2 x3 x4 x5 x6 x7 h:=hg
theorem Ay3{c:CF}{k:KV}{n:Nat}{x0:AV}{x1:Int}{x2 x3 x4:AV}{x5 x6:Nat}{x7:Int}{h:H}(hg:Ags c k (r89 c k n) x0 x1 x2 x3 x4 x5 x6 x7 h):(r89 c k (n+1)).a3 x0 x1 x2 x3 x4 x5 x6 x7 h:=hg
theorem Bcg{c:CF}{k:KV}{n:Nat}{x0:AV}{x1:Int}{x2 x3 x4:AV}{x5 x6:Nat}{x7:AV}{h:H}(hg:Ali c k (r89 c k n) x0 x1 x2 x3 x4 x5 x6 x7 h):(r89 c k (n+1)).a4 x0 x1 x2 x3 x4 x5 x6 x7 h:=hg
theorem Bcf{c:CF}{k:KV}{n:Nat}{x0:AV}{x1:Int}{x2 x3 x4:AV}{x5 x6:Nat}{x7:Bool}{h:H}(hg:Alh c k (r89 c k n) x0 x1 x2 x3 x4 x5 x6 x7 h):(r89 c k (n+1)).a5 x0 x1 x2 x3 x4 x5 x6 x7 h:=hg
end Go.Den
noncomputable section
namespace Go.Den
open Go.Proofs
set_option maxRecDepth 100000
def d90:Code:=Option.rec .skip (fun c=>c) Tryz.f90.body
def q90:Aj:=[(1,[0,1,2,3,4,5,6,7,8,9,10,11,12,13,14,15,16,17,18,19,20,21,22,23,24,25,26,27,28,29,30])]
structure J90 where
 a0:AV→Nat→Nat→H→Prop
def Alg(c:CF)(k:KV)(_J:J90)(v_0:AV)(l_1 c_1:Nat)(h:H):Prop:=
 oK (Bd v_0 h) fun v1 h2=>
 Af 2 v1 fun v3=>
 ld1 v3 h2 fun v4=>
 asB v4 fun b5=>
 Ar (fun k6=>gate false b5
 (oK (Bd v_0 h2) fun v9 h10=>
 Af 1 v9 fun v11=>
 ld1 v11 h10 fun v12=>
 asI .i64 v12 fun n13=>
 oK (Bd v_0 h10) fun v14 h15=>
 Af 0 v14 fun v16=>
 ld1 v16 h15 fun v17=>
 Hy v17 fun m18=>
 k6 (Er (Int.ofNat m18) n13) h15)
 (k6 true h2)) fun b8 h7=>
 Ar (fun k19=>gate false b8
 (oK (Bd v_0 h7) fun v22 h23=>
 Af 0 v22 fun v24=>
 ld1 v24 h23 fun v25=>
 oK (Bd v_0 h23) fun v26 h27=>
 Af 1 v26 fun v28=>
 ld1 v28 h27 fun v29=>
 asI .i64 v29 fun n30=>
 Df n30 fun m31=>
 Dj 8 m31 v25 fun v32=>
 ldn 8 v32 h27 fun v33=>
 c (.func 93) [v33,(.str l_1 c_1)] h27 fun v34 h35=>
 asB v34 fun b36=>
 k19 (Ck b36) h35)
 (k19 true h7)) fun b21 h20=>
 cnd b21
 (k (.bool false) h20)
 (oK (Bd v_0 h20) fun v37 h38=>
 Af 1 v37 fun v39=>
 ld1 v39 h38 fun v40=>
 asI .i64 v40 fun n41=>
 fI (wrap .i64 (Cl n41 (Int.ofNat 1))) fun n42=>
 oK (Bd v_0 h38) fun v43 h44=>
 Af 1 v43 fun v45=>
 st1 v45 (.int .i64 n42) h44 fun h46=>
 k (.bool true) h46)
def z90:J90:=⟨fun _ _ _ _=>False⟩
def r90(c:CF)(k:KV)(m:Nat):J90:=Nat.rec z90 (fun _ J=>⟨Alg c k J⟩) m
def f90(J:J90):Jump:=fun L f h=>match L with
 |0=>asS (f 1) fun l_1 c_1=>J.a0 (f 0) l_1 c_1 h
 |_=>False
def u90:Ay:=[(.root,0)]
section
variable{c:CF}{k:KV}{f:FT}{h:H}
theorem Bdk(J:J90)(l_1 c_1:Nat):zqe c k q90 u90 (f90 J) d90 Tryz.f90 .root (Ah f 1 (.str l_1 c_1)) h=Alg c k J (f 0) l_1 c_1 h:=by kernel_rfl
theorem w90(hc:Be c){n:Nat}{a:List AV}(hg:f90 (r90 c k n) 0 (Ab a) h):zqs 90 a h k:=
 zqw hc q90 Tryz.func90 rfl (by kernel_rfl) (by kernel_rfl) k u90 (fun n=>f90 (r90 c k n)) (fun L _ _ hl=>match L,hl with
  |0,hl=>Bv hl fun _ _ hl=>hl
  |_+1,hl=>hl) (fun n=>⟨
  fun f h hl=>by
    refine Bu 1 hl fun _ _ hl=>?_;exact Eq.mpr (Bdk ..) hl,
  trivial⟩) rfl hg
end
theorem g90{c:CF}{k:KV}{n l_1 c_1:Nat}{v_0:AV}{h:H}(hg:Alg c k (r90 c k n) v_0 l_1 c_1 h):f90 (r90 c k (n+1)) 0 (Ab [v_0,.str l_1 c_1]) h:=hg
end Go.Den
noncomputable section
namespace Go.Den
open Go.Proofs
set_option maxRecDepth 100000
def d121:Code:=Option.rec .skip (fun c=>c) Tryz.f121.body
def A30:Aj:=[(6,[0,1,2,3,4,5,6,7,8,9,10,11,12,13,14,15,16,17,18,19,20,21,22,23,24,25,26,27,28,29,30])]
structure Ak6 where
 a0:Nat→Nat→Int→H→Prop
 a1:Nat→Nat→Int→AV→Int→H→Prop
def Aei(_c:CF)(_k:KV)(J:Ak6)(l_0 c_0:Nat)(n_1:Int)(h:H):Prop:=
 oK (Ao env 44 (fun e ei=>Ai 5 [(0,(.str 0 0)),(1,(.str 1 76)),(2,(.str 1 117)),(3,(.str 1 85)),(4,(.str 2 14453))] h e ei)) fun v1 h2=>
 J.a1 l_0 c_0 n_1 v1 (Int.ofNat 0) h2
def Aeh(_c:CF)(k:KV)(J:Ak6)(l_0 c_0:Nat)(n_1:Int)(v_5:AV)(n_6:Int)(h:H):Prop:=
 Hy v_5 fun m3=>
 cnd (Cs n_6 (Int.ofNat m3))
 (Df n_6 fun m4=>
 Dj 1 m4 v_5 fun v5=>
 ld1 v5 h fun v6=>
 asS v6 fun l7 _=>
 fI (wrap .i64 (Cl (Int.ofNat l7) (Int.ofNat 2))) fun n9=>
 Ar (fun k10=>gate true (Er n9 (Int.ofNat l_0))
 (Gq l_0 c_0 0 l7 fun l13 c14=>
 Df n_6 fun m15=>
 Dj 1 m15 v_5 fun v16=>
 ld1 v16 h fun v17=>
 asS v17 fun l18 c19=>
 k10 (Bc l13 c14 l18 c19) h)
 (k10 false h)) fun b12 h11=>
 Ar (fun k20=>gate true b12
 (Dq l_0 c_0 l7 fun m23=>
 k20 (Bm (Int.ofNat m23) n_1) h11)
 (k20 false h11)) fun b22 h21=>
 Ar (fun k24=>gate true b22
 (fI (wrap .i64 (Gl (Int.ofNat l_0) (Int.ofNat 1))) fun n27=>
 Df n27 fun m28=>
 Dq l_0 c_0 m28 fun m29=>
 k24 (Bm (Int.ofNat m29) n_1) h21)
 (k24 false h21)) fun b26 h25=>
 cnd b26
 (k (.int .i64 (Int.ofNat l7)) h25)
 (fI (wrap .i64 (Cl n_6 (Int.ofNat 1))) fun n30=>
 J.a1 l_0 c_0 n_1 v_5 n30 h25))
 (k (.int .i64 (Int.negSucc 0)) h)
def Bgn:Ak6:=⟨fun _ _ _ _=>False,fun _ _ _ _ _ _=>False⟩
def Aha(c:CF)(k:KV)(m:Nat):Ak6:=Nat.rec Bgn (fun _ J=>⟨Aei c k J,Aeh c k J⟩) m
def f121(J:Ak6):Jump:=fun L f h=>match L with
 |0=>asS (f 0) fun l_0 c_0=>asI .u8 (f 1) fun n_1=>J.a0 l_0 c_0 n_1 h
 |1=>asS (f 0) fun l_0 c_0=>asI .u8 (f 1) fun n_1=>asI .i64 (f 6) fun n_6=>J.a1 l_0 c_0 n_1 (f 5) n_6 h
 |_=>False
def A11:Ay:=[(.root,0),((.l (.r (.l (.r (.r .root))))),1)]
section
variable{c:CF}{k:KV}{f:FT}{h:H}
theorem A7n(J:Ak6)(l_0 c_0:Nat)(n_1:Int):zqe c k A30 A11 (f121 J) d121 Tryz.f121 .root (Ah (Ah f 0 (.str l_0 c_0)) 1 (.int .u8 n_1)) h=Aei c k J l_0 c_0 n_1 h:=by kernel_rfl
theorem A7m(J:Ak6)(l_0 c_0:Nat)(n_1 n_6:Int):zqe c k A30 A11 (f121 J) d121 Tryz.f121 (.l (.r (.l (.r (.r .root))))) (Ah (Ah (Ah f 0 (.str l_0 c_0)) 1 (.int .u8 n_1)) 6 (.int .i64 n_6)) h=Aeh c k J l_0 c_0 n_1 (f 5) n_6 h:=by kernel_rfl
theorem Bil(hc:Be c){n:Nat}{a:List AV}(hg:f121 (Aha c k n) 0 (Ab a) h):zqs 121 a h k:=
 zqw hc A30 Tryz.func121 rfl (by kernel_rfl) (by kernel_rfl) k A11 (fun n=>f121 (Aha c k n)) (fun L _ _ hl=>match L,hl with
  |0,hl=>Bv hl fun _ _ hl=>Bq hl fun _ hl=>hl
  |1,hl=>Bv hl fun _ _ hl=>Bq hl fun _ hl=>Bq hl fun _ hl=>hl
  |_+2,hl=>hl) (fun n=>⟨
  fun f h hl=>by
    refine Bu 0 hl fun _ _ hl=>?_;refine Bp 1 hl fun _ hl=>?_;exact Eq.mpr (A7n ..) hl,
  fun f h hl=>by
    refine Bu 0 hl fun _ _ hl=>?_;refine Bp 1 hl fun _ hl=>?_;refine Bp 6 hl fun _ hl=>?_;exact Eq.mpr (A7m ..) hl,
  trivial⟩) rfl hg
end
theorem Bj3{c:CF}{k:KV}{n l_0 c_0:Nat}{n_1:Int}{h:H}(hg:Aei c k (Aha c k n) l_0 c_0 n_1 h):f121 (Aha c k (n+1)) 0 (Ab [.str l_0 c_0,.int .u8 n_1]) h:=hg
theorem A5e{c:CF}{k:KV}{n x0 x1:Nat}{x2:Int}{x3:AV}{x4:Int}{h:H}(hg:Aeh c k (Aha c k n) x0 x1 x2 x3 x4 h):(Aha c k (n+1)).a1 x0 x1 x2 x3 x4 h:=hg
end Go.Den
noncomputable section
namespace Go.Den
open Go.Proofs
set_option maxRecDepth 100000
def d143:Code:=Option.rec .skip (fun c=>c) Tryz.f143.body
def Bbr:Aj:=[]
structure Avv where
 a0:H→Prop
def Ad9(_c:CF)(k:KV)(_J:Avv)(h:H):Prop:=
 oK (Ao env 44 (fun e ei=>Ai 1 [(0,(.str 2 31868))] h e ei)) fun v1 h2=>
 oK (Ao env 44 (fun e ei=>Ai 1 [(0,(.str 2 9766))] h2 e ei)) fun v3 h4=>
 oK (Ao env 44 (fun e ei=>Ai 1 [(0,(.str 1 124))] h4 e ei)) fun v5 h6=>
 oK (Ao env 44 (fun e ei=>Ai 1 [(0,(.str 1 94))] h6 e ei)) fun v7 h8=>
 oK (Ao env 44 (fun e ei=>Ai 1 [(0,(.str 1 38))] h8 e ei)) fun v9 h10=>
 oK (Ao env 44 (fun e ei=>Ai 2 [(0,(.str 2 15677)),(1,(.str 2 15649))] h10 e ei)) fun v11 h12=>
 oK (Ao env 44 (fun e ei=>Ai 4 [(0,(.str 1 60)),(1,(.str 1 62)),(2,(.str 2 15676)),(3,(.str 2 15678))] h12 e ei)) fun v13 h14=>
 oK (Ao env 44 (fun e ei=>Ai 2 [(0,(.str 2 15420)),(1,(.str 2 15934))] h14 e ei)) fun v15 h16=>
 oK (Ao env 44 (fun e ei=>Ai 2 [(0,(.str 1 43)),(1,(.str 1 45))] h16 e ei)) fun v17 h18=>
 oK (Ao env 44 (fun e ei=>Ai 3 [(0,(.str 1 42)),(1,(.str 1 47)),(2,(.str 1 37))] h18 e ei)) fun v19 h20=>
 oK (Ao env 245 (fun e ei=>Ai 10 [(0,v1),(1,v3),(2,v5),(3,v7),(4,v9),(5,v11),(6,v13),(7,v15),(8,v17),(9,v19)] h20 e ei)) fun v21 h22=>
 k v21 h22
def z143:Avv:=⟨fun _=>False⟩
def Awz(c:CF)(k:KV)(m:Nat):Avv:=Nat.rec z143 (fun _ J=>⟨Ad9 c k J⟩) m
def f143(J:Avv):Jump:=fun L _ h=>match L with
 |0=>J.a0 h
 |_=>False
def Bak:Ay:=[(.root,0)]
section
variable{c:CF}{k:KV}{f:FT}{h:H}
theorem A7e(J:Avv):zqe c k Bbr Bak (f143 J) d143 Tryz.f143 .root f h=Ad9 c k J  h:=by kernel_rfl
theorem Bh9(hc:Be c){n:Nat}{a:List AV}(hg:f143 (Awz c k n) 0 (Ab a) h):zqs 143 a h k:=
 zqw hc Bbr Tryz.func143 rfl (by kernel_rfl) (by kernel_rfl) k Bak (fun n=>f143 (Awz c k n)) (fun L _ _ hl=>match L,hl with
  |0,hl=>hl
  |_+1,hl=>hl) (fun n=>⟨
  fun f h hl=>Eq.mpr (A7e ..) hl,
  trivial⟩) rfl hg
end
theorem Bjy{c:CF}{k:KV}{n:Nat}  {h:H} (hg:Ad9 c k (Awz c k n) h):f143 (Awz c k (n+1)) 0 (Ab []) h:=hg
end Go.Den
noncomputable section
namespace Go.Den
open Go.Proofs
set_option maxRecDepth 100000
def d144:Code:=Option.rec .skip (fun c=>c) Tryz.f144.body
def Aw0:Aj:=[(1,[0,1,2,3,4,5,6,7,8,9,10,11,12,13,14,15,16]),(19,[0,1,2,3,4,5,6,7,8,9,10,11]),(21,[0,1,2,3,4,5,6])]
structure Agb where
 a0:AV→H→Prop
 a1:AV→AV→AV→Bool→H→Prop
 a2:AV→AV→AV→H→Prop
def Yt(c:CF)(k:KV)(J:Agb)(v_0:AV)(h:H):Prop:=
 Hp.Cz h Da fun p1 h2=>
 oK (Bd v_0 h2) fun v3 h4=>
 Af 2 v3 fun v5=>
 ld1 v5 h4 fun v6=>
 asB v6 fun b7=>
 Ar (fun k8=>gate false b7
 (oK (Bd v_0 h4) fun v11 h12=>
 Af 1 v11 fun v13=>
 ld1 v13 h12 fun v14=>
 asI .i64 v14 fun n15=>
 oK (Bd v_0 h12) fun v16 h17=>
 Af 0 v16 fun v18=>
 ld1 v18 h17 fun v19=>
 Hy v19 fun m20=>
 k8 (Er (Int.ofNat m20) n15) h17)
 (k8 true h4)) fun b10 h9=>
 cnd b10
 (oK (Bd v_0 h9) fun v21 h22=>
 Af 2 v21 fun v23=>
 st1 v23 (.bool true) h22 fun h24=>
 oK (Ax env (env.ty 58) [] h24) fun v25 h26=>
 stn 2 (.ptr p1 0) v25 h26 fun h27=>
 ldn 2 (.ptr p1 0) h27 fun v28=>
 k v28 h27)
 (c (.func 90) [v_0,(.str 1 43)] h9 fun v29 h30=>
 asB v29 fun b31=>
 cnd b31
 (c (.func 144) [v_0] h30 fun v32 h33=>
 stn 2 (.ptr p1 0) v32 h33 fun h34=>
 ldn 2 (.ptr p1 0) h34 fun v35=>
 k v35 h34)
 (c (.func 90) [v_0,(.str 1 45)] h30 fun v36 h37=>
 asB v36 fun b38=>
 cnd b38
 (c (.func 144) [v_0] h37 fun v39 h40=>
 Hp.Cz h40 Da fun p41 h42=>
 stn 2 (.ptr p41 0) v39 h42 fun h43=>
 Af 0 (.ptr p41 0) fun v44=>
 ld1 v44 h43 fun v45=>
 asI .u64 v45 fun n46=>
 oV (unA .neg (.int .u64 n46)) fun v47=>
 asI .u64 v47 fun n48=>
 Af 1 (.ptr p41 0) fun v49=>
 ld1 v49 h43 fun v50=>
 asB v50 fun b51=>
 oK (Ax env (env.ty 58) [(0,(.int .u64 n48)),(1,(.bool b51))] h43) fun v52 h53=>
 stn 2 (.ptr p1 0) v52 h53 fun h54=>
 ldn 2 (.ptr p1 0) h54 fun v55=>
 k v55 h54)
 (c (.func 90) [v_0,(.str 1 33)] h37 fun v56 h57=>
 asB v56 fun b58=>
 cnd b58
 (c (.func 144) [v_0] h57 fun v59 h60=>
 Apf 0 v59 fun v61=>
 asI .u64 v61 fun n62=>
 c (.func 189) [(.bool (Bm n62 (Int.ofNat 0)))] h60 fun v63 h64=>
 stn 2 (.ptr p1 0) v63 h64 fun h65=>
 ldn 2 (.ptr p1 0) h65 fun v66=>
 k v66 h65)
 (c (.func 90) [v_0,(.str 1 126)] h57 fun v67 h68=>
 asB v67 fun b69=>
 cnd b69
 (c (.func 144) [v_0] h68 fun v70 h71=>
 Hp.Cz h71 Da fun p72 h73=>
 stn 2 (.ptr p72 0) v70 h73 fun h74=>
 Af 0 (.ptr p72 0) fun v75=>
 ld1 v75 h74 fun v76=>
 asI .u64 v76 fun n77=>
 oV (unA .xor (.int .u64 n77)) fun v78=>
 asI .u64 v78 fun n79=>
 Af 1 (.ptr p72 0) fun v80=>
 ld1 v80 h74 fun v81=>
 asB v81 fun b82=>
 oK (Ax env (env.ty 58) [(0,(.int .u64 n79)),(1,(.bool b82))] h74) fun v83 h84=>
 stn 2 (.ptr p1 0) v83 h84 fun h85=>
 ldn 2 (.ptr p1 0) h85 fun v86=>
 k v86 h85)
 (c (.func 90) [v_0,(.str 1 40)] h68 fun v87 h88=>
 asB v87 fun b89=>
 cnd b89
 (c (.func 50) [v_0] h88 fun v90 h91=>
 Hp.Cz h91 Da fun p92 h93=>
 stn 2 (.ptr p92 0) v90 h93 fun h94=>
 c (.func 90) [v_0,(.str 1 41)] h94 fun v95 h96=>
 asB v95 fun b97=>
 cnd (Ck b97)
 (oK (Bd v_0 h96) fun v98 h99=>
 Af 2 v98 fun v100=>
 st1 v100 (.bool true) h99 fun h101=>
 ldn 2 (.ptr p92 0) h101 fun v102=>
 stn 2 (.ptr p1 0) v102 h101 fun h103=>
 ldn 2 (.ptr p1 0) h103 fun v104=>
 k v104 h103)
 (ldn 2 (.ptr p92 0) h96 fun v105=>
 stn 2 (.ptr p1 0) v105 h96 fun h106=>
 ldn 2 (.ptr p1 0) h106 fun v107=>
 k v107 h106))
 (oK (Bd v_0 h88) fun v108 h109=>
 Af 0 v108 fun v110=>
 ld1 v110 h109 fun v111=>
 oK (Bd v_0 h109) fun v112 h113=>
 Af 1 v112 fun v114=>
 ld1 v114 h113 fun v115=>
 asI .i64 v115 fun n116=>
 Df n116 fun m117=>
 Dj 8 m117 v111 fun v118=>
 ldn 8 v118 h113 fun v119=>
 Hp.Cz h113 Aw6 fun p120 h121=>
 ld1 v110 h121 fun v122=>
 eqC v122 v111<|
 ld1 v114 h121 fun v123=>
 asI .i64 v123 fun n124=>
 eqC (.int .i64 n124) (.int .i64 n116)<|
 ldn 8 v118 h121 fun v125=>
 eqC v125 v119<|
 stn 8 (.ptr p120 0) v119 h121 fun h126=>
 oK (Bd v_0 h126) fun v127 h128=>
 Af 1 v127 fun v129=>
 ld1 v129 h128 fun v130=>
 asI .i64 v130 fun n131=>
 fI (wrap .i64 (Cl n131 (Int.ofNat 1))) fun n132=>
 oK (Bd v_0 h128) fun v133 h134=>
 Af 1 v133 fun v135=>
 st1 v135 (.int .i64 n132) h134 fun h136=>
 J.a2 v_0 (.ptr p1 0) (.ptr p120 0) h136))))))
def Ad8(_c:CF)(k:KV)(_J:Agb)(v_0 v_2 v_7:AV)(b_8:Bool)(h:H):Prop:=
 oK (Bd v_0 h) fun v137 h138=>
 Af 2 v137 fun v139=>
 ld1 v139 h138 fun v140=>
 asB v140 fun b141=>
 Ar (fun k142=>gate false b141
 (k142 (Ck b_8) h138)
 (k142 true h138)) fun b144 h143=>
 oK (Bd v_0 h143) fun v145 h146=>
 Af 2 v145 fun v147=>
 st1 v147 (.bool b144) h146 fun h148=>
 ldn 2 v_7 h148 fun v149=>
 stn 2 v_2 v149 h148 fun h150=>
 ldn 2 v_2 h150 fun v151=>
 k v151 h150
def Ad7(c:CF)(_k:KV)(J:Agb)(v_0 v_2 v_6:AV)(h:H):Prop:=
 oK (Ax env (env.ty 58) [] h) fun v152 h153=>
 Af 0 v_6 fun v154=>
 ld1 v154 h153 fun v155=>
 asI .i64 v155 fun n156=>
 Hp.Cz h153 Da fun p157 h158=>
 ld1 v154 h158 fun v159=>
 asI .i64 v159 fun n160=>
 eqC (.int .i64 n160) (.int .i64 n156)<|
 stn 2 (.ptr p157 0) v152 h158 fun h161=>
 ld1 v154 h161 fun v162=>
 asI .i64 v162 fun n163=>
 eqC (.int .i64 n163) (.int .i64 n156)<|
 Af 0 v_6 fun v164=>
 ld1 v164 h161 fun v165=>
 asI .i64 v165 fun n166=>
 cnd (Bm n166 (Int.ofNat 2))
 (Af 1 v_6 fun v167=>
 ld1 v167 h161 fun v168=>
 asS v168 fun l169 c170=>
 c (.func 37) [(.str l169 c170)] h161 fun v171 h172=>
 ext 0 v171 fun v173=>
 ext 1 v171 fun v174=>
 asB v174 fun b175=>
 stn 2 (.ptr p157 0) v173 h172 fun h176=>
 J.a1 v_0 v_2 (.ptr p157 0) b175 h176)
 (cnd (Bm n166 (Int.ofNat 3))
 (Af 1 v_6 fun v177=>
 ld1 v177 h161 fun v178=>
 asS v178 fun l179 c180=>
 c (.func 39) [(.str l179 c180)] h161 fun v181 h182=>
 ext 0 v181 fun v183=>
 ext 1 v181 fun v184=>
 asB v184 fun b185=>
 stn 2 (.ptr p157 0) v183 h182 fun h186=>
 J.a1 v_0 v_2 (.ptr p157 0) b185 h186)
 (J.a1 v_0 v_2 (.ptr p157 0) (Bm n156 (Int.ofNat 1)) h161))
def Bgj:Agb:=⟨fun _ _=>False,fun _ _ _ _ _=>False,fun _ _ _ _=>False⟩
def Yx(c:CF)(k:KV)(m:Nat):Agb:=Nat.rec Bgj (fun _ J=>⟨Yt c k J,Ad8 c k J,Ad7 c k J⟩) m
def f144(J:Agb):Jump:=fun L f h=>match L with
 |0=>J.a0 (f 0) h
 |1=>asB (f 8) fun b_8=>J.a1 (f 0) (f 2) (f 7) b_8 h
 |2=>J.a2 (f 0) (f 2) (f 6) h
 |_=>False
def Awf:Ay:=[(.root,0),((.r (.r (.r (.r (.r (.r .root)))))),1),((.r (.r (.r (.r .root)))),2)]
section
variable{c:CF}{k:KV}{f:FT}{h:H}
theorem A7d(J:Agb):zqe c k Aw0 Awf (f144 J) d144 Tryz.f144 .root f h=Yt c k J (f 0) h:=by kernel_rfl
theorem A7c(J:Agb)(b_8:Bool):zqe c k Aw0 Awf (f144 J) d144 Tryz.f144 (.r (.r (.r (.r (.r (.r .root)))))) (Ah f 8 (.bool b_8)) h=Ad8 c k J (f 0) (f 2) (f 7) b_8 h:=by kernel_rfl
theorem A7b(J:Agb):zqe c k Aw0 Awf (f144 J) d144 Tryz.f144 (.r (.r (.r (.r .root)))) f h=Ad7 c k J (f 0) (f 2) (f 6) h:=by kernel_rfl
theorem A9p(hc:Be c){n:Nat}{a:List AV}(hg:f144 (Yx c k n) 0 (Ab a) h):zqs 144 a h k:=
 zqw hc Aw0 Tryz.func144 rfl (by kernel_rfl) (by kernel_rfl) k Awf (fun n=>f144 (Yx c k n)) (fun L _ _ hl=>match L,hl with
  |0,hl=>hl
  |1,hl=>Gc hl fun _ hl=>hl
  |2,hl=>hl
  |_+3,hl=>hl) (fun n=>⟨
  fun f h hl=>Eq.mpr (A7d ..) hl,
  fun f h hl=>by
    refine Gb 8 hl fun _ hl=>?_;exact Eq.mpr (A7c ..) hl,
  fun f h hl=>Eq.mpr (A7b ..) hl,
  trivial⟩) rfl hg
end
theorem Bc8{c:CF}{k:KV}{n:Nat}{v_0:AV}{h:H}(hg:Yt c k (Yx c k n) v_0 h):f144 (Yx c k (n+1)) 0 (Ab [v_0]) h:=hg
theorem A5a{c:CF}{k:KV}{n:Nat}{x0 x1 x2:AV}{x3:Bool}{h:H}(hg:Ad8 c k (Yx c k n) x0 x1 x2 x3 h):(Yx c k (n+1)).a1 x0 x1 x2 x3 h:=hg
theorem A49{c:CF}{k:KV}{n:Nat}{x0 x1 x2:AV}{h:H}(hg:Ad7 c k (Yx c k n) x0 x1 x2 h):(Yx c k (n+1)).a2 x0 x1 x2 h:=hg
end Go.Den
noncomputable section
namespace Go.Den
open Go.Proofs
set_option maxRecDepth 100000
def d145:Code:=Option.rec .skip (fun c=>c) Tryz.f145.body
def Art:Aj:=[(2,[0,1,2,3,4,5,6,7])]
structure Aar where
 a0:AV→Nat→Nat→AV→AV→H→Prop
 a1:AV→Nat→Nat→AV→AV→AV→Bool→Int→Int→Bool→H→Prop
 a2:AV→Bool→H→Prop
 a3:Nat→Nat→AV→AV→Int→Int→H→Prop
def Ad6(_c:CF)(_k:KV)(J:Aar)(v_0:AV)(l_1 c_1:Nat)(v_2 v_3:AV)(h:H):Prop:=
 asG v_2 fun g1=>
 chk (Nat.ble 1 (len g1))<|
 Hp.Cz h (rowOf 58 g1) fun p2 h3=>
 asG v_3 fun g4=>
 chk (Nat.ble 1 (len g4))<|
 Hp.Cz h3 (rowOf 58 g4) fun p5 h6=>
 Hp.Cz h6 Da fun p7 h8=>
 Af 1 (.ptr p2 0) fun v9=>
 ld1 v9 h8 fun v10=>
 asB v10 fun b11=>
 Ar (fun k12=>gate false b11
 (Af 1 (.ptr p5 0) fun v15=>
 ld1 v15 h8 fun v16=>
 asB v16 fun b17=>
 k12 b17 h8)
 (k12 true h8)) fun b14 h13=>
 Af 0 (.ptr p2 0) fun v18=>
 ld1 v18 h13 fun v19=>
 asI .u64 v19 fun n20=>
 fI (wrap .i64 n20) fun n21=>
 Af 0 (.ptr p5 0) fun v22=>
 ld1 v22 h13 fun v23=>
 asI .u64 v23 fun n24=>
 fI (wrap .i64 n24) fun n25=>
 cnd b14
 (Af 0 (.ptr p2 0) fun v26=>
 ld1 v26 h13 fun v27=>
 asI .u64 v27 fun n28=>
 Af 0 (.ptr p5 0) fun v29=>
 ld1 v29 h13 fun v30=>
 asI .u64 v30 fun n31=>
 J.a1 v_0 l_1 c_1 (.ptr p2 0) (.ptr p5 0) (.ptr p7 0) b14 n21 n25 (Cs n28 n31) h13)
 (J.a1 v_0 l_1 c_1 (.ptr p2 0) (.ptr p5 0) (.ptr p7 0) b14 n21 n25 (Cs n21 n25) h13)
def Ad5(c:CF)(k:KV)(J:Aar)(v_0:AV)(l_1 c_1:Nat)(v_6 v_7 v_8:AV)(b_9:Bool)(n_10 n_11:Int)(b_12:Bool)(h:H):Prop:=
 cnd (Bc l_1 c_1 2 31868)
 (Af 0 v_6 fun v32=>
 ld1 v32 h fun v33=>
 asI .u64 v33 fun n34=>
 Ar (fun k35=>gate false (Ck (Bm n34 (Int.ofNat 0)))
 (Af 0 v_7 fun v38=>
 ld1 v38 h fun v39=>
 asI .u64 v39 fun n40=>
 k35 (Ck (Bm n40 (Int.ofNat 0))) h)
 (k35 true h)) fun b37 h36=>
 c (.func 189) [(.bool b37)] h36 fun v41 h42=>
 stn 2 v_8 v41 h42 fun h43=>
 ldn 2 v_8 h43 fun v44=>
 k v44 h43)
 (cnd (Bc l_1 c_1 2 9766)
 (Af 0 v_6 fun v45=>
 ld1 v45 h fun v46=>
 asI .u64 v46 fun n47=>
 Ar (fun k48=>gate true (Ck (Bm n47 (Int.ofNat 0)))
 (Af 0 v_7 fun v51=>
 ld1 v51 h fun v52=>
 asI .u64 v52 fun n53=>
 k48 (Ck (Bm n53 (Int.ofNat 0))) h)
 (k48 false h)) fun b50 h49=>
 c (.func 189) [(.bool b50)] h49 fun v54 h55=>
 stn 2 v_8 v54 h55 fun h56=>
 ldn 2 v_8 h56 fun v57=>
 k v57 h56)
 (cnd (Bc l_1 c_1 1 124)
 (Af 0 v_6 fun v58=>
 ld1 v58 h fun v59=>
 asI .u64 v59 fun n60=>
 Af 0 v_7 fun v61=>
 ld1 v61 h fun v62=>
 asI .u64 v62 fun n63=>
 Ll Nat.lor .u64 n60 n63 fun n64=>
 oK (Ax env (env.ty 58) [(0,(.int .u64 n64)),(1,(.bool b_9))] h) fun v65 h66=>
 stn 2 v_8 v65 h66 fun h67=>
 ldn 2 v_8 h67 fun v68=>
 k v68 h67)
 (cnd (Bc l_1 c_1 1 94)
 (Af 0 v_6 fun v69=>
 ld1 v69 h fun v70=>
 asI .u64 v70 fun n71=>
 Af 0 v_7 fun v72=>
 ld1 v72 h fun v73=>
 asI .u64 v73 fun n74=>
 Ll Nat.xor .u64 n71 n74 fun n75=>
 oK (Ax env (env.ty 58) [(0,(.int .u64 n75)),(1,(.bool b_9))] h) fun v76 h77=>
 stn 2 v_8 v76 h77 fun h78=>
 ldn 2 v_8 h78 fun v79=>
 k v79 h78)
 (cnd (Bc l_1 c_1 1 38)
 (Af 0 v_6 fun v80=>
 ld1 v80 h fun v81=>
 asI .u64 v81 fun n82=>
 Af 0 v_7 fun v83=>
 ld1 v83 h fun v84=>
 asI .u64 v84 fun n85=>
 Ll Nat.land .u64 n82 n85 fun n86=>
 oK (Ax env (env.ty 58) [(0,(.int .u64 n86)),(1,(.bool b_9))] h) fun v87 h88=>
 stn 2 v_8 v87 h88 fun h89=>
 ldn 2 v_8 h89 fun v90=>
 k v90 h89)
 (cnd (Bc l_1 c_1 2 15677)
 (Af 0 v_6 fun v91=>
 ld1 v91 h fun v92=>
 asI .u64 v92 fun n93=>
 Af 0 v_7 fun v94=>
 ld1 v94 h fun v95=>
 asI .u64 v95 fun n96=>
 c (.func 189) [(.bool (Bm n93 n96))] h fun v97 h98=>
 stn 2 v_8 v97 h98 fun h99=>
 ldn 2 v_8 h99 fun v100=>
 k v100 h99)
 (cnd (Bc l_1 c_1 2 15649)
 (Af 0 v_6 fun v101=>
 ld1 v101 h fun v102=>
 asI .u64 v102 fun n103=>
 Af 0 v_7 fun v104=>
 ld1 v104 h fun v105=>
 asI .u64 v105 fun n106=>
 c (.func 189) [(.bool (Ck (Bm n103 n106)))] h fun v107 h108=>
 stn 2 v_8 v107 h108 fun h109=>
 ldn 2 v_8 h109 fun v110=>
 k v110 h109)
 (cnd (Bc l_1 c_1 1 60)
 (c (.func 189) [(.bool b_12)] h fun v111 h112=>
 stn 2 v_8 v111 h112 fun h113=>
 ldn 2 v_8 h113 fun v114=>
 k v114 h113)
 (cnd (Bc l_1 c_1 1 62)
 (Ar (fun k115=>gate true (Ck b_12)
 (Af 0 v_6 fun v118=>
 ld1 v118 h fun v119=>
 asI .u64 v119 fun n120=>
 Af 0 v_7 fun v121=>
 ld1 v121 h fun v122=>
 asI .u64 v122 fun n123=>
 k115 (Ck (Bm n120 n123)) h)
 (k115 false h)) fun b117 h116=>
 c (.func 189) [(.bool b117)] h116 fun v124 h125=>
 stn 2 v_8 v124 h125 fun h126=>
 ldn 2 v_8 h126 fun v127=>
 k v127 h126)
 (cnd (Bc l_1 c_1 2 15676)
 (Ar (fun k128=>gate false b_12
 (Af 0 v_6 fun v131=>
 ld1 v131 h fun v132=>
 asI .u64 v132 fun n133=>
 Af 0 v_7 fun v134=>
 ld1 v134 h fun v135=>
 asI .u64 v135 fun n136=>
 k128 (Bm n133 n136) h)
 (k128 true h)) fun b130 h129=>
 c (.func 189) [(.bool b130)] h129 fun v137 h138=>
 stn 2 v_8 v137 h138 fun h139=>
 ldn 2 v_8 h139 fun v140=>
 k v140 h139)
 (cnd (Bc l_1 c_1 2 15678)
 (c (.func 189) [(.bool (Ck b_12))] h fun v141 h142=>
 stn 2 v_8 v141 h142 fun h143=>
 ldn 2 v_8 h143 fun v144=>
 k v144 h143)
 (cnd (Bc l_1 c_1 2 15420)
 (Af 0 v_6 fun v145=>
 ld1 v145 h fun v146=>
 asI .u64 v146 fun n147=>
 Af 0 v_7 fun v148=>
 ld1 v148 h fun v149=>
 asI .u64 v149 fun n150=>
 Ll Nat.land .u64 n150 (Int.ofNat 63) fun n151=>
 Acz .u64 n147 n151 fun n152=>
 Af 1 v_6 fun v153=>
 ld1 v153 h fun v154=>
 asB v154 fun b155=>
 oK (Ax env (env.ty 58) [(0,(.int .u64 n152)),(1,(.bool b155))] h) fun v156 h157=>
 stn 2 v_8 v156 h157 fun h158=>
 ldn 2 v_8 h158 fun v159=>
 k v159 h158)
 (cnd (Bc l_1 c_1 2 15934)
 (Af 1 v_6 fun v160=>
 ld1 v160 h fun v161=>
 asB v161 fun b162=>
 cnd b162
 (Af 0 v_6 fun v163=>
 ld1 v163 h fun v164=>
 asI .u64 v164 fun n165=>
 Af 0 v_7 fun v166=>
 ld1 v166 h fun v167=>
 asI .u64 v167 fun n168=>
 Ll Nat.land .u64 n168 (Int.ofNat 63) fun n169=>
 Agq .u64 n165 n169 fun n170=>
 oK (Ax env (env.ty 58) [(0,(.int .u64 n170)),(1,(.bool true))] h) fun v171 h172=>
 stn 2 v_8 v171 h172 fun h173=>
 ldn 2 v_8 h173 fun v174=>
 k v174 h173)
 (Af 0 v_7 fun v175=>
 ld1 v175 h fun v176=>
 asI .u64 v176 fun n177=>
 Ll Nat.land .u64 n177 (Int.ofNat 63) fun n178=>
 Agq .i64 n_10 n178 fun n179=>
 fI (wrap .u64 n179) fun n180=>
 oK (Ax env (env.ty 58) [(0,(.int .u64 n180))] h) fun v181 h182=>
 stn 2 v_8 v181 h182 fun h183=>
 ldn 2 v_8 h183 fun v184=>
 k v184 h183))
 (cnd (Bc l_1 c_1 1 43)
 (Af 0 v_6 fun v185=>
 ld1 v185 h fun v186=>
 asI .u64 v186 fun n187=>
 Af 0 v_7 fun v188=>
 ld1 v188 h fun v189=>
 asI .u64 v189 fun n190=>
 fI (wrap .u64 (Cl n187 n190)) fun n191=>
 oK (Ax env (env.ty 58) [(0,(.int .u64 n191)),(1,(.bool b_9))] h) fun v192 h193=>
 stn 2 v_8 v192 h193 fun h194=>
 ldn 2 v_8 h194 fun v195=>
 k v195 h194)
 (cnd (Bc l_1 c_1 1 45)
 (Af 0 v_6 fun v196=>
 ld1 v196 h fun v197=>
 asI .u64 v197 fun n198=>
 Af 0 v_7 fun v199=>
 ld1 v199 h fun v200=>
 asI .u64 v200 fun n201=>
 fI (wrap .u64 (Gl n198 n201)) fun n202=>
 oK (Ax env (env.ty 58) [(0,(.int .u64 n202)),(1,(.bool b_9))] h) fun v203 h204=>
 stn 2 v_8 v203 h204 fun h205=>
 ldn 2 v_8 h205 fun v206=>
 k v206 h205)
 (cnd (Bc l_1 c_1 1 42)
 (Af 0 v_6 fun v207=>
 ld1 v207 h fun v208=>
 asI .u64 v208 fun n209=>
 Af 0 v_7 fun v210=>
 ld1 v210 h fun v211=>
 asI .u64 v211 fun n212=>
 fI (wrap .u64 (n209*n212)) fun n213=>
 oK (Ax env (env.ty 58) [(0,(.int .u64 n213)),(1,(.bool b_9))] h) fun v214 h215=>
 stn 2 v_8 v214 h215 fun h216=>
 ldn 2 v_8 h216 fun v217=>
 k v217 h216)
 (Af 0 v_7 fun v218=>
 ld1 v218 h fun v219=>
 asI .u64 v219 fun n220=>
 cnd (Bm n220 (Int.ofNat 0))
 (oK (Bd v_0 h) fun v221 h222=>
 Af 2 v221 fun v223=>
 ld1 v223 h222 fun v224=>
 asB v224 fun b225=>
 Ar (fun k226=>gate false b225
 (oK (Bd v_0 h222) fun v229 h230=>
 Af 3 v229 fun v231=>
 ld1 v231 h230 fun v232=>
 asI .i64 v232 fun n233=>
 k226 (Bm n233 (Int.ofNat 0)) h230)
 (k226 true h222)) fun b228 h227=>
 oK (Bd v_0 h227) fun v234 h235=>
 Af 2 v234 fun v236=>
 st1 v236 (.bool b228) h235 fun h237=>
 J.a2 v_8 b_9 h237)
 (cnd b_9
 (cnd (Bc l_1 c_1 1 47)
 (Af 0 v_6 fun v238=>
 ld1 v238 h fun v239=>
 asI .u64 v239 fun n240=>
 Af 0 v_7 fun v241=>
 ld1 v241 h fun v242=>
 asI .u64 v242 fun n243=>
 Rx .u64 n240 n243 fun n244=>
 oK (Ax env (env.ty 58) [(0,(.int .u64 n244)),(1,(.bool true))] h) fun v245 h246=>
 stn 2 v_8 v245 h246 fun h247=>
 ldn 2 v_8 h247 fun v248=>
 k v248 h247)
 (Af 0 v_6 fun v249=>
 ld1 v249 h fun v250=>
 asI .u64 v250 fun n251=>
 Af 0 v_7 fun v252=>
 ld1 v252 h fun v253=>
 asI .u64 v253 fun n254=>
 Tx n251 n254 fun n255=>
 oK (Ax env (env.ty 58) [(0,(.int .u64 n255)),(1,(.bool true))] h) fun v256 h257=>
 stn 2 v_8 v256 h257 fun h258=>
 ldn 2 v_8 h258 fun v259=>
 k v259 h258))
 (J.a3 l_1 c_1 v_6 v_8 n_10 n_11 h))))))))))))))))))
def Ad4(_c:CF)(k:KV)(_J:Aar)(v_8:AV)(b_9:Bool)(h:H):Prop:=
 oK (Ax env (env.ty 58) [(1,(.bool b_9))] h) fun v260 h261=>
 stn 2 v_8 v260 h261 fun h262=>
 ldn 2 v_8 h262 fun v263=>
 k v263 h262
def Ad3(_c:CF)(k:KV)(_J:Aar)(l_1 c_1:Nat)(v_6 v_8:AV)(n_10 n_11:Int)(h:H):Prop:=
 cnd (Bm n_11 (Int.negSucc 0))
 (cnd (Bc l_1 c_1 1 47)
 (Af 0 v_6 fun v264=>
 ld1 v264 h fun v265=>
 asI .u64 v265 fun n266=>
 oV (unA .neg (.int .u64 n266)) fun v267=>
 asI .u64 v267 fun n268=>
 oK (Ax env (env.ty 58) [(0,(.int .u64 n268))] h) fun v269 h270=>
 stn 2 v_8 v269 h270 fun h271=>
 ldn 2 v_8 h271 fun v272=>
 k v272 h271)
 (oK (Ax env (env.ty 58) [] h) fun v273 h274=>
 stn 2 v_8 v273 h274 fun h275=>
 ldn 2 v_8 h275 fun v276=>
 k v276 h275))
 (cnd (Bc l_1 c_1 1 47)
 (Rx .i64 n_10 n_11 fun n277=>
 fI (wrap .u64 n277) fun n278=>
 oK (Ax env (env.ty 58) [(0,(.int .u64 n278))] h) fun v279 h280=>
 stn 2 v_8 v279 h280 fun h281=>
 ldn 2 v_8 h281 fun v282=>
 k v282 h281)
 (Tx n_10 n_11 fun n283=>
 fI (wrap .u64 n283) fun n284=>
 oK (Ax env (env.ty 58) [(0,(.int .u64 n284))] h) fun v285 h286=>
 stn 2 v_8 v285 h286 fun h287=>
 ldn 2 v_8 h287 fun v288=>
 k v288 h287))
def z145:Aar:=⟨fun _ _ _ _ _ _=>False,fun _ _ _ _ _ _ _ _ _ _ _=>False,fun _ _ _=>False,fun _ _ _ _ _ _ _=>False⟩
def Vp(c:CF)(k:KV)(m:Nat):Aar:=Nat.rec z145 (fun _ J=>⟨Ad6 c k J,Ad5 c k J,Ad4 c k J,Ad3 c k J⟩) m
def f145(J:Aar):Jump:=fun L f h=>match L with
 |0=>asS (f 1) fun l_1 c_1=>J.a0 (f 0) l_1 c_1 (f 2) (f 3) h
 |1=>asS (f 1) fun l_1 c_1=>asB (f 9) fun b_9=>asI .i64 (f 10) fun n_10=>asI .i64 (f 11) fun n_11=>asB (f 12) fun b_12=>J.a1 (f 0) l_1 c_1 (f 6) (f 7) (f 8) b_9 n_10 n_11 b_12 h
 |2=>asB (f 9) fun b_9=>J.a2 (f 8) b_9 h
 |3=>asS (f 1) fun l_1 c_1=>asI .i64 (f 10) fun n_10=>asI .i64 (f 11) fun n_11=>J.a3 l_1 c_1 (f 6) (f 8) n_10 n_11 h
 |_=>False
def Aqi:Ay:=[(.root,0),((.r (.r (.r (.r (.r .root))))),1),((.r (.l (.r (.l (.r (.r (.r (.r (.r (.r .root)))))))))),2),((.r (.r (.r (.r (.r (.r (.r (.r .root)))))))),3)]
section
variable{c:CF}{k:KV}{f:FT}{h:H}
theorem A7a(J:Aar)(l_1 c_1:Nat):zqe c k Art Aqi (f145 J) d145 Tryz.f145 .root (Ah f 1 (.str l_1 c_1)) h=Ad6 c k J (f 0) l_1 c_1 (f 2) (f 3) h:=by kernel_rfl
theorem A69(J:Aar)(l_1 c_1:Nat)(b_9:Bool)(n_10 n_11:Int)(b_12:Bool):zqe c k Art Aqi (f145 J) d145 Tryz.f145 (.r (.r (.r (.r (.r .root))))) (Ah (Ah (Ah (Ah (Ah f 1 (.str l_1 c_1)) 9 (.bool b_9)) 10 (.int .i64 n_10)) 11 (.int .i64 n_11)) 12 (.bool b_12)) h=Ad5 c k J (f 0) l_1 c_1 (f 6) (f 7) (f 8) b_9 n_10 n_11 b_12 h:=by kernel_rfl
theorem A68(J:Aar)(b_9:Bool):zqe c k Art Aqi (f145 J) d145 Tryz.f145 (.r (.l (.r (.l (.r (.r (.r (.r (.r (.r .root)))))))))) (Ah f 9 (.bool b_9)) h=Ad4 c k J (f 8) b_9 h:=by kernel_rfl
theorem A67(J:Aar)(l_1 c_1:Nat)(n_10 n_11:Int):zqe c k Art Aqi (f145 J) d145 Tryz.f145 (.r (.r (.r (.r (.r (.r (.r (.r .root)))))))) (Ah (Ah (Ah f 1 (.str l_1 c_1)) 10 (.int .i64 n_10)) 11 (.int .i64 n_11)) h=Ad3 c k J l_1 c_1 (f 6) (f 8) n_10 n_11 h:=by kernel_rfl
theorem Bh8(hc:Be c){n:Nat}{a:List AV}(hg:f145 (Vp c k n) 0 (Ab a) h):zqs 145 a h k:=
 zqw hc Art Tryz.func145 rfl (by kernel_rfl) (by kernel_rfl) k Aqi (fun n=>f145 (Vp c k n)) (fun L _ _ hl=>match L,hl with
  |0,hl=>Bv hl fun _ _ hl=>hl
  |1,hl=>Bv hl fun _ _ hl=>Gc hl fun _ hl=>Bq hl fun _ hl=>Bq hl fun _ hl=>Gc hl fun _ hl=>hl
  |2,hl=>Gc hl fun _ hl=>hl
  |3,hl=>Bv hl fun _ _ hl=>Bq hl fun _ hl=>Bq hl fun _ hl=>hl
  |_+4,hl=>hl) (fun n=>⟨
  fun f h hl=>by
    refine Bu 1 hl fun _ _ hl=>?_;exact Eq.mpr (A7a ..) hl,
  fun f h hl=>by
    refine Bu 1 hl fun _ _ hl=>?_;refine Gb 9 hl fun _ hl=>?_;refine Bp 10 hl fun _ hl=>?_;refine Bp 11 hl fun _ hl=>?_;refine Gb 12 hl fun _ hl=>?_;exact Eq.mpr (A69 ..) hl,
  fun f h hl=>by
    refine Gb 9 hl fun _ hl=>?_;exact Eq.mpr (A68 ..) hl,
  fun f h hl=>by
    refine Bu 1 hl fun _ _ hl=>?_;refine Bp 10 hl fun _ hl=>?_;refine Bp 11 hl fun _ hl=>?_;exact Eq.mpr (A67 ..) hl,
  trivial⟩) rfl hg
end
theorem Bjx{c:CF}{k:KV}{n l_1 c_1:Nat}{v_0 v_2 v_3:AV}{h:H}(hg:Ad6 c k (Vp c k n) v_0 l_1 c_1 v_2 v_3 h):f145 (Vp c k (n+1)) 0 (Ab [v_0,.str l_1 c_1,v_2,v_3]) h:=hg
theorem A48{c:CF}{k:KV}{n:Nat}{x0:AV}{x1 x2:Nat}{x3 x4 x5:AV}{x6:Bool}{x7 x8:Int}{x9:Bool}{h:H}(hg:Ad5 c k (Vp c k n) x0 x1 x2 x3 x4 x5 x6 x7 x8 x9 h):(Vp c k (n+1)).a1 x0 x1 x2 x3 x4 x5 x6 x7 x8 x9 h:=hg
theorem A47{c:CF}{k:KV}{n:Nat}{x0:AV}{x1:Bool}{h:H}(hg:Ad4 c k (Vp c k n) x0 x1 h):(Vp c k (n+1)).a2 x0 x1 h:=hg
theorem A46{c:CF}{k:KV}{n x0 x1:Nat}{x2 x3:AV}{x4 x5:Int}{h:H}(hg:Ad3 c k (Vp c k n) x0 x1 x2 x3 x4 x5 h):(Vp c k (n+1)).a3 x0 x1 x2 x3 x4 x5 h:=hg
end Go.Den
noncomputable section
namespace Go.Den
open Go.Proofs
set_option maxRecDepth 100000
def d189:Code:=Option.rec .skip (fun c=>c) Tryz.f189.body
def Bbi:Aj:=[]
structure Avm where
 a0:Bool→H→Prop
def Adc(_c:CF)(k:KV)(_J:Avm)(b_0:Bool)(h:H):Prop:=
 Hp.Cz h Da fun p1 h2=>
 cnd b_0
 (oK (Ax env (env.ty 58) [(0,(.int .u64 (Int.ofNat 1)))] h2) fun v3 h4=>
 stn 2 (.ptr p1 0) v3 h4 fun h5=>
 ldn 2 (.ptr p1 0) h5 fun v6=>
 k v6 h5)
 (oK (Ax env (env.ty 58) [] h2) fun v7 h8=>
 stn 2 (.ptr p1 0) v7 h8 fun h9=>
 ldn 2 (.ptr p1 0) h9 fun v10=>
 k v10 h9)
def Bf9:Avm:=⟨fun _ _=>False⟩
def Awy(c:CF)(k:KV)(m:Nat):Avm:=Nat.rec Bf9 (fun _ J=>⟨Adc c k J⟩) m
def f189(J:Avm):Jump:=fun L f h=>match L with
 |0=>asB (f 0) fun b_0=>J.a0 b_0 h
 |_=>False
def Bab:Ay:=[(.root,0)]
section
variable{c:CF}{k:KV}{f:FT}{h:H}
theorem A6g(J:Avm)(b_0:Bool):zqe c k Bbi Bab (f189 J) d189 Tryz.f189 .root (Ah f 0 (.bool b_0)) h=Adc c k J b_0 h:=by kernel_rfl
theorem Bhw(hc:Be c){n:Nat}{a:List AV}(hg:f189 (Awy c k n) 0 (Ab a) h):zqs 189 a h k:=
 zqw hc Bbi Tryz.func189 rfl (by kernel_rfl) (by kernel_rfl) k Bab (fun n=>f189 (Awy c k n)) (fun L _ _ hl=>match L,hl with
  |0,hl=>Gc hl fun _ hl=>hl
  |_+1,hl=>hl) (fun n=>⟨
  fun f h hl=>by
    refine Gb 0 hl fun _ hl=>?_;exact Eq.mpr (A6g ..) hl,
  trivial⟩) rfl hg
end
theorem Bjj{c:CF}{k:KV}{n:Nat}{b_0:Bool}{h:H}(hg:Adc c k (Awy c k n) b_0 h):f189 (Awy c k (n+1)) 0 (Ab [.bool b_0]) h:=hg
end Go.Den
noncomputable section
namespace Go.Den
open Go.Proofs
set_option maxRecDepth 100000
def d8:Code:=Option.rec .skip (fun c=>c) Tryz.f8.body
def q8:Aj:=[]
structure J8 where
 a0:AV→H→Prop
def Awu(c:CF)(k:KV)(_J:J8)(v_0:AV)(h:H):Prop:=
 c (.func 14) [v_0,(.int .i64 (Int.ofNat 200))] h fun v1 h2=>
 asB v1 fun b3=>
 cnd (Ck b3)
 (c (.func 25) [] h2 fun v4 h5=>
 asB v4 fun b6=>
 k (.bool b6) h5)
 (c (.func 26) [v_0] h2 fun v7 h8=>
 ext 0 v7 fun v9=>
 ext 1 v7 fun v10=>
 asB v10 fun b11=>
 Hp.Cz h8 Ek fun p12 h13=>
 stn 2 (.ptr p12 0) v9 h13 fun h14=>
 c (.func 27) [v_0] h14 fun v15 h16=>
 ext 0 v15 fun v17=>
 ext 1 v15 fun v18=>
 asB v18 fun b19=>
 Hp.Cz h16 Da fun p20 h21=>
 stn 2 (.ptr p20 0) v17 h21 fun h22=>
 Af 0 (.ptr p12 0) fun v23=>
 ld1 v23 h22 fun v24=>
 asI .u64 v24 fun n25=>
 Af 0 (.ptr p20 0) fun v26=>
 ld1 v26 h22 fun v27=>
 asI .u64 v27 fun n28=>
 Ar (fun k29=>gate true (Bm n25 n28)
 (Af 1 (.ptr p12 0) fun v32=>
 ld1 v32 h22 fun v33=>
 asB v33 fun b34=>
 Af 1 (.ptr p20 0) fun v35=>
 ld1 v35 h22 fun v36=>
 asB v36 fun b37=>
 oV (Qk env .eql 4 (.bool b34) (.bool b37)) fun v38=>
 asB v38 fun b39=>
 k29 b39 h22)
 (k29 false h22)) fun b31 h30=>
 Ar (fun k40=>gate true b31
 (oV (Qk env .eql 4 (.bool b11) (.bool b19)) fun v43=>
 asB v43 fun b44=>
 k40 b44 h30)
 (k40 false h30)) fun b42 h41=>
 Ar (fun k45=>gate true b42
 (c (.func 25) [] h41 fun v48 h49=>
 asB v48 fun b50=>
 k45 b50 h49)
 (k45 false h41)) fun b47 h46=>
 k (.bool b47) h46)
def z8:J8:=⟨fun _ _=>False⟩
def r8(c:CF)(k:KV)(m:Nat):J8:=Nat.rec z8 (fun _ J=>⟨Awu c k J⟩) m
def f8(J:J8):Jump:=fun L f h=>match L with
 |0=>J.a0 (f 0) h
 |_=>False
def u8:Ay:=[(.root,0)]
section
variable{c:CF}{k:KV}{f:FT}{h:H}
theorem Bkl(J:J8):zqe c k q8 u8 (f8 J) d8 Tryz.f8 .root f h=Awu c k J (f 0) h:=by kernel_rfl
theorem w8(hc:Be c){n:Nat}{a:List AV}(hg:f8 (r8 c k n) 0 (Ab a) h):zqs 8 a h k:=
 zqw hc q8 Tryz.func8 rfl (by kernel_rfl) (by kernel_rfl) k u8 (fun n=>f8 (r8 c k n)) (fun L _ _ hl=>match L,hl with
  |0,hl=>hl
  |_+1,hl=>hl) (fun n=>⟨
  fun f h hl=>Eq.mpr (Bkl ..) hl,
  trivial⟩) rfl hg
end
theorem g8{c:CF}{k:KV}{n:Nat}{v_0:AV}{h:H}(hg:Awu c k (r8 c k n) v_0 h):f8 (r8 c k (n+1)) 0 (Ab [v_0]) h:=hg
end Go.Den
