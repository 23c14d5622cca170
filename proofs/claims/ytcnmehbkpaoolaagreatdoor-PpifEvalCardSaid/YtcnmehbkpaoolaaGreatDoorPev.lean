/-
 Proof.
-/
import Derived.Test.YtcnmehbkpaoolaaGreatDoorEvr
import Derived.Test.YtcnmehbkpaoolaaGreatDoorPrn
import Derived.Test.YtcnmehbkpaoolaaGreatDoorL8
import Derived.Test.YtcnmehbkpaoolaaGreatDoorEvc
import Derived.Test.YtcnmehbkpaoolaaGreatDoorTxtd
import Derived.Test.YtcnmehbkpaoolaaGreatDoorRfa
import Derived.Test.YtcnmehbkpaoolaaGreatDoorAwl
namespace Go.Den
open Go.RowKit
open Go.Pre (V Kq vz Fh Mf Mg Pd Se shB Py Vy Hr Dt Ph Wy)
set_option maxRecDepth 100000
def Ry(hE:H)(B:P)(vL:AV)(sk i:Nat)(b:Bool)(h:H):Prop:=Exh hE h∧hE.next.nat≤B.nat∧B.nat<h.next.nat∧Cel h B 125 [vL,.int .i64 (Int.ofNat i),.bool b,.int .i64 (Int.ofNat sk)]
section
variable{hE h h':H}{B:P}{vL:AV}{sk i:Nat}{b:Bool}
theorem Ry.frn{n:Nat}(s:Ry hE B vL sk i b h)(f:FrN n h h')(hn:B.nat<n):Ry hE B vL sk i b h':=
 ⟨⟨Nat.le_trans s.1.1 f.1,fun c hc=>by rw[f.2 c (by have:=s.2.1;omega),s.1.2 c hc]⟩,s.2.1,Nat.lt_of_lt_of_le s.2.2.1 f.1,s.2.2.2.frame (f.2 B hn)⟩
theorem Ry.ext(s:Ry hE B vL sk i b h)(f:Exh h h'):Ry hE B vL sk i b h':=s.frn (FrN.exh f (Nat.le_refl _)) s.2.2.1
theorem Ry.loc{p:P}(s:Ry hE B vL sk i b h)(f:FrO p h h')(hp:B.nat<p.nat)(hn:p.nat<h.next.nat):Ry hE B vL sk i b h':=s.frn (FrN.fro f (Nat.le_refl _) (by omega)) hp
theorem Ry.l0{K:AV→Prop}(s:Ry hE B vL sk i b h)(hk:K vL):Go.Den.ld1 (.ptr B (0+0)) h K:=s.2.2.2.atp.ld1 (j:=0) (by simp) hk
theorem Ry.l1{K:AV→Prop}(s:Ry hE B vL sk i b h)(hk:K (.int .i64 (Int.ofNat i))):Go.Den.ld1 (.ptr B (0+1)) h K:=s.2.2.2.atp.ld1 (j:=1) (by simp) hk
theorem Ry.l2{K:AV→Prop}(s:Ry hE B vL sk i b h)(hk:K (.bool b)):Go.Den.ld1 (.ptr B (0+2)) h K:=s.2.2.2.atp.ld1 (j:=2) (by simp) hk
theorem Ry.l3{K:AV→Prop}(s:Ry hE B vL sk i b h)(hk:K (.int .i64 (Int.ofNat sk))):Go.Den.ld1 (.ptr B (0+3)) h K:=s.2.2.2.atp.ld1 (j:=3) (by simp) hk
theorem Ry.s1{j:Nat}{K:H→Prop}(s:Ry hE B vL sk i b h)(hk:∀h',FrO B h h'→Ry hE B vL sk j b h'→K h'):Go.Den.st1 (.ptr B (0+1)) (.int .i64 (Int.ofNat j)) h K:=
 s.2.2.2.st1 (j:=1) (by simp) rfl fun h' f c=>hk h' f ⟨s.1.loc f s.2.1,s.2.1,Nat.lt_of_lt_of_le s.2.2.1 f.1,c⟩
theorem Ry.s2{y:Bool}{K:H→Prop}(s:Ry hE B vL sk i b h)(hk:∀h',FrO B h h'→Ry hE B vL sk i y h'→K h'):Go.Den.st1 (.ptr B (0+2)) (.bool y) h K:=
 s.2.2.2.st1 (j:=2) (by simp) rfl fun h' f c=>hk h' f ⟨s.1.loc f s.2.1,s.2.1,Nat.lt_of_lt_of_le s.2.2.1 f.1,c⟩
theorem Ry.s3{j:Nat}{K:H→Prop}(s:Ry hE B vL sk i b h)(hk:∀h',FrO B h h'→Ry hE B vL j i b h'→K h'):Go.Den.st1 (.ptr B (0+3)) (.int .i64 (Int.ofNat j)) h K:=
 s.2.2.2.st1 (j:=3) (by simp) rfl fun h' f c=>hk h' f ⟨s.1.loc f s.2.1,s.2.1,Nat.lt_of_lt_of_le s.2.2.1 f.1,c⟩
end
theorem Aw5:Da=rowOf 58 (vC (0#64,false)):=rfl
theorem Ga{p:P}{h:H}{w v:V}{k:KV}(c:Cel h p 58 (vC w))(hk:∀h',FrO p h h'→k (vI v) h'):stn 2 (.ptr p 0) (vI v) h fun h8=>ldn 2 (.ptr p 0) h8 fun v9=>k v9 h8:=
 c.stn (cs':=vC v) rfl rfl (by decide) fun h' f c'=>c'.atp.ldn rfl (hk h' f)
theorem Ib{h:H}:Cel (h.new Da) h.next 58 (vC (0#64,false)):=by rw[Aw5];exact .new
theorem Hj{h:H}{v:V}{K:H→Prop}(hk:∀h',Exh h h'→h.next.nat<h'.next.nat→Cel h' h.next 58 (vC v)→K h'):stn 2 (.ptr h.next 0) (vI v) (h.new Da) K:=
 (Ib (h:=h)).stn (cs':=vC v) rfl rfl (by decide) fun h' f c=>hk h' (Exh.new.loc f (Nat.le_refl _)) (by have:=f.1;rw[Aw] at this;omega) c
theorem Mx(n:Int)(b:Bool)(h:H):Ax env (env.ty 58) [(0,(.int .u64 n)),(1,(.bool b))] h=some (.agg [.int .u64 n,.bool b],h):=by kernel_rfl
theorem A5u(b:Bool)(h:H):Ax env (env.ty 58) [(1,(.bool b))] h=some (.agg [.int .u64 (.ofNat 0),.bool b],h):=by kernel_rfl
theorem Zz(n:Int)(h:H):Ax env (env.ty 58) [(0,(.int .u64 n))] h=some (.agg [.int .u64 n,.bool false],h):=by kernel_rfl
theorem Tf(h:H):Ax env (env.ty 58) [] h=some (.agg [.int .u64 (.ofNat 0),.bool false],h):=by kernel_rfl
theorem Afz(b:Bool):Pure PP G h0 189 [.bool b] (vI (Kq b)):=by
 refine Bhw (n:=1) Bw (Bjj ?_)
 unfold Adc
 refine Bo ?_
 have c1:Cel (h0.new Da) h0.next 58 (vC (0#64,false)):=Ib
 cases b with
 |false=>
  refine Ca rfl ?_
  rw[Tf,Ac]
  exact Ga (v:=(0#64,false)) c1 fun _ _=>rfl
 |true=>
  refine Bz rfl ?_
  rw[Zz,Ac]
  exact Ga (v:=(1#64,false)) c1 fun _ _=>rfl
theorem Bko{h:H}(x:En)(t:List UInt8){k:KV}(hk:∀h',Exh h h'→k (.bool (decide (x.kind=5)&&decide (x.text=t))) h'):W1 (.func 93) [.agg x.cells,S t] h k:=by
 refine w93 (n:=1) Bw (g93 ?_)
 unfold Alf
 rw[St]
 refine Vb (by unfold En.cells;simp) (Bo ?_)
 have at1:AtP (h.new (rowOf 43 x.cells)) h.next 0 x.cells:=AtP.newRow
 have x1:Exh h (h.new (rowOf 43 x.cells)):=.new
 generalize h.new (rowOf 43 x.cells)=h1 at at1 x1 ⊢
 rw[Ae]
 refine at1.kd ?_
 rw[Au]
 refine Lo (b:=decide (x.text=t)) (fun k' hk'=>?_) ?_
 · rw[Ae]
   refine at1.tx ?_
   rw[De,Dg];exact hk'
 rw[Aa5];exact hk h1 x1
section
variable{hE:H}{L:List En}{vL:AV}{B:P}(hr:RdT hE vL L)(hl:L.length≤1000000)
include hr hl
theorem c90{s:List UInt8}{sk i:Nat}{b:Bool}{h:H}{k:KV}(rs:Ry hE B vL sk i b h)(hk1:∀h' (hlt:i<L.length),b=false→tk L[i]=Go.Pre.P s→FrO B h h'→Ry hE B vL sk (i+1) b h'→k (.bool true) h')
 (hk2:∀h',(∀hlt:i<L.length,b=false→¬tk L[i]=Go.Pre.P s)→FrO B h h'→Ry hE B vL sk i b h'→k (.bool false) h'):W1 (.func 90) [.ptr B 0,S s] h k:=by
 refine w90 (n:=1) Bw (g90 ?_)
 unfold Alg
 rw[Al,Ac,Ae]
 refine rs.l2 ?_
 rw[Av]
 refine Mc (b:=decide (L.length≤i)) (fun k' hk'=>?_) ?_
 · rw[Al,Ac,Ae]
   refine rs.l1 ?_
   rw[Au,Al,Ac,Ae]
   refine rs.l0 ?_
   rw[hr.len,ile];exact hk'
 refine Hx (fun e=>?_) (fun e=>?_)
 · rw[Bool.or_eq_false_iff,decide_eq_false_iff_not] at e
   obtain⟨hb,e⟩:=e
   have e:i<L.length:=by omega
   rw[Al,Ac,Ae]
   refine rs.l0 ?_
   rw[Al,Ac,Ae]
   refine rs.l1 ?_
   rw[Au,Bh]
   refine(hr.rd e).tok rs.1 e ?_
   refine Bko L[i] s fun h1 x1=>?_
   rw[Av]
   have rs1:=rs.ext x1
   refine Ap (fun e1=>?_) (fun e1=>?_)
   · refine hk2 h1 (fun _ _ ht=>?_) (.exh x1) rs1
     rw[Bj,Bool.not_eq_true',Bool.and_eq_false_iff,decide_eq_false_iff_not,decide_eq_false_iff_not] at e1
     unfold tk Go.Pre.P at ht
     have t1:=congrArg Prod.fst ht
     have t2:=congrArg Prod.snd ht
     simp only[] at t1 t2
     rcases e1 with e1|e1
     · exact e1 (by omega)
     · exact e1 t2
   · rw[Bj,Bool.not_eq_false',Bool.and_eq_true,decide_eq_true_eq,decide_eq_true_eq] at e1
     rw[Al,Ac,Ae]
     refine rs1.l1 ?_
     rw[Au,Eg,Cv (by omega),Ak,Al,Ac,Ae]
     refine rs1.s1 fun h2 f2 rs2=>?_
     exact hk1 h2 e hb (by unfold tk Go.Pre.P;rw[e1.1,e1.2];rfl) ((FrO.exh x1).trans f2) rs2
 · refine Bz rfl ?_
   refine hk2 h (fun hlt hb _=>?_) .refl rs
   rw[hb,Bool.false_or,decide_eq_true_eq] at e
   omega
end
def InP(n0 n1:Nat)(v:AV):Prop:=∀q o n z b,v=.slice q o n z b→n0≤q.nat∧q.nat<n1
theorem Rd.frI{n0 n1 sz:Nat}{h h':H}{v:AV}{L:List (List AV)}(hr:Rd sz h v L)(hi:InP n0 n1 v)(hn:h.next.nat≤h'.next.nat)(hf:∀c,n0≤c.nat→c.nat<n1→h'.at c=h.at c):Rd sz h' v L:=
 hr.frame hn fun c _ o n z b e=>hf c (hi _ _ _ _ _ e).1 (hi _ _ _ _ _ e).2
structure Avf(n0 n1:Nat)(h:H)(v:AV)(vs:List AV):Prop where
 len:vs.length=10
 rd:Rd 1 h v (vs.map fun c=>[c])
 inv:InP n0 n1 v
 row:∀i (hi:i<vs.length) (hj:i<Dt.length),Rd 1 h vs[i] (es Dt[i])
 ins:∀i (hi:i<vs.length),InP n0 n1 vs[i]
theorem Avf.frame{n0 n1:Nat}{h h':H}{v:AV}{vs:List AV}(o:Avf n0 n1 h v vs)(hn:h.next.nat≤h'.next.nat)(hf:∀c,n0≤c.nat→c.nat<n1→h'.at c=h.at c):Avf n0 n1 h' v vs:=
 ⟨o.len,o.rd.frI o.inv hn hf,o.inv,fun i hi hj=>(o.row i hi hj).frI (o.ins i hi) hn hf,o.ins⟩
theorem As3{n0 n1:Nat}{p:P}(h0:n0≤p.nat)(h1:p.nat<n1){o n z:Nat}{b:Bool}:InP n0 n1 (.slice p o n z b):=fun q _ _ _ _ e=>by cases e;exact⟨h0,h1⟩
theorem Ayb{h:H}{k:KV}(hk:∀h' v vs,Exh h h'→Avf h.next.nat h'.next.nat h' v vs→k v h'):W1 (.func 143) [] h k:=by
 refine Bh9 (n:=1) Bw (Bjy ?_)
 unfold Ad9
 rw[L0b,Ac]
 have r0:=Io (e:=9) L0c rfl h
 have x0:Exh h (h.new (.row L0t 1 0 9 true)):=.new
 have u0:h.next.nat<(h.new (.row L0t 1 0 9 true)).next.nat:=by rw[Aw];omega
 generalize h.new (.row L0t 1 0 9 true)=h0' at r0 x0 u0 ⊢
 rw[L1b,Ac]
 have r1:=Io (e:=9) L1c rfl h0'
 have y:Exh h0' (h0'.new (.row L1t 1 0 9 true)):=.new
 have u1:h0'.next.nat<(h0'.new (.row L1t 1 0 9 true)).next.nat:=by rw[Aw];omega
 replace r0:=r0.ext y
 replace x0:=x0.trans y
 generalize h0'.new (.row L1t 1 0 9 true)=h1' at r0 r1 x0 u1 ⊢
 clear y
 rw[L2b,Ac]
 have r2:=Io (e:=9) L2c rfl h1'
 have y:Exh h1' (h1'.new (.row L2t 1 0 9 true)):=.new
 have u2:h1'.next.nat<(h1'.new (.row L2t 1 0 9 true)).next.nat:=by rw[Aw];omega
 replace r0:=r0.ext y
 replace r1:=r1.ext y
 replace x0:=x0.trans y
 generalize h1'.new (.row L2t 1 0 9 true)=h2' at r0 r1 r2 x0 u2 ⊢
 clear y
 rw[L3b,Ac]
 have r3:=Io (e:=9) L3c rfl h2'
 have y:Exh h2' (h2'.new (.row L3t 1 0 9 true)):=.new
 have u3:h2'.next.nat<(h2'.new (.row L3t 1 0 9 true)).next.nat:=by rw[Aw];omega
 replace r0:=r0.ext y
 replace r1:=r1.ext y
 replace r2:=r2.ext y
 replace x0:=x0.trans y
 generalize h2'.new (.row L3t 1 0 9 true)=h3' at r0 r1 r2 r3 x0 u3 ⊢
 clear y
 rw[L4b,Ac]
 have r4:=Io (e:=9) L4c rfl h3'
 have y:Exh h3' (h3'.new (.row L4t 1 0 9 true)):=.new
 have u4:h3'.next.nat<(h3'.new (.row L4t 1 0 9 true)).next.nat:=by rw[Aw];omega
 replace r0:=r0.ext y
 replace r1:=r1.ext y
 replace r2:=r2.ext y
 replace r3:=r3.ext y
 replace x0:=x0.trans y
 generalize h3'.new (.row L4t 1 0 9 true)=h4' at r0 r1 r2 r3 r4 x0 u4 ⊢
 clear y
 rw[L5b,Ac]
 have r5:=Io (e:=9) L5c rfl h4'
 have y:Exh h4' (h4'.new (.row L5t 2 0 9 true)):=.new
 have u5:h4'.next.nat<(h4'.new (.row L5t 2 0 9 true)).next.nat:=by rw[Aw];omega
 replace r0:=r0.ext y
 replace r1:=r1.ext y
 replace r2:=r2.ext y
 replace r3:=r3.ext y
 replace r4:=r4.ext y
 replace x0:=x0.trans y
 generalize h4'.new (.row L5t 2 0 9 true)=h5' at r0 r1 r2 r3 r4 r5 x0 u5 ⊢
 clear y
 rw[L6b,Ac]
 have r6:=Io (e:=9) L6c rfl h5'
 have y:Exh h5' (h5'.new (.row L6t 4 0 9 true)):=.new
 have u6:h5'.next.nat<(h5'.new (.row L6t 4 0 9 true)).next.nat:=by rw[Aw];omega
 replace r0:=r0.ext y
 replace r1:=r1.ext y
 replace r2:=r2.ext y
 replace r3:=r3.ext y
 replace r4:=r4.ext y
 replace r5:=r5.ext y
 replace x0:=x0.trans y
 generalize h5'.new (.row L6t 4 0 9 true)=h6' at r0 r1 r2 r3 r4 r5 r6 x0 u6 ⊢
 clear y
 rw[L7b,Ac]
 have r7:=Io (e:=9) L7c rfl h6'
 have y:Exh h6' (h6'.new (.row L7t 2 0 9 true)):=.new
 have u7:h6'.next.nat<(h6'.new (.row L7t 2 0 9 true)).next.nat:=by rw[Aw];omega
 replace r0:=r0.ext y
 replace r1:=r1.ext y
 replace r2:=r2.ext y
 replace r3:=r3.ext y
 replace r4:=r4.ext y
 replace r5:=r5.ext y
 replace r6:=r6.ext y
 replace x0:=x0.trans y
 generalize h6'.new (.row L7t 2 0 9 true)=h7' at r0 r1 r2 r3 r4 r5 r6 r7 x0 u7 ⊢
 clear y
 rw[L8b,Ac]
 have r8:=Io (e:=9) L8c rfl h7'
 have y:Exh h7' (h7'.new (.row L8t 2 0 9 true)):=.new
 have u8:h7'.next.nat<(h7'.new (.row L8t 2 0 9 true)).next.nat:=by rw[Aw];omega
 replace r0:=r0.ext y
 replace r1:=r1.ext y
 replace r2:=r2.ext y
 replace r3:=r3.ext y
 replace r4:=r4.ext y
 replace r5:=r5.ext y
 replace r6:=r6.ext y
 replace r7:=r7.ext y
 replace x0:=x0.trans y
 generalize h7'.new (.row L8t 2 0 9 true)=h8' at r0 r1 r2 r3 r4 r5 r6 r7 r8 x0 u8 ⊢
 clear y
 rw[L9b,Ac]
 have r9:=Io (e:=9) L9c rfl h8'
 have y:Exh h8' (h8'.new (.row L9t 3 0 9 true)):=.new
 have u9:h8'.next.nat<(h8'.new (.row L9t 3 0 9 true)).next.nat:=by rw[Aw];omega
 replace r0:=r0.ext y
 replace r1:=r1.ext y
 replace r2:=r2.ext y
 replace r3:=r3.ext y
 replace r4:=r4.ext y
 replace r5:=r5.ext y
 replace r6:=r6.ext y
 replace r7:=r7.ext y
 replace r8:=r8.ext y
 replace x0:=x0.trans y
 generalize h8'.new (.row L9t 3 0 9 true)=h9' at r0 r1 r2 r3 r4 r5 r6 r7 r8 r9 x0 u9 ⊢
 clear y
 rw[LLb,Ac]
 have g0:h.next.nat≤h.next.nat:=Nat.le_refl _
 generalize e0:h.next=p0,h0'.next=p1,h1'.next=p2,h2'.next=p3,h3'.next=p4,h4'.next=p5,h5'.next=p6,h6'.next=p7,h7'.next=p8,h8'.next=p9 at*
 have rr:=A2j (e:=44) (LLc p0 p1 p2 p3 p4 p5 p6 p7 p8 p9) rfl h9'
 have y:Exh h9' (h9'.new (.row (LLt p0 p1 p2 p3 p4 p5 p6 p7 p8 p9) 10 0 44 true)):=.new
 have u10:h9'.next.nat<(h9'.new (.row (LLt p0 p1 p2 p3 p4 p5 p6 p7 p8 p9) 10 0 44 true)).next.nat:=by rw[Aw];omega
 generalize h9'.new (.row (LLt p0 p1 p2 p3 p4 p5 p6 p7 p8 p9) 10 0 44 true)=h10' at rr y u10 ⊢
 refine hk h10' _ _ (x0.trans y) ⟨rfl,rr,As3 (by omega) (by omega),fun i hi hj=>?_,fun i hi=>?_⟩
 · match i,hi with
   |0,_=>exact r0.ext y
   |1,_=>exact r1.ext y
   |2,_=>exact r2.ext y
   |3,_=>exact r3.ext y
   |4,_=>exact r4.ext y
   |5,_=>exact r5.ext y
   |6,_=>exact r6.ext y
   |7,_=>exact r7.ext y
   |8,_=>exact r8.ext y
   |9,_=>exact r9.ext y
   |n+10,hn=>exact absurd hn (by show¬n+10<10;omega)
 · match i,hi with
   |0,_|1,_|2,_|3,_|4,_|5,_|6,_|7,_|8,_|9,_=>exact As3 (by omega) (by omega)
   |n+10,hn=>exact absurd hn (by show¬n+10<10;omega)
theorem Biz{b:BitVec 64}:Bm b.toInt (Int.negSucc 0)=decide (b= -1#64):=by
 rw[Fz,Bool.eq_iff_iff,beq_iff_eq,decide_eq_true_eq]
 constructor
 · intro e
   apply BitVec.eq_of_toInt_eq
   rw[e];rfl
 · intro e;subst e;rfl
theorem Awt(a:BitVec 64):a.sdiv (-1#64)= -a:=by
 apply BitVec.eq_of_toInt_eq
 rw[BitVec.toInt_sdiv,show(-1#64:BitVec 64).toInt= -1 from rfl,Int.tdiv_neg,Int.tdiv_one,BitVec.toInt_neg]
theorem Awk(a:BitVec 64):a.srem (-1#64)=0#64:=by
 apply BitVec.eq_of_toInt_eq
 rw[BitVec.toInt_srem,show(-1#64:BitVec 64).toInt= -1 from rfl,Int.tmod_neg,Int.tmod_one];rfl
def opsL:List (List UInt8):=[[124,124],[38,38],[124],[94],[38],[61,61],[33,61],[60],[62],[60,61],[62,61],[60,60],[62,62],[43],[45],[42],[47],[37]]
section
variable{hE h:H}{B:P}{vL:AV}{sk i:Nat}{s:List UInt8}{a b:V}{k:KV}
theorem Bfl{y:Bool}(rs:Ry hE B vL sk i y h)(hs:s∈opsL)(hk1:∀v h',Go.Pre.two (Go.Pre.P s) a b (decide (sk=0))=some v→FrO B h h'→Ry hE B vL sk i y h'→k (vI v) h')
 (hk2:∀v h',Go.Pre.two (Go.Pre.P s) a b (decide (sk=0))=none→FrO B h h'→Ry hE B vL sk i true h'→k (vI v) h'):W1 (.func 145) [.ptr B 0,S s,vI a,vI b] h k:=by
 refine Bh8 (n:=4) Bw (Bjx ?_)
 unfold Ad6
 rw[St]
 refine Vb (by simp) (Bo ?_)
 have c2:Cel (h.new (rowOf 58 (vC a))) h.next 58 (vC a):=.new
 have x1:Exh h (h.new (rowOf 58 (vC a))):=.new
 have n1:h.next.nat<(h.new (rowOf 58 (vC a))).next.nat:=by rw[Aw];omega
 generalize h.new (rowOf 58 (vC a))=h1 at c2 x1 n1 ⊢
 rw[St]
 refine Vb (by simp) (Bo ?_)
 have c5:Cel (h1.new (rowOf 58 (vC b))) h1.next 58 (vC b):=.new
 have x2:Exh h1 (h1.new (rowOf 58 (vC b))):=.new
 have n2:h1.next.nat<(h1.new (rowOf 58 (vC b))).next.nat:=by rw[Aw];omega
 replace c2:=c2.ext x2 n1
 replace x2:=x1.trans x2
 generalize h1.new (rowOf 58 (vC b))=h2 at c2 c5 x2 n2 ⊢
 refine Bo ?_
 have c7:Cel (h2.new Da) h2.next 58 (vC (0#64,false)):=Ib
 have x3:Exh h2 (h2.new Da):=.new
 have n3:h2.next.nat<(h2.new Da).next.nat:=by rw[Aw];omega
 replace c2:=c2.ext x3 (by omega)
 replace c5:=c5.ext x3 n2
 replace x3:=x2.trans x3
 generalize h2.new Da=h3 at c2 c5 c7 x3 n3 ⊢
 have F3:FrN h.next.nat h h3:=FrN.exh x3 (Nat.le_refl _)
 rw[Ae]
 refine c2.atp.ld1 (j:=1) (by simp) ?_
 show asB (.bool a.2) _
 rw[Av]
 refine Mc (b:=b.2) (fun k' hk'=>?_) ?_
 · rw[Ae]
   refine c5.atp.ld1 (j:=1) (by simp) ?_
   show asB (.bool b.2) _
   rw[Av];exact hk'
 have la:∀K:Int→Prop,K (Int.ofNat a.1.toNat)→Af 0 (.ptr h.next 0) fun v23=>Go.Den.ld1 v23 h3 fun v24=>asI .u64 v24 K:=fun K hK=>by
  rw[Ae]
  refine c2.atp.ld1 (j:=0) (by simp) ?_
  show asI .u64 (uI a.1) _
  rw[Au];exact hK
 have lb:∀K:Int→Prop,K (Int.ofNat b.1.toNat)→Af 0 (.ptr h1.next 0) fun v23=>Go.Den.ld1 v23 h3 fun v24=>asI .u64 v24 K:=fun K hK=>by
  rw[Ae]
  refine c5.atp.ld1 (j:=0) (by simp) ?_
  show asI .u64 (uI b.1) _
  rw[Au];exact hK
 have la2:∀K:Bool→Prop,K a.2→Af 1 (.ptr h.next 0) fun v23=>Go.Den.ld1 v23 h3 fun v24=>asB v24 K:=fun K hK=>by
  rw[Ae]
  refine c2.atp.ld1 (j:=1) (by simp) ?_
  show asB (.bool a.2) _
  rw[Av];exact hK
 have out:∀(v:V)(h5:H),Go.Pre.two (Go.Pre.P s) a b (decide (sk=0))=some v→Exh h3 h5→stn 2 (.ptr h2.next 0) (vI v) h5 fun h8=>ldn 2 (.ptr h2.next 0) h8 fun v9=>k v9 h8:=fun v h5 hv x5=>by
  refine Ga (c7.ext x5 n3) fun h6 f6=>?_
  have f:FrN h.next.nat h h6:=(F3.trans (FrN.exh x5 (by omega))).trans (FrN.fro f6 (by omega) (by have:=x5.1;omega))
  exact hk1 v h6 hv (FrO.refl.frn f) (rs.frn f rs.2.2.1)
 refine la _ ?_
 rw[wI,Ak]
 refine lb _ ?_
 rw[wI,Ak]
 have key:∀q,q=Py a.1 b.1 (a.2||b.2)→(Vp W1 k 3).a1 (.ptr B 0) s.length (enc s) (.ptr h.next 0) (.ptr h1.next 0) (.ptr h2.next 0) (a.2||b.2) a.1.toInt b.1.toInt q h3:=fun q hq=>by
  refine A48 ?_
  unfold Ad5
  simp only[opsL,List.mem_cons,List.not_mem_nil,or_false] at hs
  have div:s=[47]∨s=[37]→(Af 0 (.ptr h1.next 0) fun v218=>ld1 v218 h3 fun v219=>asI .u64 v219 fun n220=>cnd (Bm n220 (Int.ofNat 0))
   (oK (Bd (.ptr B 0) h3) fun v221 h222=>Af 2 v221 fun v223=>ld1 v223 h222 fun v224=>asB v224 fun b225=>Ar (fun k226=>gate false b225
    (oK (Bd (.ptr B 0) h222) fun v229 h230=>Af 3 v229 fun v231=>ld1 v231 h230 fun v232=>asI .i64 v232 fun n233=>k226 (Bm n233 (Int.ofNat 0)) h230) (k226 true h222)) fun b228 h227=>
    oK (Bd (.ptr B 0) h227) fun v234 h235=>Af 2 v234 fun v236=>st1 v236 (.bool b228) h235 fun h237=>(Vp W1 k 2).a2 (.ptr h2.next 0) (a.2||b.2) h237)
   (cnd (a.2||b.2)
    (cnd (Bc s.length (enc s) 1 47)
     (Af 0 (.ptr h.next 0) fun v238=>ld1 v238 h3 fun v239=>asI .u64 v239 fun n240=>Af 0 (.ptr h1.next 0) fun v241=>ld1 v241 h3 fun v242=>asI .u64 v242 fun n243=>Rx .u64 n240 n243 fun n244=>
      oK (Ax env (env.ty 58) [(0,(.int .u64 n244)),(1,(.bool true))] h3) fun v245 h246=>stn 2 (.ptr h2.next 0) v245 h246 fun h247=>ldn 2 (.ptr h2.next 0) h247 fun v248=>k v248 h247)
     (Af 0 (.ptr h.next 0) fun v249=>ld1 v249 h3 fun v250=>asI .u64 v250 fun n251=>Af 0 (.ptr h1.next 0) fun v252=>ld1 v252 h3 fun v253=>asI .u64 v253 fun n254=>Tx n251 n254 fun n255=>
      oK (Ax env (env.ty 58) [(0,(.int .u64 n255)),(1,(.bool true))] h3) fun v256 h257=>stn 2 (.ptr h2.next 0) v256 h257 fun h258=>ldn 2 (.ptr h2.next 0) h258 fun v259=>k v259 h258))
    ((Vp W1 k 2).a3 s.length (enc s) (.ptr h.next 0) (.ptr h2.next 0) a.1.toInt b.1.toInt h3))):=fun e=>by
   have ht:Go.Pre.two (Go.Pre.P s) a b (decide (sk=0))=if b.1=0#64 then(if decide (sk=0)=true then none else some (0#64,a.2||b.2)) else some (Se s a.1 b.1 (a.2||b.2),a.2||b.2):=by
    unfold Go.Pre.two Hr
    rcases e with rfl|rfl<;>simp[Go.Pre.P]
   refine lb _ ?_
   rw[bv0]
   refine Ap (fun e0=>?_) (fun e0=>?_)
   · have e0:b.1=0#64:=of_decide_eq_true e0
     rw[if_pos e0] at ht
     have rs3:=rs.frn F3 rs.2.2.1
     have nB:B.nat<h.next.nat:=rs.2.2.1
     rw[Al,Ac,Ae]
     refine rs3.l2 ?_
     rw[Av]
     refine Mc (b:=decide (sk=0)) (fun k' hk'=>?_) ?_
     · rw[Al,Ac,Ae]
       refine rs3.l3 ?_
       rw[Au,Lg];exact hk'
     rw[Al,Ac,Ae]
     refine rs3.s2 fun h5 f5 rs5=>?_
     refine A47 ?_
     unfold Ad4
     rw[A5u,Ac]
     have c7':=c7.fr f5 n3 (fun e'=>by rw[←e'] at nB;have:=x2.1;omega)
     refine Ga (v:=(0#64,a.2||b.2)) c7' fun h6 f6=>?_
     have f46:FrO B h h6:=((FrO.refl.frn F3).trans f5).loc f6 (by have:=x2.1;omega)
     have rs6:=rs5.loc f6 (by have:=x2.1;omega) (by have:=f5.1;omega)
     cases hd:decide (sk=0) with
     |true=>
      rw[hd,if_pos rfl] at ht
      rw[hd,Bool.or_true] at rs6
      exact hk2 _ h6 (by rw[hd];exact ht) f46 rs6
     |false=>
      rw[hd,if_neg (by simp)] at ht
      rw[hd,Bool.or_false] at rs6
      exact hk1 _ h6 (by rw[hd];exact ht) f46 rs6
   · have e0:¬b.1=0#64:=of_decide_eq_false e0
     rw[if_neg e0] at ht
     rw[Ce (s:=s) (t:=[47]) (l:=1) (c:=47) rfl rfl]
     refine Ap (fun eu=>?_) (fun eu=>?_)
     · rw[eu] at ht
       refine Ap (fun e7=>?_) (fun e7=>?_)
       · have e7:s=[47]:=of_decide_eq_true e7
         refine la _ (lb _ (Ba9 e0 ?_))
         rw[Mx,Ac]
         exact out (a.1 / b.1,true) h3 (by rw[ht];unfold Se;rw[if_pos rfl,if_pos e7]) .refl
       · have e7:¬s=[47]:=of_decide_eq_false e7
         refine la _ (lb _ (Ba5 e0 ?_))
         rw[Mx,Ac]
         exact out (a.1%b.1,true) h3 (by rw[ht];unfold Se;rw[if_pos rfl,if_neg e7]) .refl
     · rw[eu] at ht
       refine A46 ?_
       unfold Ad3
       rw[Ce (s:=s) (t:=[47]) (l:=1) (c:=47) rfl rfl,Biz]
       refine Ap (fun em=>?_) (fun em=>?_)
       · have em:b.1= -1#64:=of_decide_eq_true em
         rw[em] at ht
         refine Ap (fun e7=>?_) (fun e7=>?_)
         · have e7:s=[47]:=of_decide_eq_true e7
           refine la _ ?_
           rw[A0f,Gp,Au,Zz,Ac]
           exact out (-a.1,false) h3 (by rw[ht];unfold Se;rw[if_neg (by simp),if_pos e7,Awt]) .refl
         · have e7:¬s=[47]:=of_decide_eq_false e7
           rw[Tf,Ac]
           exact out (0#64,false) h3 (by rw[ht];unfold Se;rw[if_neg (by simp),if_neg e7,Awk]) .refl
       · refine Ap (fun e7=>?_) (fun e7=>?_)
         · have e7:s=[47]:=of_decide_eq_true e7
           refine Bba e0 ?_
           rw[wU,Ak,Zz,Ac]
           exact out (a.1.sdiv b.1,false) h3 (by rw[ht];unfold Se;rw[if_neg (by simp),if_pos e7]) .refl
         · have e7:¬s=[47]:=of_decide_eq_false e7
           refine Ba6 e0 ?_
           rw[wU,Ak,Zz,Ac]
           exact out (a.1.srem b.1,false) h3 (by rw[ht];unfold Se;rw[if_neg (by simp),if_neg e7]) .refl
  rw[Ce (s:=s) (t:=[124,124]) (l:=2) (c:=31868) rfl rfl,Ce (s:=s) (t:=[38,38]) (l:=2) (c:=9766) rfl rfl,Ce (s:=s) (t:=[124]) (l:=1) (c:=124) rfl rfl,Ce (s:=s) (t:=[94]) (l:=1) (c:=94) rfl rfl,Ce (s:=s) (t:=[38]) (l:=1) (c:=38) rfl rfl,
   Ce (s:=s) (t:=[61,61]) (l:=2) (c:=15677) rfl rfl,Ce (s:=s) (t:=[33,61]) (l:=2) (c:=15649) rfl rfl,Ce (s:=s) (t:=[60]) (l:=1) (c:=60) rfl rfl,Ce (s:=s) (t:=[62]) (l:=1) (c:=62) rfl rfl,Ce (s:=s) (t:=[60,61]) (l:=2) (c:=15676) rfl rfl,Ce (s:=s) (t:=[62,61]) (l:=2) (c:=15678) rfl rfl,
   Ce (s:=s) (t:=[60,60]) (l:=2) (c:=15420) rfl rfl,Ce (s:=s) (t:=[62,62]) (l:=2) (c:=15934) rfl rfl,Ce (s:=s) (t:=[43]) (l:=1) (c:=43) rfl rfl,Ce (s:=s) (t:=[45]) (l:=1) (c:=45) rfl rfl,Ce (s:=s) (t:=[42]) (l:=1) (c:=42) rfl rfl]
  refine Ap (fun e=>?_) (fun e1=>?_)
  · have e:s=[124,124]:=of_decide_eq_true e
    refine la _ ?_
    refine Mc (b:=!vz b) (fun k' hk'=>lb _ ?_) ?_
    · rw[bv0,Bj];exact hk'
    rw[bv0,Bj]
    refine Dh (Afz _) ?_
    exact out (Kq (!vz a||!vz b)) h3 (by subst e;simp[Go.Pre.two,Go.Pre.P]) .refl
  refine Ap (fun e=>?_) (fun e2=>?_)
  · have e:s=[38,38]:=of_decide_eq_true e
    refine la _ ?_
    refine Lo (b:=!vz b) (fun k' hk'=>lb _ ?_) ?_
    · rw[bv0,Bj];exact hk'
    rw[bv0,Bj]
    refine Dh (Afz _) ?_
    exact out (Kq (!vz a&&!vz b)) h3 (by subst e;simp[Go.Pre.two,Go.Pre.P]) .refl
  refine Ap (fun e=>?_) (fun e3=>?_)
  · have e:s=[124]:=of_decide_eq_true e
    refine la _ (lb _ (Bcc ?_))
    rw[Mx,Ac]
    exact out (a.1|||b.1,a.2||b.2) h3 (by subst e;simp[Go.Pre.two,Go.Pre.P,Hr]) .refl
  refine Ap (fun e=>?_) (fun e4=>?_)
  · have e:s=[94]:=of_decide_eq_true e
    refine la _ (lb _ (Ayz ?_))
    rw[Mx,Ac]
    exact out (a.1^^^b.1,a.2||b.2) h3 (by subst e;simp[Go.Pre.two,Go.Pre.P,Hr]) .refl
  refine Ap (fun e=>?_) (fun e5=>?_)
  · have e:s=[38]:=of_decide_eq_true e
    refine la _ (lb _ (Ab4 ?_))
    rw[Mx,Ac]
    exact out (a.1&&&b.1,a.2||b.2) h3 (by subst e;simp[Go.Pre.two,Go.Pre.P,Hr]) .refl
  refine Ap (fun e=>?_) (fun e6=>?_)
  · have e:s=[61,61]:=of_decide_eq_true e
    refine la _ (lb _ ?_)
    rw[Aux]
    refine Dh (Afz _) ?_
    exact out (Kq (decide (a.1=b.1))) h3 (by subst e;simp[Go.Pre.two,Go.Pre.P,Hr,Vy]) .refl
  refine Ap (fun e=>?_) (fun e7=>?_)
  · have e:s=[33,61]:=of_decide_eq_true e
    refine la _ (lb _ ?_)
    rw[Aux,Bj]
    refine Dh (Afz _) ?_
    exact out (Kq (!decide (a.1=b.1))) h3 (by subst e;simp[Go.Pre.two,Go.Pre.P,Hr,Vy]) .refl
  refine Ap (fun e=>?_) (fun e8=>?_)
  · have e:s=[60]:=of_decide_eq_true e
    refine Dh (Afz _) ?_
    exact out (Kq q) h3 (by subst e;simp[Go.Pre.two,Go.Pre.P,Hr,Vy,hq]) .refl
  refine Ap (fun e=>?_) (fun e9=>?_)
  · have e:s=[62]:=of_decide_eq_true e
    refine Lo (b:=!decide (a.1=b.1)) (fun k' hk'=>la _ (lb _ ?_)) ?_
    · rw[Aux,Bj];exact hk'
    rw[Bj]
    refine Dh (Afz _) ?_
    exact out (Kq (!q&&!decide (a.1=b.1))) h3 (by subst e;simp[Go.Pre.two,Go.Pre.P,Hr,Vy,hq]) .refl
  refine Ap (fun e=>?_) (fun e10=>?_)
  · have e:s=[60,61]:=of_decide_eq_true e
    refine Mc (b:=decide (a.1=b.1)) (fun k' hk'=>la _ (lb _ ?_)) ?_
    · rw[Aux];exact hk'
    refine Dh (Afz _) ?_
    exact out (Kq (q||decide (a.1=b.1))) h3 (by subst e;simp[Go.Pre.two,Go.Pre.P,Hr,Vy,hq]) .refl
  refine Ap (fun e=>?_) (fun e11=>?_)
  · have e:s=[62,61]:=of_decide_eq_true e
    rw[Bj]
    refine Dh (Afz _) ?_
    exact out (Kq (!q)) h3 (by subst e;simp[Go.Pre.two,Go.Pre.P,Hr,Vy,hq]) .refl
  have h63:(b.1&&&63#64).toNat<64:=by rw[BitVec.toNat_and];exact Nat.lt_of_le_of_lt Nat.and_le_right (by decide)
  refine Ap (fun e=>?_) (fun e12=>?_)
  · have e:s=[60,60]:=of_decide_eq_true e
    refine la _ (lb _ ?_)
    rw[show(Int.ofNat 63)=Int.ofNat (63#64).toNat from rfl]
    refine Ab4 (Baz h63 ?_)
    refine la2 _ ?_
    rw[Mx,Ac]
    exact out (a.1 <<< (b.1&&&63#64).toNat,a.2) h3 (by subst e;simp[Go.Pre.two,Go.Pre.P,Hr,shB]) .refl
  refine Ap (fun e=>?_) (fun e13=>?_)
  · have e:s=[62,62]:=of_decide_eq_true e
    refine la2 _ ?_
    refine Ap (fun eu=>?_) (fun eu=>?_)
    · refine la _ (lb _ ?_)
      rw[show(Int.ofNat 63)=Int.ofNat (63#64).toNat from rfl]
      refine Ab4 (Bax h63 ?_)
      rw[Mx,Ac]
      exact out (a.1 >>> (b.1&&&63#64).toNat,true) h3 (by subst e;simp[Go.Pre.two,Go.Pre.P,Hr,shB,eu]) .refl
    · refine lb _ ?_
      rw[show(Int.ofNat 63)=Int.ofNat (63#64).toNat from rfl]
      refine Ab4 (Bay h63 ?_)
      rw[wU,Ak,Zz,Ac]
      exact out (a.1.sshiftRight (b.1&&&63#64).toNat,false) h3 (by subst e;simp[Go.Pre.two,Go.Pre.P,Hr,shB,eu]) .refl
  refine Ap (fun e=>?_) (fun e14=>?_)
  · have e:s=[43]:=of_decide_eq_true e
    refine la _ (lb _ ?_)
    rw[A82,Ak,Mx,Ac]
    exact out (a.1+b.1,a.2||b.2) h3 (by subst e;simp[Go.Pre.two,Go.Pre.P,Hr]) .refl
  refine Ap (fun e=>?_) (fun e15=>?_)
  · have e:s=[45]:=of_decide_eq_true e
    refine la _ (lb _ ?_)
    rw[A8z,Ak,Mx,Ac]
    exact out (a.1-b.1,a.2||b.2) h3 (by subst e;simp[Go.Pre.two,Go.Pre.P,Hr]) .refl
  refine Ap (fun e=>?_) (fun e16=>?_)
  · have e:s=[42]:=of_decide_eq_true e
    refine la _ (lb _ ?_)
    rw[A80,Ak,Mx,Ac]
    exact out (a.1*b.1,a.2||b.2) h3 (by subst e;simp[Go.Pre.two,Go.Pre.P,Hr]) .refl
  refine div ?_
  rcases hs with rfl|rfl|rfl|rfl|rfl|rfl|rfl|rfl|rfl|rfl|rfl|rfl|rfl|rfl|rfl|rfl|rfl|rfl
  · exact absurd rfl (of_decide_eq_false e1)
  · exact absurd rfl (of_decide_eq_false e2)
  · exact absurd rfl (of_decide_eq_false e3)
  · exact absurd rfl (of_decide_eq_false e4)
  · exact absurd rfl (of_decide_eq_false e5)
  · exact absurd rfl (of_decide_eq_false e6)
  · exact absurd rfl (of_decide_eq_false e7)
  · exact absurd rfl (of_decide_eq_false e8)
  · exact absurd rfl (of_decide_eq_false e9)
  · exact absurd rfl (of_decide_eq_false e10)
  · exact absurd rfl (of_decide_eq_false e11)
  · exact absurd rfl (of_decide_eq_false e12)
  · exact absurd rfl (of_decide_eq_false e13)
  · exact absurd rfl (of_decide_eq_false e14)
  · exact absurd rfl (of_decide_eq_false e15)
  · exact absurd rfl (of_decide_eq_false e16)
  · exact .inl rfl
  · exact .inr rfl
 refine Ap (fun eu=>?_) (fun eu=>?_)
 · refine la _ (lb _ ?_)
   rw[ilt]
   exact key _ (by unfold Py;rw[eu,if_pos rfl])
 · rw[Ff]
   exact key _ (by unfold Py;rw[eu,if_neg (by simp)])
end
end Go.Den
noncomputable section
namespace Go.Den
open Go.RowKit
open Go.Pre (V Kq vz Fh Mf Mg Pd Hr Dt Ph Wy unary)
set_option maxRecDepth 100000
abbrev cdR(n:Nat):=Go.Pre.Mz Kn Mf Mg Pd vz Fh Go.Pre.lvl Go.Pre.need Go.Pre.two n
def Su(hE:H)(B:P)(vL:AV)(sk:Nat)(T:List Gx)(h0:H)(o:Go.Pre.R V Gx)(i:Nat)(k:KV):Prop:=
 ∀h' v i' b,FrO B h0 h'→Ry hE B vL sk i' b h'→i≤i'→i'≤T.length→Res T o i' b v→k (vI v) h'
def Ai8(hE:H)(B:P)(vL:AV)(L:List En)(n:Nat):Prop:=∀(i sk:Nat)(h:H)(k:KV),L.length-i<n→i≤L.length→sk≤2000000-L.length+i→Ry hE B vL sk i false h→Su hE B vL sk (L.map tk) h (cdR n (decide (sk=0)) ((L.map tk).drop i)) i k→W1 (.func 50) [.ptr B 0] h k
section
variable{hE:H}{L:List En}{vL:AV}{B:P}
theorem Bfm{sk i:Nat}{h:H}{k:KV}(rs:Ry hE B vL sk i true h)(hk:∀h' v,FrO B h h'→Ry hE B vL sk i true h'→k (vI v) h'):W1 (.func 144) [.ptr B 0] h k:=by
 refine A9p (n:=3) Bw (Bc8 ?_)
 unfold Yt
 refine Bo ?_
 have hB:=rs.2.2.1
 have c1:Cel (h.new Da) h.next 58 (vC (0#64,false)):=Ib
 have x1:Exh h (h.new Da):=.new
 have n1:h.next.nat<(h.new Da).next.nat:=by rw[Aw];omega
 have rs1:=rs.ext x1
 generalize h.new Da=h1 at c1 x1 n1 rs1 ⊢
 have ne1:h.next≠B:=fun e=>by rw[←e] at hB;omega
 rw[Al,Ac,Ae]
 refine rs1.l2 ?_
 rw[Av]
 refine Hx (fun e=>nomatch e) (fun _=>?_)
 refine Bz rfl ?_
 rw[Al,Ac,Ae]
 refine rs1.s2 fun h2 f2 rs2=>?_
 rw[Tf,Ac]
 refine Ga (v:=(0#64,false)) (c1.fr f2 n1 ne1) fun h3 f3=>?_
 exact hk h3 _ (((FrO.exh x1).trans f2).loc f3 (Nat.le_refl _)) (rs2.loc f3 hB (by have:=f2.1;omega))
theorem Aur{sk i m:Nat}{h0 h:H}{p1 p7:P}{v:V}{ok:Bool}{k:KV}(rs:Ry hE B vL sk i false h)(f0:FrO B h0 h)(c1:Cel h p1 58 (vC (0#64,false)))(c7:Cel h p7 58 (vC v))(l1:h0.next.nat≤p1.nat)(u1:p1.nat<h.next.nat)(l7:h0.next.nat≤p7.nat)(u7:p7.nat<h.next.nat)(hB:B.nat<h0.next.nat)
 (hk:∀h',FrO B h0 h'→Ry hE B vL sk i (!ok) h'→k (vI v) h'):
 (Yx W1 k (m+1)).a1 (.ptr B 0) (.ptr p1 0) (.ptr p7 0) ok h:=by
 refine A5a ?_
 unfold Ad8
 rw[Al,Ac,Ae]
 refine rs.l2 ?_
 rw[Av]
 refine Hf ?_
 rw[Al,Ac,Ae]
 refine rs.s2 fun h2 f2 rs2=>?_
 have ne1:p1≠B:=fun e=>by subst e;omega
 have ne7:p7≠B:=fun e=>by subst e;omega
 refine(c7.fr f2 u7 ne7).atp.ldn rfl ?_
 refine Ga (c1.fr f2 u1 ne1) fun h3 f3=>?_
 refine hk h3 ((f0.trans f2).loc f3 l1) ?_
 rw[Bool.false_or,Bj] at rs2
 exact rs2.loc f3 (by omega) (by have:=f2.1;omega)
variable(hr:RdT hE vL L)(hl:L.length≤1000000)(htx:∀x∈L,x.text.length≤1000000∧Sl x.sites)
include hr hl htx
omit hr hl in
theorem A8d{sk i m:Nat}{h0 h:H}{p1 p6:P}{k:KV}(hlt:i<L.length)(rs:Ry hE B vL sk (i+1) false h)(f0:FrO B h0 h)(c1:Cel h p1 58 (vC (0#64,false)))(at6:AtP h p6 0 L[i].cells)(l1:h0.next.nat≤p1.nat)(u1:p1.nat<h.next.nat)(u6:p6.nat<h.next.nat)(hB:B.nat<h0.next.nat)
 (hk:∀h' v ok,FrO B h0 h'→Ry hE B vL sk (i+1) (!ok) h'→(Kn (tk L[i])=if ok then some v else none)→k (vI v) h'):
 (Yx W1 k (m+2)).a2 (.ptr B 0) (.ptr p1 0) (.ptr p6 0) h:=by
 refine A49 ?_
 unfold Ad7
 obtain⟨ht,hs⟩:=htx _ (List.getElem_mem hlt)
 rw[Tf,Ac,Ae]
 refine at6.kd ?_
 rw[Au]
 refine Bo ?_
 have x2:Exh h (h.new Da):=.new
 have at7:=at6.ext x2 u6
 refine at7.kd ?_
 rw[Au]
 refine Aaa avI ?_
 refine Hj (v:=(0#64,false)) fun h3 x3 n3 c7=>?_
 have at3:=at6.ext x3 u6
 refine at3.kd ?_
 rw[Au]
 refine Aaa avI ?_
 rw[Ae]
 refine at3.kd ?_
 rw[Au,Aa5,Aa5,Aa5]
 have rs3:=rs.ext x3
 have f3:=f0.trans (FrO.exh (B:=B) x3)
 replace c1:=c1.ext x3 u1
 have u3:=x3.1
 have u0:=f0.1
 have key:∀(v:V)(ok:Bool)(h4:H),Exh h3 h4→(Kn (tk L[i])=if ok then some v else none)→Go.Den.stn 2 (.ptr h.next 0) (vI v) h4 fun h44=>(Yx W1 k (m+1)).a1 (.ptr B 0) (.ptr p1 0) (.ptr h.next 0) ok h44:=fun v ok h4 x4 hp=>by
  have u4:=x4.1
  refine(c7.ext x4 n3).stn (cs':=vC v) rfl rfl (by decide) fun h5 f5 c5=>?_
  have u5:=f5.1
  refine Aur (sk:=sk) ((rs3.ext x4).loc f5 (by omega) (by omega)) ((f3.trans (.exh x4)).loc f5 (by omega)) ((c1.ext x4 (by omega)).fr f5 (by omega) (fun e=>by rw[e] at u1;omega)) c5 l1 (by omega) (by omega) (by omega) hB fun h' f' rs'=>?_
  exact hk h' v ok f' rs' hp
 refine Ap (fun e2=>?_) (fun e2=>?_)
 · have e2:L[i].kind=2:=of_decide_eq_true e2
   have hpv:Kn (tk L[i])=(Vs L[i].text).map fun p=>(BitVec.ofNat 64 p.1,p.2):=if_pos (by unfold tk;simp only[];omega)
   rw[Ae]
   refine at3.tx ?_
   rw[De]
   refine Dh (c37 L[i].text (by omega)) ?_ rfl (by rw[Ahi];exact Za _)
   rw[Ahi]
   rw[hpv] at key
   cases hn:Vs L[i].text with
   |none=>
    rw[hn] at key
    exact key (0#64,false) false h3 .refl rfl
   |some p=>
    rw[hn] at key
    have hlt:=Am4 hn
    have:=key (BitVec.ofNat 64 p.1,p.2) true h3 .refl rfl
    unfold vI vC uI at this
    rw[BitVec.toNat_ofNat,Nat.mod_eq_of_lt hlt] at this
    exact this
 · have e2:¬L[i].kind=2:=of_decide_eq_false e2
   refine Ap (fun e3=>?_) (fun e3=>?_)
   · have e3:L[i].kind=3:=of_decide_eq_true e3
     have hpv:Kn (tk L[i])=(Ge L[i].text).map fun p=>(BitVec.ofInt 64 p.1,p.2):=by
      unfold Kn
      rw[if_neg (by unfold tk;simp only[];omega),if_neg (by unfold tk;simp only[];omega),if_pos (by unfold tk;simp only[];omega)];rfl
     rw[Ae]
     refine at3.tx ?_
     rw[De]
     obtain⟨na,nb,hnv⟩:=An2 (Ge L[i].text)
     refine Dh (c39 L[i].text (by omega)) ?_ rfl (by rw[hnv];rfl)
     rw[hpv] at key
     cases hn:Ge L[i].text with
     |none=>
      rw[hn] at key
      exact key (0#64,false) false h3 .refl rfl
     |some p=>
      rw[hn] at key
      obtain⟨x,hx⟩:=An3 hn
      have:=key (BitVec.ofInt 64 p.1,p.2) true h3 .refl rfl
      unfold vI vC uI at this
      rw[hx] at this
      have hx2:BitVec.ofInt 64 (Int.ofNat x.toNat)=x:=by
       show BitVec.ofInt 64 ((x.toNat:Nat):Int)=x
       rw[BitVec.ofInt_natCast,BitVec.ofNat_toNat,BitVec.setWidth_eq]
      rw[hx2] at this
      show ext 0 (.tuple [.agg [.int .u64 p.1,.bool p.2],.bool true]) _
      rw[hx]
      exact this
   · have e3:¬L[i].kind=3:=of_decide_eq_false e3
     refine Aur (sk:=sk) rs3 f3 c1 c7 l1 (by omega) (by omega) n3 hB fun h' f' rs'=>?_
     refine hk h' _ _ f' rs' ?_
     unfold Kn
     rw[if_neg (by unfold tk;simp only[];omega)]
     by_cases e1:L[i].kind=1
     · rw[if_pos (by unfold tk;simp only[];omega),decide_eq_true (show L[i].kind=((1:Nat):Int) from e1)];rfl
     · rw[if_neg (by unfold tk;simp only[];omega),if_neg (by unfold tk;simp only[];omega),decide_eq_false (show¬L[i].kind=((1:Nat):Int) from e1)];rfl
theorem Bk8{n:Nat}(hC:Ai8 hE B vL L n):∀(m i sk:Nat)(h:H)(k:KV),L.length-i<m→L.length-i≤n→i≤L.length→sk≤2000000-L.length+i→Ry hE B vL sk i false h→Su hE B vL sk (L.map tk) h (unP (cdR n) (decide (sk=0)) ((L.map tk).drop i)) i k→W1 (.func 144) [.ptr B 0] h k:=by
 intro m
 induction m with
 |zero=>intro i sk h k hm;exact absurd hm (Nat.not_lt_zero _)
 |succ m ih=>
  intro i sk h k hm hn hi hsk rs hk
  refine A9p (n:=4) Bw (Bc8 ?_)
  unfold Yt
  refine Bo ?_
  have hB:=rs.2.2.1
  have c1:Cel (h.new Da) h.next 58 (vC (0#64,false)):=Ib
  have x1:Exh h (h.new Da):=.new
  have n1:h.next.nat<(h.new Da).next.nat:=by rw[Aw];omega
  have rs1:=rs.ext x1
  generalize h.new Da=h1 at c1 x1 n1 rs1 ⊢
  have f1:FrO B h h1:=.exh x1
  have ne1:h.next≠B:=fun e=>by rw[←e] at hB;omega
  have hlen:(L.map tk).length=L.length:=List.length_map ..
  have out:∀(h2:H)(v:V)(i':Nat)(b:Bool),FrO B h1 h2→Ry hE B vL sk i' b h2→i≤i'→i'≤(L.map tk).length→Res (L.map tk) (unP (cdR n) (decide (sk=0)) ((L.map tk).drop i)) i' b v→Go.Den.stn 2 (.ptr h.next 0) (vI v) h2 fun h8=>Go.Den.ldn 2 (.ptr h.next 0) h8 fun v9=>k v9 h8:=fun h2 v i' b f rs' a1 a2 res=>
   Ga (c1.fr f n1 ne1) fun h3 f3=>hk h3 v i' b ((f1.trans f).loc f3 (Nat.le_refl _)) (rs'.loc f3 hB (by have:=f.1;omega)) a1 a2 res
  rw[Al,Ac,Ae]
  refine rs1.l2 ?_
  rw[Av]
  refine Mc (b:=decide (L.length≤i)) (fun k' hk'=>?_) ?_
  · rw[Al,Ac,Ae]
    refine rs1.l1 ?_
    rw[Au,Al,Ac,Ae]
    refine rs1.l0 ?_
    rw[hr.len,ile];exact hk'
  rw[Bool.false_or]
  refine Ap (fun e=>?_) (fun e=>?_)
  · have e:L.length≤i:=of_decide_eq_true e
    rw[Al,Ac,Ae]
    refine rs1.s2 fun h2 f2 rs2=>?_
    rw[Tf,Ac]
    refine out h2 (0#64,false) i true f2 rs2 (Nat.le_refl _) (by omega) ?_
    rw[List.drop_eq_nil_of_le (by omega)]
    show Res _ (unary _ _ _ _ _ _ []) _ _ _
    unfold unary
    rfl
  have hlt:i<L.length:=by have:=of_decide_eq_false e;omega
  rw[Gd hlt] at out
  refine c90 (s:=[43]) hr hl rs1 (fun h2 _ _ ht f2 rs2=>?_) (fun h2 hno1 f2 rs2=>?_)
  · rw[Av]
    refine Bz rfl ?_
    refine ih (i+1) sk h2 _ (by omega) (by omega) hlt (by omega) rs2 fun h3 v i' b f3 rs3 a1 a2 res=>?_
    refine out h3 v i' b (f2.trans f3) rs3 (by omega) a2 ?_
    rw[ht,Alb];exact res
  rw[Av]
  refine Ca rfl ?_
  refine c90 (s:=[45]) hr hl rs2 (fun h3 _ _ ht f3 rs3=>?_) (fun h3 hno2 f3 rs3=>?_)
  · rw[Av]
    refine Bz rfl ?_
    refine ih (i+1) sk h3 _ (by omega) (by omega) hlt (by omega) rs3 fun h4 v i' b f4 rs4 a1 a2 res=>?_
    refine Bo ?_
    refine Hj (v:=v) fun h5 x5 n5 c5=>?_
    rw[Ae]
    refine c5.atp.ld1 (j:=0) (by simp) ?_
    show asI .u64 (uI v.1) _
    rw[Au,A0f,Gp,Au,Ae]
    refine c5.atp.ld1 (j:=1) (by simp) ?_
    show asB (.bool v.2) _
    rw[Av,Mx,Ac]
    refine out h5 (Mf v) i' b (((f2.trans f3).trans f4).trans (.exh x5)) (rs4.ext x5) (by omega) a2 ?_
    rw[ht,Aqg]
    exact res.map Mf
  rw[Av]
  refine Ca rfl ?_
  refine c90 (s:=[33]) hr hl rs3 (fun h4 _ _ ht f4 rs4=>?_) (fun h4 hno3 f4 rs4=>?_)
  · rw[Av]
    refine Bz rfl ?_
    refine ih (i+1) sk h4 _ (by omega) (by omega) hlt (by omega) rs4 fun h5 v i' b f5 rs5 a1 a2 res=>?_
    show Apf 0 (.agg [uI v.1,.bool v.2]) _
    rw[Atf,Au,bv0]
    refine Dh (Afz _) ?_
    refine out h5 (Pd v) i' b (((f2.trans f3).trans f4).trans f5) rs5 (by omega) a2 ?_
    rw[ht,Aqf]
    exact res.map Pd
  rw[Av]
  refine Ca rfl ?_
  refine c90 (s:=[126]) hr hl rs4 (fun h5 _ _ ht f5 rs5=>?_) (fun h5 hno4 f5 rs5=>?_)
  · rw[Av]
    refine Bz rfl ?_
    refine ih (i+1) sk h5 _ (by omega) (by omega) hlt (by omega) rs5 fun h6 v i' b f6 rs6 a1 a2 res=>?_
    refine Bo ?_
    refine Hj (v:=v) fun h7 x7 n7 c7=>?_
    rw[Ae]
    refine c7.atp.ld1 (j:=0) (by simp) ?_
    show asI .u64 (uI v.1) _
    rw[Au,A94,Gp,Au,Ae]
    refine c7.atp.ld1 (j:=1) (by simp) ?_
    show asB (.bool v.2) _
    rw[Av,Mx,Ac]
    refine out h7 (Mg v) i' b (((((f2.trans f3).trans f4).trans f5).trans f6).trans (.exh x7)) (rs6.ext x7) (by omega) a2 ?_
    rw[ht,Aqh]
    exact res.map Mg
  rw[Av]
  refine Ca rfl ?_
  refine c90 (s:=[40]) hr hl rs5 (fun h6 _ _ ht f6 rs6=>?_) (fun h6 hno5 f6 rs6=>?_)
  · rw[Av]
    refine Bz rfl ?_
    refine hC (i+1) sk h6 _ (by omega) hlt (by omega) rs6 fun h7 v i' b f7 rs7 a1 a2 res=>?_
    refine Bo ?_
    refine Hj (v:=v) fun h8 x8 n8 c8=>?_
    have f28:=(((((f2.trans f3).trans f4).trans f5).trans f6).trans f7).trans (FrO.exh (B:=B) x8)
    have rs8:=rs7.ext x8
    have u6:=f6.1
    have u7:=f7.1
    have hun:unP (cdR n) (decide (sk=0)) (tk L[i]::(L.map tk).drop (i+1))=(Go.Pre.Ahf (cdR n (decide (sk=0)) ((L.map tk).drop (i+1)))):=by
     rw[ht];exact Aqe
    rw[hun] at out
    have hB7:B.nat<h7.next.nat:=rs7.2.2.1
    have ne8:h7.next≠B:=fun e=>by rw[e] at hB7;omega
    refine c90 (s:=[41]) hr hl rs8 (fun h9 hlt' hb ht' f9 rs9=>?_) (fun h9 hno' f9 rs9=>?_)
    · rw[Av]
      refine Ca rfl ?_
      refine(c8.fr f9 n8 ne8).atp.ldn rfl ?_
      refine out h9 v (i'+1) b (f28.trans f9) rs9 (by omega) (by omega) ?_
      cases hc:cdR n (decide (sk=0)) ((L.map tk).drop (i+1)) with
      |none=>rw[hc] at res;rw[show b=true from res] at hb;cases hb
      |some p=>
       obtain⟨v0,r⟩:=p
       rw[hc] at res
       obtain⟨_,rfl,hi',hdr⟩:=res
       have hdr':tk L[i']::(L.map tk).drop (i'+1)=r:=by rw[←Gd hlt'];exact hdr
       rw[←hdr',Go.Pre.Ua,Go.Pre.Vr ht']
       exact⟨hb,rfl,by omega,rfl⟩
    · rw[Av]
      refine Bz rfl ?_
      rw[Al,Ac,Ae]
      refine rs9.s2 fun h10 f10 rs10=>?_
      refine((c8.fr f9 n8 ne8).fr f10 (by have:=f9.1;omega) ne8).atp.ldn rfl ?_
      refine out h10 v i' true ((f28.trans f9).trans f10) rs10 (by omega) a2 ?_
      cases hc:cdR n (decide (sk=0)) ((L.map tk).drop (i+1)) with
      |none=>rfl
      |some p=>
       obtain⟨v0,r⟩:=p
       rw[hc] at res
       obtain⟨hb,rfl,hi',hdr⟩:=res
       have hdr:(L.map tk).drop i'=r:=hdr
       cases r with
       |nil=>rfl
       |cons t2 r2=>
        have hlt':i'<L.length:=by
         rcases Nat.lt_or_ge i' L.length with h|h
         · exact h
         · rw[List.drop_eq_nil_of_le (by omega)] at hdr;cases hdr
        rw[Gd hlt'] at hdr
        cases hdr
        rw[Go.Pre.Ua,Go.Pre.Re (hno' hlt' hb)];rfl
  rw[Av]
  refine Ca rfl ?_
  have f26:=(((f2.trans f3).trans f4).trans f5).trans f6
  obtain⟨ht,hs⟩:=htx _ (List.getElem_mem hlt)
  have hi':i<(L.map En.cells).length:=by rw[List.length_map];exact hlt
  rw[Al,Ac,Ae]
  refine rs6.l0 ?_
  rw[Al,Ac,Ae]
  refine rs6.l1 ?_
  rw[Au,Bh]
  refine((hr.rd hlt).ext rs6.1).elem hi' fun q o hq _ hat=>?_
  rw[Ij hlt] at hat
  refine hat.ldn rfl (Bo ?_)
  have x2:Exh h6 (h6.new Aw6):=.new
  have rs7:=rs6.ext x2
  have hat2:=hat.ext x2 hq
  refine rs7.l0 ?_
  rw[Atq hr.sl]
  refine rs7.l1 ?_
  rw[Au]
  refine Aaa avI ?_
  refine hat2.ldn rfl ?_
  refine Aaa (Azx hs) ?_
  refine Ar7 (e:=43) (zs:=[(.int .i64 (Int.ofNat 0)),(.str 0 0),(.bool false),(.str 0 0),(.int .i64 (Int.ofNat 0)),(.int .i64 (Int.ofNat 0)),(.bool false),.Cy]) rfl rfl (by decide) fun h8 x8 n8 at8=>?_
  have rs8:=rs6.ext x8
  rw[Al,Ac,Ae]
  refine rs8.l1 ?_
  rw[Au,Eg,Cv (by omega),Ak,Al,Ac,Ae]
  refine rs8.s1 fun h9 f9 rs9=>?_
  have f19:=(f26.trans (FrO.exh (B:=B) x8)).trans f9
  have hB6:B.nat<h6.next.nat:=rs6.2.2.1
  have u9:=f19.1
  have u99:=f9.1
  refine A8d htx hlt rs9 (f1.trans f19) (c1.fr f19 n1 ne1) (at8.frame (f9.2 _ n8 fun e=>by rw[e] at hB6;omega)) (Nat.le_refl _) (by omega) (by omega) hB fun h' v ok f' rs' hp=>?_
  refine hk h' v (i+1) (!ok) f' rs' (by omega) (by omega) ?_
  rw[Gd hlt,Ala (fun e=>hno1 hlt rfl e) (fun e=>hno2 hlt rfl e) (fun e=>hno4 hlt rfl e) (fun e=>hno3 hlt rfl e) (fun e=>hno5 hlt rfl e),hp]
  cases ok with
  |true=>exact⟨rfl,rfl,by omega,rfl⟩
  |false=>rfl
end
end Go.Den
namespace Go.Den
open Go.RowKit
open Go.Pre (V Kq vz Fh Mf Mg Pd Hr Dt Ph Wy unary)
set_option maxRecDepth 100000
theorem Rd.cell{h:H}{v:AV}{cs:List AV}{i:Nat}{K:AV→Prop}(hr:Rd 1 h v (cs.map fun c=>[c]))(hi:i<cs.length)(hk:K cs[i]):Dj 1 i v fun a=>Go.Den.ld1 a h K:=by
 have hi':i<(cs.map fun c=>[c]).length:=by rw[List.length_map];exact hi
 refine hr.elem hi' fun q o _ _ ha=>?_
 rw[List.getElem_map] at ha
 exact ha.ld1 (j:=0) Nat.one_pos hk
theorem Ahu:∀(rs:List (List (List UInt8)))(i:Nat)(s:List UInt8)(n:Nat),Ph rs i s=n+1→i≤n∧∃hj:n-i<rs.length,s∈rs[n-i]
 |[],_,_,_,h=>by rw[Ph] at h;cases h
 |r::rs,i,s,n,h=>by
  rw[Ph] at h
  by_cases e:s∈r
  · rw[if_pos e] at h
    have:i=n:=by omega
    subst this
    refine⟨Nat.le_refl _,by simp,?_⟩
    simp only[Nat.sub_self,List.getElem_cons_zero];exact e
  · rw[if_neg e] at h
    obtain⟨h1,hj,hm⟩:=Ahu rs (i+1) s n h
    refine⟨by omega,by simp only[List.length_cons];omega,?_⟩
    have e2:n-i=(n-(i+1))+1:=by omega
    simp only[e2,List.getElem_cons_succ];exact hm
theorem A4o{t:Gx}{lev:Nat}(h:Go.Pre.lvl t=lev+1):∃hj:lev<Dt.length,∃s∈Dt[lev],t=Go.Pre.P s:=by
 unfold Go.Pre.lvl at h
 split at h
 · rename_i e
   obtain⟨_,hj,hm⟩:=Ahu _ _ _ _ h
   exact⟨hj,t.2,hm,by unfold Go.Pre.P;rw[←e]⟩
 · cases h
theorem A4n:∀lev,∀hj:lev<Dt.length,∀s∈Dt[lev],Go.Pre.lvl (Go.Pre.P s)=lev+1∧s∈opsL∧s≠[]:=by
 have key:∀lev:Fin 10,∀s∈Dt.getD lev.val [],Go.Pre.lvl (Go.Pre.P s)=lev.val+1∧s∈opsL∧s≠[]:=by decide
 intro lev hj s hs
 have:=key ⟨lev,hj⟩ s (by rw[List.getD_eq_getElem?_getD,List.getElem?_eq_getElem hj];exact hs)
 exact this
theorem Xi:∀lev,∀hj:lev<Dt.length,Dt[lev].length≤4:=by
 intro lev hj
 exact(show∀r∈Dt,r.length≤4 by decide) _ (List.getElem_mem hj)
structure LyS(hE:H)(B:P)(vL:AV)(n0 n1:Nat)(h0:H)(p1 p6:P)(vO:AV)(vs:List AV)(a:V)(sk i:Nat)(b:Bool)(h:H):Prop where
 rs:Ry hE B vL sk i b h
 f:FrO B h0 h
 c1:Cel h p1 58 (vC (0#64,false))
 c5:Cel h p6 58 (vC a)
 l1:h0.next.nat≤p1.nat
 u1:p1.nat<h.next.nat
 u5:p6.nat<h.next.nat
 hB:B.nat<h0.next.nat
 ops:Avf n0 n1 h vO vs
 o1:p1.nat<n0
 o2:n0≤n1
 o5:n1≤p6.nat
section
variable{hE:H}{L:List En}{vL:AV}{B:P}{n n0 n1:Nat}{h0 h h':H}{p1 p6:P}{vO:AV}{vs:List AV}{a:V}{sk i:Nat}{b:Bool}
theorem LyS.q1(s:LyS hE B vL n0 n1 h0 p1 p6 vO vs a sk i b h):p1≠B:=fun e=>by have h1:=s.l1;have h2:=s.hB;rw[e] at h1;omega
theorem LyS.q5(s:LyS hE B vL n0 n1 h0 p1 p6 vO vs a sk i b h):p6≠B:=fun e=>by have h1:=s.l1;have h2:=s.hB;have h3:=s.o1;have h4:=s.o2;have h5:=s.o5;rw[e] at h5;omega
theorem LyS.ne(s:LyS hE B vL n0 n1 h0 p1 p6 vO vs a sk i b h):p1≠p6:=fun e=>by have h3:=s.o1;have h4:=s.o2;have h5:=s.o5;rw[e] at h3;omega
theorem LyS.step{j sk':Nat}{b':Bool}(s:LyS hE B vL n0 n1 h0 p1 p6 vO vs a sk i b h)(f:FrO B h h')(rs:Ry hE B vL sk' j b' h'):LyS hE B vL n0 n1 h0 p1 p6 vO vs a sk' j b' h':=by
 have h1:=s.l1;have h2:=s.hB;have h3:=s.o1;have h4:=s.o2;have h5:=s.o5;have h6:=s.u5
 exact⟨rs,s.f.trans f,s.c1.fr f s.u1 s.q1,s.c5.fr f s.u5 s.q5,s.l1,Nat.lt_of_lt_of_le s.u1 f.1,Nat.lt_of_lt_of_le s.u5 f.1,s.hB,s.ops.frame f.1 fun c q1 q2=>f.2 c (by omega) (fun e=>by rw[e] at q1;omega),s.o1,s.o2,s.o5⟩
theorem LyS.ext(s:LyS hE B vL n0 n1 h0 p1 p6 vO vs a sk i b h)(x:Exh h h'):LyS hE B vL n0 n1 h0 p1 p6 vO vs a sk i b h':=s.step (.exh x) (s.rs.ext x)
theorem LyS.set{v:V}{K:H→Prop}(s:LyS hE B vL n0 n1 h0 p1 p6 vO vs a sk i b h)(hk:∀h',LyS hE B vL n0 n1 h0 p1 p6 vO vs v sk i b h'→K h'):Go.Den.stn 2 (.ptr p6 0) (vI v) h K:=by
 have h1:=s.l1;have h2:=s.hB;have h3:=s.o1;have h4:=s.o2;have h5:=s.o5;have h6:=s.u5
 refine s.c5.stn (cs':=vC v) rfl rfl (by decide) fun h' f c=>?_
 exact hk h' ⟨s.rs.loc f (by omega) s.u5,s.f.loc f (by omega),s.c1.fr f s.u1 s.ne,c,s.l1,Nat.lt_of_lt_of_le s.u1 f.1,Nat.lt_of_lt_of_le s.u5 f.1,s.hB,s.ops.frame f.1 fun c q1 q2=>f.2 c (by omega) (fun e=>by rw[e] at q2;omega),s.o1,s.o2,s.o5⟩
theorem LyS.out{i0:Nat}{k:KV}{o:Go.Pre.R V Gx}(s:LyS hE B vL n0 n1 h0 p1 p6 vO vs a sk i b h)(hk:Su hE B vL sk (L.map tk) h0 o i0 k)(h1:i0≤i)(h2:i≤(L.map tk).length)(res:Res (L.map tk) o i b a):
 Go.Den.ldn 2 (.ptr p6 0) h fun v92=>Go.Den.stn 2 (.ptr p1 0) v92 h fun h93=>Go.Den.ldn 2 (.ptr p1 0) h93 fun v94=>k v94 h93:=by
 have q1:=s.l1;have q2:=s.hB
 refine s.c5.atp.ldn rfl ?_
 exact Ga s.c1 fun h3 f3=>hk h3 a i b (s.f.loc f3 s.l1) (s.rs.loc f3 (by omega) s.u1) h1 h2 res
theorem LyS.val{K:Int→Prop}(s:LyS hE B vL n0 n1 h0 p1 p6 vO vs a sk i b h)(hk:K (Int.ofNat a.1.toNat)):Af 0 (.ptr p6 0) fun v40=>Go.Den.ld1 v40 h fun v41=>asI .u64 v41 K:=by
 rw[Ae]
 refine s.c5.atp.ld1 (j:=0) (by simp) ?_
 show asI .u64 (uI a.1) _
 rw[Au];exact hk
variable(hr:RdT hE vL L)(hl:L.length≤1000000)
include hr hl
theorem An5 {lev M : Nat} {k : KV} (hlev : lev < Dt.length)
    (found : ∀ (s : List UInt8) (m kk : Nat) (h : H) (hlt : i < L.length), s ∈ Dt[lev] → b = false → tk L[i] = Go.Pre.P s → M ≤ m → m ≤ M + 12 → LyS hE B vL n0 n1 h0 p1 p6 vO vs a sk (i + 1) b h → (r89 W1 k m).a2 (.ptr B 0) (Int.ofNat lev) (.ptr p1 0) vO (.ptr p6 0) s.length (enc s) (Int.ofNat kk) h)
    (none : ∀ h, (∀ s ∈ Dt[lev], b = false → ∀ hlt : i < L.length, tk L[i] ≠ Go.Pre.P s) → LyS hE B vL n0 n1 h0 p1 p6 vO vs a sk i b h → Go.Den.ldn 2 (.ptr p6 0) h fun v92 => Go.Den.stn 2 (.ptr p1 0) v92 h fun h93 => Go.Den.ldn 2 (.ptr p1 0) h93 fun v94 => k v94 h93) :
    ∀ (c kk m : Nat) (h : H), Dt[lev].length - kk < c → kk ≤ Dt[lev].length → M + 2 * c ≤ m → m ≤ M + 12 → (∀ s ∈ Dt[lev].take kk, b = false → ∀ hlt : i < L.length, tk L[i] ≠ Go.Pre.P s) → LyS hE B vL n0 n1 h0 p1 p6 vO vs a sk i b h → (r89 W1 k m).a2 (.ptr B 0) (Int.ofNat lev) (.ptr p1 0) vO (.ptr p6 0) 0 0 (Int.ofNat kk) h
  | 0, _, _, _, hc, _, _, _, _, _ => absurd hc (Nat.not_lt_zero _)
  | c + 1, kk, m, h, hc, hkk, hm, hM, hno, s => by
    obtain ⟨m, rfl⟩ : ∃ q, m = q + 2 := ⟨m - 2, by omega⟩
    have h4 := Xi lev hlev
    have hv : lev < vs.length := by rw [s.ops.len]; exact hlev
    have hro := s.ops.row lev hv hlev
    refine Ay4 ?_
    unfold Agt
    rw [Bh]
    refine s.ops.rd.cell hv ?_
    rw [hro.len, Afm, ilt]
    refine Qm ?_
    rw [show Bc 0 0 0 0 = true from rfl, Bool.and_true]
    refine Ap (fun e => ?_) (fun e => ?_)
    · have e : kk < Dt[lev].length := of_decide_eq_true e
      rw [Bh]
      refine s.ops.rd.cell hv ?_
      rw [Bh]
      refine hro.str e ?_
      rw [De]
      refine c90 (s := Dt[lev][kk]) hr hl s.rs (fun h2 hlt hb ht f2 rs2 => ?_) (fun h2 hno2 f2 rs2 => ?_)
      · have s2 := s.step f2 rs2
        rw [Av]
        refine Bz rfl ?_
        rw [Bh]
        refine s2.ops.rd.cell hv ?_
        rw [Bh]
        refine (s2.ops.row lev hv hlev).str e ?_
        rw [De]
        refine Ay3 ?_
        unfold Ags
        rw [Eg, Cv (by omega), Ak]
        exact found _ m (kk + 1) h2 hlt (List.getElem_mem e) hb ht (by omega) (by omega) s2
      · have s2 := s.step f2 rs2
        rw [Av]
        refine Ca rfl ?_
        refine Ay3 ?_
        unfold Ags
        rw [Eg, Cv (by omega), Ak]
        refine An5 hlev found none c (kk + 1) m h2 (by omega) e (by omega) (by omega) (fun x hx hb hlt => ?_) s2
        rw [List.take_succ_eq_append_getElem e] at hx
        rcases List.mem_append.1 hx with hx | hx
        · exact hno x hx hb hlt
        · rw [List.mem_singleton] at hx; rw [hx]; exact hno2 hlt hb
    · have e : kk = Dt[lev].length := by have := of_decide_eq_false e; omega
      rw [e, List.take_length] at hno
      refine Hx (fun q => nomatch q) (fun _ => ?_)
      exact Bz rfl (none h hno s)
theorem An6{lev m i0:Nat}{k:KV}(hlev:lev<Dt.length)(hm:12≤m)(s:LyS hE B vL n0 n1 h0 p1 p6 vO vs a sk i true h)(hk:Su hE B vL sk (L.map tk) h0 none i0 k)(h1:i0≤i)(h2:i≤(L.map tk).length):
 (r89 W1 k m).a1 (.ptr B 0) (Int.ofNat lev) (.ptr p1 0) vO (.ptr p6 0) h:=by
 obtain⟨m,rfl⟩:∃q,m=q+12:=⟨m-12,by omega⟩
 have h4:=Xi lev hlev
 refine Asp ?_
 unfold Abm
 exact An5 hr hl (M:=m) hlev (fun s m kk h hlt _ hb=>by cases hb) (fun h' _ s'=>s'.out hk h1 h2 rfl) 5 0 (m+11) h (by omega) (Nat.zero_le _) (by omega) (by omega) (fun x hx=>by rw[List.take_zero] at hx;cases hx) s
omit hr hl in
theorem Aot(s:List UInt8)(a:V):((decide (s=[124,124])&&!vz a)||(decide (s=[38,38])&&vz a))=!Go.Pre.need (Go.Pre.P s) a:=by
 unfold Go.Pre.need Go.Pre.P
 by_cases e:s=[124,124]
 · subst e;simp
 · by_cases e2:s=[38,38]
   · subst e2;simp
   · simp[e,e2]
variable(htx:∀x∈L,x.text.length≤1000000∧Sl x.sites)
include htx
def Bfy(hE:H)(B:P)(vL:AV)(L:List En)(n e:Nat):Prop:=∀(i sk:Nat)(h:H)(k:KV),L.length-i≤n→i≤L.length→sk≤2000000-L.length+i→Ry hE B vL sk i false h→Su hE B vL sk (L.map tk) h (Go.Pre.Iy Go.Pre.lvl Go.Pre.need Go.Pre.two (unP (cdR n)) e (decide (sk=0)) ((L.map tk).drop i)) i k→W1 (.func 89) [.ptr B 0,.int .i64 (Int.ofNat (10-e))] h k
omit htx in
theorem Aug{e i0:Nat}{k:KV}(he:e<10)(hLev:Bfy hE B vL L n e):∀(c i:Nat)(a:V)(m fuel:Nat)(h:H),L.length-i<c→L.length-i≤n→i≤L.length→i0≤i→20*c≤m→sk≤2000000-L.length+i→L.length-i≤fuel→LyS hE B vL n0 n1 h0 p1 p6 vO vs a sk i false h→
 Su hE B vL sk (L.map tk) h0 (Go.Pre.Ec Go.Pre.lvl Go.Pre.need Go.Pre.two (Go.Pre.Iy Go.Pre.lvl Go.Pre.need Go.Pre.two (unP (cdR n)) e) (10-e) fuel (decide (sk=0)) a ((L.map tk).drop i)) i0 k→
 (r89 W1 k m).a1 (.ptr B 0) (Int.ofNat (9-e)) (.ptr p1 0) vO (.ptr p6 0) h:=by
 intro c
 induction c with
 |zero=>intro i a m fuel h hc;exact absurd hc (Nat.not_lt_zero _)
 |succ c ih=>
  intro i a m fuel h hc hn hi hi0 hm hsk hfu s hk
  have hlen:(L.map tk).length=L.length:=List.length_map ..
  have hlev:9-e<Dt.length:=show 9-e<10 by omega
  have h4:=Xi (9-e) hlev
  have he1:9-e+1=10-e:=by omega
  obtain⟨m,rfl⟩:∃q,m=q+12:=⟨m-12,by omega⟩
  refine Asp ?_
  unfold Abm
  refine An5 hr hl (M:=m) hlev (fun t m2 kk h1 hlt htm _ ht hm1 hm2 s1=>?_) (fun h1 hno s1=>?_) 5 0 (m+11) h (by omega) (Nat.zero_le _) (by omega) (by omega) (fun x hx=>by rw[List.take_zero] at hx;cases hx) s
  · obtain⟨hlv,hop,hne⟩:=A4n _ hlev t htm
    rw[he1] at hlv
    obtain⟨fuel,rfl⟩:∃q,fuel=q+1:=⟨fuel-1,by omega⟩
    rw[Gd hlt,ht,Go.Pre.Ase hlv] at hk
    obtain⟨m2,rfl⟩:∃q,m2=q+3:=⟨m2-3,by omega⟩
    have hv:9-e<vs.length:=by rw[s1.ops.len];exact hlev
    refine Ay4 ?_
    unfold Agt
    rw[Bh]
    refine s1.ops.rd.cell hv ?_
    rw[(s1.ops.row _ hv hlev).len,Afm,ilt]
    refine Qm ?_
    rw[La,decide_eq_false hne,Bool.and_false]
    refine Ca rfl ?_
    refine Mc (b:=false) (fun k' hk'=>?_) ?_
    · rw[Al,Ac,Ae]
      refine s1.rs.l2 ?_
      rw[Av];exact hk'
    refine Ca rfl ?_
    rw[Ce (s:=t) (t:=[124,124]) (l:=2) (c:=31868) rfl rfl,Ce (s:=t) (t:=[38,38]) (l:=2) (c:=9766) rfl rfl]
    refine Lo (b:=!vz a) (fun k' hk'=>s1.val ?_) ?_
    · rw[bv0,Bj];exact hk'
    refine Mc (b:=decide (t=[38,38])&&vz a) (fun k' hk'=>?_) ?_
    · refine Lo (b:=vz a) (fun k'' hk''=>s1.val ?_) hk'
      rw[bv0];exact hk''
    rw[Aot]
    -- the right side,and what is made of both
    have a5:∀(sk':Nat)(h2:H),sk'=sk+(if Go.Pre.need (Go.Pre.P t) a=true then 0 else 1)→LyS hE B vL n0 n1 h0 p1 p6 vO vs a sk' (i+1) false h2→(r89 W1 k (m2+2)).a5 (.ptr B 0) (Int.ofNat (9-e)) (.ptr p1 0) vO (.ptr p6 0) t.length (enc t) (!Go.Pre.need (Go.Pre.P t) a) h2:=fun sk' h2 hsk' s2=>by
     have hd:decide (sk'=0)=(decide (sk=0)&&Go.Pre.need (Go.Pre.P t) a):=by
      rw[hsk']
      cases Go.Pre.need (Go.Pre.P t) a with
      |true=>simp
      |false=>simp
     refine Bcf ?_
     unfold Alh
     rw[Eg,Cv (by omega),Ak,he1]
     refine hLev (i+1) sk' h2 _ (by omega) hlt (by rw[hsk'];split<;>omega) s2.rs fun h3 bv i' b' f3 rs3 b1 b2 res=>?_
     rw[hd] at res
     have s3:=s2.step f3 rs3
     refine Bo ?_
     refine Hj (v:=bv) fun h4 x4 n4 c10=>?_
     have s4:=s3.ext x4
     have u5:=s3.u5
     have nb:B.nat<h3.next.nat:=rs3.2.2.1
     have a4:∀h5,LyS hE B vL n0 n1 h0 p1 p6 vO vs a sk i' b' h5→Cel h5 h3.next 58 (vC bv)→(r89 W1 k (m2+1)).a4 (.ptr B 0) (Int.ofNat (9-e)) (.ptr p1 0) vO (.ptr p6 0) t.length (enc t) (.ptr h3.next 0) h5:=fun h5 s5 c5=>by
      refine Bcg ?_
      unfold Ali
      refine s5.c5.atp.ldn rfl ?_
      refine c5.atp.ldn rfl ?_
      have bad:∀(v:V)(h6:H),FrO B h5 h6→Ry hE B vL sk i' true h6→Su hE B vL sk (L.map tk) h0 none i0 k→Go.Den.stn 2 (.ptr p6 0) (vI v) h6 fun h83=>(r89 W1 k m2).a1 (.ptr B 0) (Int.ofNat (9-e)) (.ptr p1 0) vO (.ptr p6 0) h83:=fun v h6 f6 rs6 hkn=>by
       refine(s5.step f6 rs6).set fun h7 s7=>?_
       exact An6 hr hl hlev (by omega) s7 hkn (by omega) b2
      cases hev:Go.Pre.Iy Go.Pre.lvl Go.Pre.need Go.Pre.two (unP (cdR n)) e (decide (sk=0)&&Go.Pre.need (Go.Pre.P t) a) ((L.map tk).drop (i+1)) with
      |none=>
       rw[hev] at res hk
       have hb:b'=true:=res
       subst hb
       exact Bfl s5.rs hop (fun v h6 _ f6 rs6=>bad v h6 f6 rs6 hk) (fun v h6 _ f6 rs6=>bad v h6 f6 rs6 hk)
      |some p=>
       obtain⟨v0,r⟩:=p
       rw[hev,Option.bind_some] at hk
       rw[hev] at res
       obtain⟨rfl,rfl,hi',hdr⟩:=res
       have hdr:(L.map tk).drop i'=r:=hdr
       refine Bfl s5.rs hop (fun v h6 hv6 f6 rs6=>?_) (fun v h6 hv6 f6 rs6=>?_)
       · rw[hv6,Option.bind_some] at hk
         refine(s5.step f6 rs6).set fun h7 s7=>?_
         refine ih i' v m2 fuel h7 (by omega) (by omega) (by omega) (by omega) (by omega) (by omega) (by omega) s7 ?_
         rw[hdr];exact hk
       · rw[hv6] at hk
         exact bad v h6 f6 rs6 hk
     refine Ap (fun q=>?_) (fun q=>?_)
     · have q:Go.Pre.need (Go.Pre.P t) a=false:=by simpa using q
       have e3:sk'=sk+1:=by rw[hsk',q];simp
       rw[Al,Ac,Ae]
       refine s4.rs.l3 ?_
       rw[Au,Uj (by omega),Cv (by omega),Ak,Al,Ac,Ae]
       refine s4.rs.s3 fun h5 f5 rs5=>?_
       rw[show sk'-1=sk by omega] at rs5
       exact a4 h5 (s4.step f5 rs5) (c10.fr f5 n4 (fun e'=>by rw[e'] at nb;omega))
     · have q:Go.Pre.need (Go.Pre.P t) a=true:=by simpa using q
       rw[q] at hsk'
       have e3:sk'=sk:=by rw[hsk'];simp
       rw[e3] at s4
       exact a4 h4 s4 c10
    refine Ap (fun q=>?_) (fun q=>?_)
    · have q':Go.Pre.need (Go.Pre.P t) a=false:=by simpa using q
      rw[Al,Ac,Ae]
      refine s1.rs.l3 ?_
      rw[Au,Eg,Cv (by omega),Ak,Al,Ac,Ae]
      refine s1.rs.s3 fun h2 f2 rs2=>?_
      exact a5 (sk+1) h2 (by rw[q'];simp) (s1.step f2 rs2)
    · have q':Go.Pre.need (Go.Pre.P t) a=true:=by simpa using q
      exact a5 sk h1 (by rw[q'];simp) s1
  · refine s1.out hk hi0 (by omega) ?_
    rw[Go.Pre.Ajy (fun t r ht hlv=>?_)]
    · exact⟨rfl,rfl,by omega,rfl⟩
    · have hlt:i<L.length:=by
       rcases Nat.lt_or_ge i L.length with h|h
       · exact h
       · rw[List.drop_eq_nil_of_le (by omega)] at ht;cases ht
      rw[Gd hlt] at ht
      cases ht
      rw[←he1] at hlv
      obtain⟨_,x,hx,hxt⟩:=A4o hlv
      exact hno x hx rfl hlt hxt
theorem An7(hC:Ai8 hE B vL L n):∀e,e≤10→Bfy hE B vL L n e
 |0,_=>fun i sk h k hn hi hsk rs hk=>by
  refine w89 (n:=3) Bw (g89 ?_)
  unfold Yq
  have hB:=rs.2.2.1
  refine Bo ?_
  have c1:Cel (h.new Da) h.next 58 (vC (0#64,false)):=Ib
  have x1:Exh h (h.new Da):=.new
  have n1:h.next.nat<(h.new Da).next.nat:=by rw[Aw];omega
  generalize h.new Da=h1 at c1 x1 n1 ⊢
  refine Ayb fun h4 v vs x4 o4=>?_
  rw[o4.rd.len,List.length_map,o4.len,Lg]
  refine Bz rfl ?_
  have f4:FrO B h h4:=.exh (x1.trans x4)
  have rs4:=rs.ext (x1.trans x4)
  refine Bk8 hr hl htx hC (L.length-i+1) i sk h4 _ (by omega) hn hi hsk rs4 fun h5 w i' b f5 rs5 a1 a2 res=>?_
  refine Ga ((c1.ext x4 n1).fr f5 (by have:=x4.1;omega) (fun e=>by rw[←e] at hB;omega)) fun h6 f6=>?_
  rw[Go.Pre.Iy] at hk
  exact hk h6 w i' b ((f4.trans f5).loc f6 (Nat.le_refl _)) (rs5.loc f6 hB (by have:=x4.1;have:=f5.1;omega)) a1 a2 res
 |e+1,he=>fun i sk h k hn hi hsk rs hk=>by
  have hLev:=An7 hC e (by omega)
  refine w89 (n:=20*(L.length+2)+20) Bw (g89 ?_)
  unfold Yq
  have hlen:(L.map tk).length=L.length:=List.length_map ..
  have hB:=rs.2.2.1
  refine Bo ?_
  have c1:Cel (h.new Da) h.next 58 (vC (0#64,false)):=Ib
  have x1:Exh h (h.new Da):=.new
  have n1:h.next.nat<(h.new Da).next.nat:=by rw[Aw];omega
  generalize h.new Da=h1 at c1 x1 n1 ⊢
  refine Ayb fun h4 vO vs x4 o4=>?_
  rw[o4.rd.len,List.length_map,o4.len,Lg]
  refine Ca (decide_eq_false (by omega)) ?_
  have f4:FrO B h h4:=.exh (x1.trans x4)
  have rs4:=rs.ext (x1.trans x4)
  have u4:=x4.1
  rw[Eg,Cv (by omega),Ak,show 10-(e+1)+1=10-e by omega]
  refine hLev i sk h4 _ hn hi hsk rs4 fun h5 w i' b f5 rs5 a1 a2 res=>?_
  refine Bo ?_
  refine Hj (v:=w) fun h6 x6 n6 c6=>?_
  have u5:=f5.1
  have ne1:h.next≠B:=fun e=>by rw[←e] at hB;omega
  have s6:LyS hE B vL h1.next.nat h4.next.nat h h.next h5.next vO vs w sk i' b h6:=
   ⟨rs5.ext x6,(f4.trans f5).trans (.exh x6),((c1.ext x4 n1).fr f5 (by omega) ne1).ext x6 (by omega),c6,Nat.le_refl _,by omega,n6,hB,(o4.frame f5.1 fun c q1 q2=>f5.2 c q2 (fun e=>by rw[e] at q1;omega)).frame x6.1 fun c q1 q2=>x6.2 c (by omega),n1,u4,u5⟩
  have e9:10-(e+1)=9-e:=by omega
  rw[e9]
  rw[Go.Pre.A4q] at hk
  cases hev:Go.Pre.Iy Go.Pre.lvl Go.Pre.need Go.Pre.two (unP (cdR n)) e (decide (sk=0)) ((L.map tk).drop i) with
  |none=>
   rw[hev] at res hk
   have hb:b=true:=res
   subst hb
   exact An6 hr hl (show 9-e<10 by omega) (by omega) s6 hk a1 a2
  |some p=>
   obtain⟨v0,r⟩:=p
   rw[hev,Option.bind_some] at hk
   rw[hev] at res
   obtain⟨rfl,rfl,hi',hdr⟩:=res
   have hdr:(L.map tk).drop i'=r:=hdr
   have hrl:r.length=L.length-i':=by rw[←hdr,List.length_drop,hlen]
   refine Aug hr hl (by omega) hLev (L.length+1) i' w _ r.length h6 (by omega) (by omega) (by omega) a1 (by omega) (by omega) (by omega) s6 ?_
   rw[hdr];exact hk
omit htx in
theorem Bfe:∀(e:Nat),e≤10→∀(sk i:Nat)(h:H)(k:KV),i≤L.length→Ry hE B vL sk i true h→(∀h' v,FrO B h h'→Ry hE B vL sk i true h'→k (vI v) h')→W1 (.func 89) [.ptr B 0,.int .i64 (Int.ofNat (10-e))] h k
 |0,_=>fun sk i h k hi rs hk=>by
  refine w89 (n:=3) Bw (g89 ?_)
  unfold Yq
  have hB:=rs.2.2.1
  refine Bo ?_
  have c1:Cel (h.new Da) h.next 58 (vC (0#64,false)):=Ib
  have x1:Exh h (h.new Da):=.new
  have n1:h.next.nat<(h.new Da).next.nat:=by rw[Aw];omega
  generalize h.new Da=h1 at c1 x1 n1 ⊢
  refine Ayb fun h4 v vs x4 o4=>?_
  rw[o4.rd.len,List.length_map,o4.len,Lg]
  refine Bz rfl ?_
  have f4:FrO B h h4:=.exh (x1.trans x4)
  have rs4:=rs.ext (x1.trans x4)
  refine Bfm rs4 fun h5 w f5 rs5=>?_
  refine Ga ((c1.ext x4 n1).fr f5 (by have:=x4.1;omega) (fun e=>by rw[←e] at hB;omega)) fun h6 f6=>?_
  exact hk h6 w ((f4.trans f5).loc f6 (Nat.le_refl _)) (rs5.loc f6 hB (by have:=x4.1;have:=f5.1;omega))
 |e+1,he=>fun sk i h k hi rs hk=>by
  refine w89 (n:=L.length+20) Bw (g89 ?_)
  unfold Yq
  have hlen:(L.map tk).length=L.length:=List.length_map ..
  have hB:=rs.2.2.1
  refine Bo ?_
  have c1:Cel (h.new Da) h.next 58 (vC (0#64,false)):=Ib
  have x1:Exh h (h.new Da):=.new
  have n1:h.next.nat<(h.new Da).next.nat:=by rw[Aw];omega
  generalize h.new Da=h1 at c1 x1 n1 ⊢
  refine Ayb fun h4 vO vs x4 o4=>?_
  rw[o4.rd.len,List.length_map,o4.len,Lg]
  refine Ca (decide_eq_false (by omega)) ?_
  have f4:FrO B h h4:=.exh (x1.trans x4)
  have rs4:=rs.ext (x1.trans x4)
  have u4:=x4.1
  rw[Eg,Cv (by omega),Ak,show 10-(e+1)+1=10-e by omega]
  refine Bfe e (by omega) sk i h4 _ hi rs4 fun h5 w f5 rs5=>?_
  refine Bo ?_
  refine Hj (v:=w) fun h6 x6 n6 c6=>?_
  have u5:=f5.1
  have ne1:h.next≠B:=fun e=>by rw[←e] at hB;omega
  have s6:LyS hE B vL h1.next.nat h4.next.nat h h.next h5.next vO vs w sk i true h6:=
   ⟨rs5.ext x6,(f4.trans f5).trans (.exh x6),((c1.ext x4 n1).fr f5 (by omega) ne1).ext x6 (by omega),c6,Nat.le_refl _,by omega,n6,hB,(o4.frame f5.1 fun c q1 q2=>f5.2 c q2 (fun e=>by rw[e] at q1;omega)).frame x6.1 fun c q1 q2=>x6.2 c (by omega),n1,u4,u5⟩
  have e9:10-(e+1)=9-e:=by omega
  rw[e9]
  refine Asp ?_
  unfold Abm
  have h4:=Xi (9-e) (show 9-e<10 by omega)
  refine An5 hr hl (M:=L.length+7) (show 9-e<10 by omega) (fun s m kk h hlt _ hb=>by cases hb) (fun h' _ s'=>?_) 5 0 (L.length+18) h6 (by omega) (Nat.zero_le _) (by omega) (by omega) (fun x hx=>by rw[List.take_zero] at hx;cases hx) s6
  refine s'.c5.atp.ldn rfl ?_
  exact Ga s'.c1 fun h8 f8=>hk h8 w (s'.f.loc f8 s'.l1) (s'.rs.loc f8 hB s'.u1)
end
end Go.Den
noncomputable section
namespace Go.Den
open Go.RowKit
open Go.Pre (V Kq vz Fh Mf Mg Pd Hr Dt Ph Wy unary)
set_option maxRecDepth 100000
structure By(h0 h:H)(B p:P)(v:V):Prop where
 c:Cel h p 58 (vC v)
 l:h0.next.nat≤p.nat
 u:p.nat<h.next.nat
 n:p≠B
theorem By.step{h0 h h':H}{B p:P}{v:V}(b:By h0 h B p v)(f:FrO B h h'):By h0 h' B p v:=⟨b.c.fr f b.u b.n,b.l,Nat.lt_of_lt_of_le b.u f.1,b.n⟩
theorem By.loc{h0 h h':H}{B p q:P}{v:V}(b:By h0 h B p v)(f:FrO q h h')(hn:p≠q):By h0 h' B p v:=⟨b.c.fr f b.u hn,b.l,Nat.lt_of_lt_of_le b.u f.1,b.n⟩
section
variable{hE:H}{L:List En}{vL:AV}{B:P}{n:Nat}
variable(hr:RdT hE vL L)(hl:L.length≤1000000)
include hr hl
theorem Bkp{sk i:Nat}{h:H}{k:KV}(hi:i≤L.length)(rs:Ry hE B vL sk i true h)(hk:∀h' v,FrO B h h'→Ry hE B vL sk i true h'→k (vI v) h'):W1 (.func 50) [.ptr B 0] h k:=by
 refine w50 (n:=L.length+9) Bw (g50 ?_)
 unfold Agy
 have hB:=rs.2.2.1
 refine Bo ?_
 have c1:Cel (h.new Da) h.next 58 (vC (0#64,false)):=Ib
 have x1:Exh h (h.new Da):=.new
 have n1:h.next.nat<(h.new Da).next.nat:=by rw[Aw];omega
 have rs1:=rs.ext x1
 generalize h.new Da=h1 at c1 x1 n1 rs1 ⊢
 have ne1:h.next≠B:=fun e=>by rw[←e] at hB;omega
 have b1:By h h1 B h.next (0#64,false):=⟨c1,Nat.le_refl _,n1,ne1⟩
 refine Bfe hr hl 10 (Nat.le_refl _) sk i h1 _ hi rs1 fun h2 v f2 rs2=>?_
 refine Bo ?_
 refine Hj (v:=v) fun h3 x3 n3 c5=>?_
 have f3:=((FrO.exh (B:=B) x1).trans f2).trans (.exh x3)
 have b13:=(b1.step f2).step (.exh x3)
 have hB2:B.nat<h2.next.nat:=rs2.2.2.1
 have ne5:h2.next≠B:=fun e=>by rw[e] at hB2;omega
 refine c90 (s:=[63]) hr hl (rs2.ext x3) (fun h4 _ hb=>by cases hb) (fun h4 _ f4 rs4=>?_)
 rw[Av]
 refine Bz rfl ?_
 refine(c5.fr f4 n3 ne5).atp.ldn rfl ?_
 have b14:=b13.step f4
 exact Ga b14.c fun h5 f5=>hk h5 v ((f3.trans f4).loc f5 (Nat.le_refl _)) (rs4.loc f5 hB b14.u)
variable(htx:∀x∈L,x.text.length≤1000000∧Sl x.sites)
include htx
theorem Auk(hC:Ai8 hE B vL L n):Ai8 hE B vL L (n+1):=by
 intro i sk h k hn hi hsk rs hk
 have hlen:(L.map tk).length=L.length:=List.length_map ..
 refine w50 (n:=L.length+9) Bw (g50 ?_)
 unfold Agy
 have hB:=rs.2.2.1
 refine Bo ?_
 have c1:Cel (h.new Da) h.next 58 (vC (0#64,false)):=Ib
 have x1:Exh h (h.new Da):=.new
 have n1:h.next.nat<(h.new Da).next.nat:=by rw[Aw];omega
 have rs1:=rs.ext x1
 generalize h.new Da=h1 at c1 x1 n1 rs1 ⊢
 have f1:FrO B h h1:=.exh x1
 have ne1:h.next≠B:=fun e=>by rw[←e] at hB;omega
 have b1:By h h1 B h.next (0#64,false):=⟨c1,Nat.le_refl _,n1,ne1⟩
 refine An7 hr hl htx hC 10 (Nat.le_refl _) i sk h1 _ (by omega) hi hsk rs1 fun h2 c i2 y2 f2 rs2 a1 a2 res=>?_
 refine Bo ?_
 refine Hj (v:=c) fun h3 x3 n3 c5=>?_
 have u2:=f2.1
 have f23:=f2.trans (FrO.exh (B:=B) x3)
 have b5:By h h3 B h2.next c:=⟨c5,by omega,n3,fun e=>by rw[e] at u2;omega⟩
 have rs3:=rs2.ext x3
 have f3:=f1.trans f23
 replace b1:=b1.step f23
 have n15:h.next≠h2.next:=fun e=>by rw[e] at n1;omega
 generalize hdd:decide (sk=0)=d at*
 have hco:cdR (n+1) d ((L.map tk).drop i)=(Go.Pre.Iy Go.Pre.lvl Go.Pre.need Go.Pre.two (unP (cdR n)) 10 d ((L.map tk).drop i)).bind fun p=>Go.Pre.Sj p.2 [63] (fun r=>(cdR n (d&&!vz p.1) r).bind fun q=>Go.Pre.Sj q.2 [58] (fun r2=>(cdR n (d&&vz p.1) r2).map fun s=>(Fh p.1 q.1 s.1,s.2)) none) (some p):=rfl
 rw[hco] at hk
 clear hco
 have hlast:∀(h9:H)(p:P)(x:BitVec 64)(w:V)(un:Bool)(o:Go.Pre.R V Gx)(i9:Nat)(y:Bool),FrO B h h9→Ry hE B vL sk i9 y h9→i≤i9→i9≤(L.map tk).length→By h h9 B h.next (0#64,false)→By h h9 B p w→w.1=x→Res (L.map tk) o i9 y (x,un)→Su hE B vL sk (L.map tk) h o i k→(r50 W1 k (L.length+3)).a1 (.ptr h.next 0) (.ptr p 0) un h9:=fun h9 p x w un o i9 y f9 rs9 q1 q2 bb bw hx res9 hk=>by
  subst hx
  refine Bcy ?_
  unfold Ame
  rw[Ae]
  refine bw.c.atp.ld1 (j:=0) (by simp) ?_
  show asI .u64 (uI w.1) _
  rw[Au,Mx,Ac]
  exact Ga (v:=(w.1,un)) bb.c fun h11 f11=>hk h11 _ i9 y (f9.loc f11 (Nat.le_refl _)) (rs9.loc f11 hB bb.u) q1 q2 res9
 refine c90 (s:=[63]) hr hl rs3 (fun h4 hlt hb ht f4 rs4=>?_) (fun h4 hno f4 rs4=>?_)
 · -- behind '?'
   subst hb
   rw[Av]
   refine Ca rfl ?_
   cases hev:Go.Pre.Iy Go.Pre.lvl Go.Pre.need Go.Pre.two (unP (cdR n)) 10 d ((L.map tk).drop i) with
   |none=>rw[hev] at res;cases(show false=true from res)
   |some p=>
    obtain⟨c0,r⟩:=p
    rw[hev] at res hk
    obtain⟨_,rfl,hi2,hdr⟩:=res
    have hdr:(L.map tk).drop i2=r:=hdr
    rw[Gd hlt] at hdr
    subst hdr
    rw[Option.bind_some,Go.Pre.Vr ht] at hk
    have b14:=b1.step f4
    have b54:=b5.step f4
    have f34:=f3.trans f4
    have u3:=x3.1
    have u4:=f4.1
    -- the first arm
    have a6:∀(h5:H)(sk5:Nat),sk5=sk+(if vz c=true then 1 else 0)→FrO B h4 h5→Ry hE B vL sk5 (i2+1) false h5→(r50 W1 k (L.length+8)).a6 (.ptr B 0) (.ptr h.next 0) (.ptr h2.next 0) h5:=fun h5 sk5 hs5 f5 rs5=>by
     have hd5:decide (sk5=0)=(d&&!vz c):=by
      rw[hs5,←hdd]
      cases vz c with
      |true=>simp
      |false=>simp
     refine Bct ?_
     unfold Al9
     refine hC (i2+1) sk5 h5 _ (by omega) hlt (by rw[hs5];split<;>omega) rs5 fun h6 a i6 y6 f6 rs6 a3 a4 res6=>?_
     rw[hd5] at res6
     refine Bo ?_
     refine Hj (v:=a) fun h7 x7 n7 c30=>?_
     have u5:=f5.1
     have u6:=f6.1
     have f57:=(f5.trans f6).trans (FrO.exh (B:=B) x7)
     have b17:=b14.step f57
     have b57:=b54.step f57
     have b37:By h h7 B h6.next a:=⟨c30,by omega,n7,fun e=>by rw[e] at u6;omega⟩
     have rs7:=rs6.ext x7
     have n13:h.next≠h6.next:=fun e=>by rw[←e] at u6;omega
     have n53:h2.next≠h6.next:=fun e=>by rw[←e] at u6;omega
     -- behind the first arm
     have a5:∀(h8:H),FrO B h7 h8→Ry hE B vL sk i6 y6 h8→(r50 W1 k (L.length+7)).a5 (.ptr B 0) (.ptr h.next 0) (.ptr h2.next 0) (.ptr h6.next 0) h8:=fun h8 f8 rs8=>by
      have b18:=b17.step f8
      have b58:=b57.step f8
      have b38:=b37.step f8
      refine Bcu ?_
      unfold Ama
      -- the second arm
      have a4':∀(h9:H)(i9:Nat)(y9:Bool)(o:Go.Pre.R V Gx),FrO B h8 h9→Ry hE B vL sk i9 y9 h9→i6≤i9→i9≤L.length→Su hE B vL sk (L.map tk) h (o.map fun s=>(Fh c a s.1,s.2)) i k→
       (∀(h10:H)(sk10:Nat)(K:KV),decide (sk10=0)=(d&&vz c)→sk10≤sk+1→Ry hE B vL sk10 i9 y9 h10→(∀h11 bv i11 y11,FrO B h10 h11→Ry hE B vL sk10 i11 y11 h11→i9≤i11→i11≤(L.map tk).length→Res (L.map tk) o i11 y11 bv→K (vI bv) h11)→W1 (.func 50) [.ptr B 0] h10 K)→
       (r50 W1 k (L.length+6)).a4 (.ptr B 0) (.ptr h.next 0) (.ptr h2.next 0) (.ptr h6.next 0) h9:=fun h9 i9 y9 o f9 rs9 q1 q2 hk call=>by
       have b19:=b18.step f9
       have b59:=b58.step f9
       have b39:=b38.step f9
       have f9':=(((f34.trans f57).trans f8).trans f9)
       have u8:=f8.1
       have u9:=f9.1
       have a3':∀(h10:H)(sk10:Nat),sk10=sk+(if vz c=true then 0 else 1)→FrO B h9 h10→Ry hE B vL sk10 i9 y9 h10→(r50 W1 k (L.length+5)).a3 (.ptr B 0) (.ptr h.next 0) (.ptr h2.next 0) (.ptr h6.next 0) h10:=fun h10 sk10 hs10 f10 rs10=>by
        refine Bcw ?_
        unfold Amc
        refine call h10 sk10 _ ?_ (by rw[hs10];split<;>omega) rs10 fun h11 bv i11 y11 f11 rs11 q3 q4 res11=>?_
        · rw[hs10,←hdd]
          cases vz c with
          |true=>simp
          |false=>simp
        refine Bo ?_
        refine Hj (v:=bv) fun h12 x12 n12 c50=>?_
        have u10:=f10.1
        have u11:=f11.1
        have f912:=(f10.trans f11).trans (FrO.exh (B:=B) x12)
        have b112:=b19.step f912
        have b512:=b59.step f912
        have b312:=b39.step f912
        have b12:By h h12 B h11.next bv:=⟨c50,by omega,n12,fun e=>by rw[e] at u11;omega⟩
        have rs12:=rs11.ext x12
        have n36:h6.next≠h11.next:=fun e=>by rw[←e] at u11;omega
        -- the end
        have a2':∀(h13:H),FrO B h12 h13→Ry hE B vL sk i11 y11 h13→(r50 W1 k (L.length+4)).a2 (.ptr h.next 0) (.ptr h2.next 0) (.ptr h6.next 0) (.ptr h11.next 0) h13:=fun h13 f13 rs13=>by
         have b113:=b112.step f13
         have b513:=b512.step f13
         have b313:=b312.step f13
         have b13:=b12.step f13
         refine Bcx ?_
         unfold Amd
         rw[Ae]
         refine b313.c.atp.ld1 (j:=1) (by simp) ?_
         show asB (.bool a.2) _
         rw[Av]
         refine Mc (b:=bv.2) (fun k' hk'=>?_) ?_
         · rw[Ae]
           refine b13.c.atp.ld1 (j:=1) (by simp) ?_
           show asB (.bool bv.2) _
           rw[Av];exact hk'
         rw[Ae]
         refine b513.c.atp.ld1 (j:=0) (by simp) ?_
         show asI .u64 (uI c.1) _
         rw[Au,bv0]
         have res13:Res (L.map tk) (o.map fun s=>(Fh c a s.1,s.2)) i11 y11 (Fh c a bv):=res11.map (Fh c a)
         refine Ap (fun ez=>?_) (fun ez=>?_)
         · have ez:vz c=true:=ez
           refine b13.c.atp.ldn rfl ?_
           refine b313.c.stn (cs':=vC bv) rfl rfl (by decide) fun h14 f14 c14=>?_
           have hp:Fh c a bv=(bv.1,a.2||bv.2):=by unfold Fh;rw[ez];rfl
           rw[hp] at res13
           exact hlast h14 h6.next bv.1 bv _ _ i11 y11 (((f9'.trans f912).trans f13).loc f14 b313.l) (rs13.loc f14 (by have:=b313.l;omega) b313.u) (by omega) q4 (b113.loc f14 n13) ⟨c14,b313.l,Nat.lt_of_lt_of_le b313.u f14.1,b313.n⟩ rfl res13 hk
         · have ez:vz c=false:=ez
           have hp:Fh c a bv=(a.1,a.2||bv.2):=by unfold Fh;rw[ez];rfl
           rw[hp] at res13
           exact hlast h13 h6.next a.1 a _ _ i11 y11 ((f9'.trans f912).trans f13) rs13 (by omega) q4 b113 b313 rfl res13 hk
        rw[Ae]
        refine b512.c.atp.ld1 (j:=0) (by simp) ?_
        show asI .u64 (uI c.1) _
        rw[Au,bv0,Bj]
        refine Ap (fun ez=>?_) (fun ez=>?_)
        · have ez:vz c=false:=by unfold vz;simpa using ez
          rw[ez] at hs10
          rw[Al,Ac,Ae]
          refine rs12.l3 ?_
          rw[Au,Uj (by rw[hs10];simp),Cv (by rw[hs10];simp;omega),Ak,Al,Ac,Ae]
          refine rs12.s3 fun h13 f13 rs13=>?_
          rw[show sk10-1=sk by rw[hs10];simp] at rs13
          exact a2' h13 f13 rs13
        · have ez:vz c=true:=by unfold vz;simpa using ez
          rw[ez] at hs10
          rw[show sk10=sk by rw[hs10];simp] at rs12
          exact a2' h12 .refl rs12
       refine Bcv ?_
       unfold Amb
       rw[Ae]
       refine b59.c.atp.ld1 (j:=0) (by simp) ?_
       show asI .u64 (uI c.1) _
       rw[Au,bv0,Bj]
       refine Ap (fun ez=>?_) (fun ez=>?_)
       · have ez:vz c=false:=by unfold vz;simpa using ez
         rw[Al,Ac,Ae]
         refine rs9.l3 ?_
         rw[Au,Eg,Cv (by omega),Ak,Al,Ac,Ae]
         refine rs9.s3 fun h10 f10 rs10=>?_
         exact a3' h10 (sk+1) (by rw[ez];simp) f10 rs10
       · have ez:vz c=true:=by unfold vz;simpa using ez
         exact a3' h9 sk (by rw[ez];simp) .refl rs9
      refine c90 (s:=[58]) hr hl rs8 (fun h9 hlt9 hb9 ht9 f9 rs9=>?_) (fun h9 hno9 f9 rs9=>?_)
      · subst hb9
        rw[Av]
        refine Ca rfl ?_
        cases hc6:cdR n (d&&!vz c) ((L.map tk).drop (i2+1)) with
        |none=>rw[hc6] at res6;cases(show false=true from res6)
        |some p=>
         obtain⟨v0,r6⟩:=p
         rw[hc6] at res6 hk
         obtain⟨_,rfl,hi6,hdr6⟩:=res6
         have hdr6:(L.map tk).drop i6=r6:=hdr6
         rw[Gd hlt9] at hdr6
         subst hdr6
         rw[Option.bind_some,Go.Pre.Vr ht9] at hk
         refine a4' h9 (i6+1) false (cdR n (d&&vz c) ((L.map tk).drop (i6+1))) f9 rs9 (by omega) hlt9 hk fun h10 sk10 K hd10 hs10 rs10 hK=>?_
         refine hC (i6+1) sk10 h10 K (by omega) hlt9 (by omega) rs10 fun h11 bv i11 y11 f11 rs11 q1 q2 res11=>?_
         rw[hd10] at res11
         exact hK h11 bv i11 y11 f11 rs11 q1 q2 res11
      · rw[Av]
        refine Bz rfl ?_
        rw[Al,Ac,Ae]
        refine rs9.s2 fun h10 f10 rs10=>?_
        have hkn:Su hE B vL sk (L.map tk) h none i k:=by
         cases hc6:cdR n (d&&!vz c) ((L.map tk).drop (i2+1)) with
         |none=>rw[hc6] at hk;exact hk
         |some p=>
          obtain⟨v0,r6⟩:=p
          rw[hc6] at res6 hk
          obtain⟨hb6,rfl,hi6,hdr6⟩:=res6
          have hdr6:(L.map tk).drop i6=r6:=hdr6
          cases r6 with
          |nil=>exact hk
          |cons t2 r2=>
           have hlt9:i6<L.length:=by
            rcases Nat.lt_or_ge i6 L.length with h|h
            · exact h
            · rw[List.drop_eq_nil_of_le (by omega)] at hdr6;cases hdr6
           rw[Gd hlt9] at hdr6
           cases hdr6
           rw[Option.bind_some,Go.Pre.Re (hno9 hlt9 hb6)] at hk
           exact hk
        refine a4' h10 i6 true none (f9.trans f10) rs10 (Nat.le_refl _) (by omega) hkn fun h11 sk10 K hd10 hs10 rs11 hK=>?_
        exact Bkp hr hl (by omega) rs11 fun h12 v f12 rs12=>hK h12 v i6 true f12 rs12 (Nat.le_refl _) (by omega) rfl
     rw[Ae]
     refine b57.c.atp.ld1 (j:=0) (by simp) ?_
     show asI .u64 (uI c.1) _
     rw[Au,bv0]
     refine Ap (fun ez=>?_) (fun ez=>?_)
     · have ez:vz c=true:=ez
       rw[ez] at hs5
       rw[Al,Ac,Ae]
       refine rs7.l3 ?_
       rw[Au,Uj (by rw[hs5];simp),Cv (by rw[hs5];simp;omega),Ak,Al,Ac,Ae]
       refine rs7.s3 fun h8 f8 rs8=>?_
       rw[show sk5-1=sk by rw[hs5];simp] at rs8
       exact a5 h8 f8 rs8
     · have ez:vz c=false:=ez
       rw[ez] at hs5
       rw[show sk5=sk by rw[hs5];simp] at rs7
       exact a5 h7 .refl rs7
    rw[Ae]
    refine b54.c.atp.ld1 (j:=0) (by simp) ?_
    show asI .u64 (uI c.1) _
    rw[Au,bv0]
    refine Ap (fun ez=>?_) (fun ez=>?_)
    · have ez:vz c=true:=ez
      rw[Al,Ac,Ae]
      refine rs4.l3 ?_
      rw[Au,Eg,Cv (by omega),Ak,Al,Ac,Ae]
      refine rs4.s3 fun h5 f5 rs5=>?_
      exact a6 h5 (sk+1) (by rw[ez];simp) f5 rs5
    · have ez:vz c=false:=ez
      exact a6 h4 sk (by rw[ez];simp) .refl rs4
 · -- no '?'
   rw[Av]
   refine Bz rfl ?_
   have b14:=b1.step f4
   refine(b5.step f4).c.atp.ldn rfl ?_
   refine Ga b14.c fun h5 f5=>hk h5 c i2 y2 ((f3.trans f4).loc f5 (Nat.le_refl _)) (rs4.loc f5 hB b14.u) a1 a2 ?_
   cases hev:Go.Pre.Iy Go.Pre.lvl Go.Pre.need Go.Pre.two (unP (cdR n)) 10 d ((L.map tk).drop i) with
   |none=>rw[hev] at res;exact res
   |some p=>
    obtain⟨c0,r⟩:=p
    rw[hev] at res
    obtain⟨hb,rfl,hi2,hdr⟩:=res
    have hdr:(L.map tk).drop i2=r:=hdr
    rw[Option.bind_some]
    cases r with
    |nil=>exact⟨hb,rfl,hi2,hdr⟩
    |cons t r2=>
     have hlt:i2<L.length:=by
      rcases Nat.lt_or_ge i2 L.length with h|h
      · exact h
      · rw[List.drop_eq_nil_of_le (by omega)] at hdr;cases hdr
     have hdr2:=hdr
     rw[Gd hlt] at hdr2
     cases hdr2
     rw[Go.Pre.Re (hno hlt hb)]
     exact⟨hb,rfl,hi2,hdr⟩
theorem An9:∀n,Ai8 hE B vL L n
 |0=>fun i sk h k hn=>absurd hn (Nat.not_lt_zero _)
 |n+1=>Auk hr hl htx (An9 n)
end
theorem A5w(v:AV)(hv:Sl v)(h:H):Ax env (env.ty 125) [(0,v)] h=some (.agg [v,.int .i64 (Int.ofNat 0),.bool false,.int .i64 (Int.ofNat 0)],h):=by
 rcases hv with rfl|⟨b,o,n,z,t,rfl⟩
 · kernel_rfl
 · kernel_rfl
def Ajn(T:List Gx):Option V:=match cdR (T.length+1) true T with
 |some (v,[])=>some v
 |_=>none
theorem Aww(T:List Gx):Ajn T=Ahe T:=by
 unfold Ajn Ahe
 rw[show cdR (T.length+1)=cdP (T.length+1) from(Go.Pre.Apo Ana _).symm]
 cases cdP (T.length+1) true T with
 |none=>rfl
 |some p=>
  obtain⟨v,r⟩:=p
  cases r<;>rfl
theorem c27{hE:H}{L:List En}{vL:AV}{k:KV}(hr:RdT hE vL L)(hl:L.length≤1000000)(htx:∀x∈L,x.text.length≤1000000∧Sl x.sites)(hk:∀h',Exh hE h'→k (Ao1 (Ajn (L.map tk))) h'):W1 (.func 27) [vL] hE k:=by
 refine w27 (n:=1) Bw (g27 ?_)
 unfold Amq
 have hlen:(L.map tk).length=L.length:=List.length_map ..
 refine Bo ?_
 have c1:Cel (hE.new Da) hE.next 58 (vC (0#64,false)):=Ib
 have x1:Exh hE (hE.new Da):=.new
 have n1:hE.next.nat<(hE.new Da).next.nat:=by rw[Aw];omega
 generalize hE.new Da=h1 at c1 x1 n1 ⊢
 rw[A5w vL hr.sl,Ac,St]
 refine Vb (by simp) (Bo ?_)
 have rs:Ry hE h1.next vL 0 0 false (h1.new (rowOf 125 [vL,.int .i64 (Int.ofNat 0),.bool false,.int .i64 (Int.ofNat 0)])):=⟨x1.trans .new,by omega,by rw[Aw];omega,.new⟩
 have x2:Exh h1 (h1.new (rowOf 125 [vL,.int .i64 (Int.ofNat 0),.bool false,.int .i64 (Int.ofNat 0)])):=.new
 replace c1:=c1.ext x2 n1
 generalize h1.new (rowOf 125 [vL,.int .i64 (Int.ofNat 0),.bool false,.int .i64 (Int.ofNat 0)])=h2 at rs x2 c1 ⊢
 have u2:=x2.1
 have ne1:hE.next≠h1.next:=fun e=>by rw[←e] at n1;omega
 refine An9 hr hl htx (L.length+1) 0 0 h2 _ (by omega) (Nat.zero_le _) (Nat.zero_le _) rs fun h3 v i b f3 rs3 a1 a2 res=>?_
 rw[List.drop_zero] at res
 rw[←hlen] at res
 have res:Res (L.map tk) (cdR ((L.map tk).length+1) true (L.map tk)) i b v:=res
 refine Bo ?_
 refine Hj (v:=v) fun h4 x4 n4 c4=>?_
 have u3:=f3.1
 have u4:=x4.1
 have rs4:=rs3.ext x4
 have c14:=(c1.fr f3 (by omega) ne1).ext x4 (by omega)
 have fin:∀(w:V)(o:Option V),o.getD (0#64,false)=w→Ajn (L.map tk)=o→Go.Den.stn 2 (.ptr hE.next 0) (vI w) h4 fun h29=>Go.Den.ldn 2 (.ptr hE.next 0) h29 fun v30=>k (.tuple [v30,(.bool o.isSome)]) h29:=fun w o hw ho=>by
  refine Ga (k:=fun v30 h29=>k (.tuple [v30,(.bool o.isSome)]) h29) c14 fun h5 f5=>?_
  have:=hk h5 (rs4.1.loc f5 (Nat.le_refl _))
  unfold Ao1 at this
  rw[ho,hw] at this
  exact this
 rw[Al,Ac,Ae]
 refine rs4.l2 ?_
 rw[Av]
 cases hc:cdR ((L.map tk).length+1) true (L.map tk) with
 |none=>
  rw[hc] at res
  have hb:b=true:=res
  subst hb
  refine Hx (fun e=>nomatch e) (fun _=>?_)
  refine Bz rfl ?_
  rw[Tf,Ac]
  exact fin (0#64,false) none rfl (by unfold Ajn;rw[hc])
 |some p=>
  obtain⟨v0,r⟩:=p
  rw[hc] at res
  obtain⟨rfl,rfl,hi,hdr⟩:=res
  have hdr:(L.map tk).drop i=r:=hdr
  refine Hx (fun _=>?_) (fun e=>nomatch e)
  rw[Al,Ac,Ae]
  refine rs4.l1 ?_
  rw[Au,hr.len,Lg,Bj]
  refine Ap (fun e=>?_) (fun e=>?_)
  · have e:¬i=L.length:=by simpa using e
    rw[Tf,Ac]
    refine fin (0#64,false) none rfl ?_
    rw[Gd (show i<L.length by omega)] at hdr
    unfold Ajn;rw[hc,←hdr]
  · have e:i=L.length:=by simpa using e
    rw[List.drop_eq_nil_of_le (by omega)] at hdr
    refine c4.atp.ldn rfl ?_
    refine fin v (some v) rfl ?_
    unfold Ajn;rw[hc,←hdr]
end Go.Den
namespace Go.Den
open Go.RowKit
open Go.Pre (V)
set_option maxRecDepth 100000
abbrev kTp:KV:=fun v _=>v=.bool true
theorem Aoe{h:H}(he:Ky h){k:KV}(hk:k (.bool true) h):W1 (.func 25) [] h k:=Abs c25 rfl rfl he hk
theorem Blj(a:Int):Bm a a=true:=by rw[Fz,beq_self_eq_true]
theorem ldV{h:H}{p:P}{e:TypeId}{v:V}{K:Int→Prop}(c:Cel h p e (vC v))(hk:K (Int.ofNat v.1.toNat)):Af 0 (.ptr p 0) fun v40=>Go.Den.ld1 v40 h fun v41=>asI .u64 v41 K:=by
 rw[Ae]
 refine c.atp.ld1 (j:=0) (by simp) ?_
 show asI .u64 (uI v.1) _
 rw[Au];exact hk
theorem ldU{h:H}{p:P}{e:TypeId}{v:V}{K:Bool→Prop}(c:Cel h p e (vC v))(hk:K v.2):Af 1 (.ptr p 0) fun v40=>Go.Den.ld1 v40 h fun v41=>asB v41 K:=by
 rw[Ae]
 refine c.atp.ld1 (j:=1) (by simp) ?_
 show asB (.bool v.2) _
 rw[Av];exact hk
theorem c8{hE:H}{L:List En}{vL:AV}(hr:RdT hE vL L)(hs:∀x∈L,Sl x.sites)(he:Ky hE):W1 (.func 8) [vL] hE kTp:=by
 refine w8 (n:=1) Bw (g8 ?_)
 unfold Awu
 refine c14 hr hs (m:=200) (by decide) fun b hb=>?_
 rw[Av,Bj]
 refine Ap (fun _=>?_) (fun e=>?_)
 · refine Aoe he ?_
   rw[Av]
 have e:b=true:=by simpa using e
 obtain⟨h1,h2⟩:=hb e
 have htx:∀x∈L,x.text.length≤1000000∧Sl x.sites:=fun x hx=>⟨by have:=h2 x hx;omega,hs x hx⟩
 refine c26 hr (by omega) htx he fun ha xa=>?_
 generalize hp:Ahe (L.map tk)=o
 unfold Ao1
 rw[Eb,Eh,Av]
 refine Bo ?_
 refine Ku (v:=o.getD (0#64,false)) fun hb' xb nb cb=>?_
 have xab:=xa.trans xb
 have hr2:RdT hb' vL L:=by
  rcases hr with hr|hr
  · exact .inl hr
  · exact .inr (hr.ext xab)
 refine c27 hr2 (by omega) htx fun hc xc=>?_
 rw[Aww,hp]
 unfold Ao1
 rw[Eb,Eh,Av]
 refine Bo ?_
 refine Hj (v:=o.getD (0#64,false)) fun hd xd nd cd=>?_
 have cb2:=(cb.ext xc nb).ext xd (by have:=xc.1;omega)
 have he4:Ky hd:=he.keep ((xab.trans xc).trans xd).1 ((xab.trans xc).trans xd).2
 refine ldV cb2 ?_
 refine ldV cd ?_
 rw[Blj]
 refine Fu (fun _=>?_) (fun e=>nomatch e)
 refine ldU cb2 ?_
 refine ldU cd ?_
 rw[Bde,Gp,Av,Wa]
 refine Fu (fun _=>?_) (fun e=>nomatch e)
 rw[Bde,Gp,Av,Wa]
 refine Fu (fun _=>?_) (fun e=>nomatch e)
 refine Aoe he4 ?_
 rw[Av]
end Go.Den
