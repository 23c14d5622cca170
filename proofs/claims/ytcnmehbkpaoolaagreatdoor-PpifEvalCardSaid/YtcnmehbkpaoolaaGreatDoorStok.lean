/-
 Proof.
-/
import Derived.Test.YtcnmehbkpaoolaaGreatDoorStbs
import Derived.ChangeArms
import Derived.DataElems
import Derived.Test.YtcnmehbkpaoolaaGreatDoorConz
namespace Go.Den
open Go.RowKit Go.ChangeShapes Go.WideShapes
set_option maxRecDepth 100000
theorem At8:PP.cellsOf 4=1:=by kernel_rfl
theorem Ax3:PP.cellsOf 38=3:=by kernel_rfl
theorem Ax2:PP.cellsOf 41=1:=by kernel_rfl
theorem An4:PP.cellsOf 43=8:=by kernel_rfl
theorem Awl{W:World}{a:Addr}{v:Value}(h:W.cell? a=some v):a.spot=none:=by
 unfold World.cell? at h
 split at h
 · split at h
   · cases h
   · rename_i q
     cases e:a.spot with
     |none=>rfl
     |some x=>rw[e] at q;exact absurd rfl q
 · cases h
theorem Avc(a:Addr):a.add 0=a:=by unfold Addr.add;rw[if_pos rfl]
theorem Akh{W:World}{base n:Nat}{a:Addr}{cs:List Value}(h:W.cells? base a n=some cs)(hn:0<n):a.spot=none:=by
 obtain⟨_,hl,hc⟩:=World.cells?_some h
 have h0:=hc 0 hn
 rw[Avc,List.getElem?_eq_getElem (by omega)] at h0
 exact Awl h0
theorem Aal{α:Type}{W:World}{base n:Nat}{a:Addr}{f:List Value→Option α}{y:α}(h:(W.cells? base a n).bind f=some y)(hn:0<n):a.spot=none:=by
 obtain⟨cs,hcs,_⟩:=Option.bind_eq_some_iff.1 h
 exact Akh hcs hn
def Sv(sv:Value):Prop:=sv=.slice none 0 0∨∃a len cap,sv=.slice (some a) len cap∧len≤cap∧(cap=0∨a.spot=none)
theorem Aiq:PP.cellsOf 213=5:=by kernel_rfl
theorem Ao3{H':Type}{enc':TypeId×Value→H'}{W:World}{base:Nat}{held:Bool}{fuel:Nat}{sv:Value}{x:DataW H'×List MemPlace}(h:DataW.trod enc' PP W base (fun _=>true) held fuel 41 [sv]=some x):Sv sv:=by
 rcases DataW.trod_slice Proofs.Tryz.underlying41 h with⟨e,_⟩|⟨a,len,cap,elems,rest,n,_,e,_,_,hle,_,hlen,hel,hsp,_⟩
 · cases e
   exact .inl rfl
 · cases e
   refine .inr ⟨a,len,cap,rfl,hle,?_⟩
   by_cases h0:cap=0
   · exact .inl h0
   right
   by_cases hl:len=0
   · obtain⟨h1,h2⟩:=hsp rfl
     have h3:=h2 0 (by omega)
     subst hl
     rw[List.getElem?_eq_getElem (by omega),Nat.zero_add,Nat.zero_mul,Avc] at h3
     exact Aal h3 (by rw[Aiq];decide)
   · have h3:=hel 0 (by omega)
     rw[List.getElem?_eq_getElem (by omega),Nat.zero_mul,Avc] at h3
     exact Aal h3 (by rw[Aiq];decide)
theorem Ary{H':Type}{enc':TypeId×Value→H'}{W:World}{base:Nat}{held:Bool}{fuel:Nat}{cs:List Value}{x:DataW H'×List MemPlace}(h:DataW.trod enc' PP W base (fun _=>true) held fuel 43 cs=some x):
 ∃(k:Int)(s:ByteArray)(sp:Bool)(fl:ByteArray)(f t:Int)(md:Bool)(sv:Value),cs=[.int .i64 k,.string s,.bool sp,.string fl,.int .i64 f,.int .i64 t,.bool md,sv]∧Sv sv:=by
 obtain⟨xs,n,_,_,hl,hxl,hf⟩:=DataW.trod_struct Proofs.Tryz.underlying43 h
 rw[show PP.cellsOf 43=8 from An4] at hl
 have g:∀i,i<6→∃y,xs[i]? =some y:=fun i hi=>⟨_,List.getElem?_eq_getElem (by rw[hxl];exact hi)⟩
 match cs,hl with
 |[c0,c1,c2,c3,c4,c5,c6,c7],_=>
  obtain⟨y0,e0⟩:=g 0 (by decide)
  obtain⟨y1,e1⟩:=g 1 (by decide)
  obtain⟨y2,e2⟩:=g 2 (by decide)
  obtain⟨y3,e3⟩:=g 3 (by decide)
  obtain⟨y4,e4⟩:=g 4 (by decide)
  obtain⟨y5,e5⟩:=g 5 (by decide)
  have f0:DataW.trod enc' PP W base (fun _=>true) held n 3 (([c0,c1,c2,c3,c4,c5,c6,c7].drop 0).take (PP.cellsOf 3))=xs[0]? :=hf 0 _ rfl
  have f1:DataW.trod enc' PP W base (fun _=>true) held n 9 (([c0,c1,c2,c3,c4,c5,c6,c7].drop 1).take (PP.cellsOf 9))=xs[1]? :=hf 1 _ rfl
  have f2:DataW.trod enc' PP W base (fun _=>true) held n 4 (([c0,c1,c2,c3,c4,c5,c6,c7].drop 2).take (PP.cellsOf 4))=xs[2]? :=hf 2 _ rfl
  have f3:DataW.trod enc' PP W base (fun _=>true) held n 38 (([c0,c1,c2,c3,c4,c5,c6,c7].drop 3).take (PP.cellsOf 38))=xs[3]? :=hf 3 _ rfl
  have f4:DataW.trod enc' PP W base (fun _=>true) held n 4 (([c0,c1,c2,c3,c4,c5,c6,c7].drop 6).take (PP.cellsOf 4))=xs[4]? :=hf 4 _ rfl
  have f5:DataW.trod enc' PP W base (fun _=>true) held n 41 (([c0,c1,c2,c3,c4,c5,c6,c7].drop 7).take (PP.cellsOf 41))=xs[5]? :=hf 5 _ rfl
  rw[Aki,e0] at f0
  rw[At7,e1] at f1
  rw[At8,e2] at f2
  rw[Ax3,e3] at f3
  rw[At8,e4] at f4
  rw[Ax2,e5] at f5
  obtain⟨k,hk,_⟩:=DataW.trod_int Proofs.Tryz.underlying3 f0
  obtain⟨s,hs,_⟩:=DataW.trod_string Proofs.Tryz.underlying9 f1
  obtain⟨sp,hsp,_⟩:=DataW.trod_bool Proofs.Tryz.underlying4 f2
  obtain⟨md,hmd,_⟩:=DataW.trod_bool Proofs.Tryz.underlying4 f4
  obtain⟨zs,m,_,_,hl3,hzl,hg⟩:=DataW.trod_struct Proofs.Tryz.underlying38 f3
  have g':∀i,i<3→∃y,zs[i]? =some y:=fun i hi=>⟨_,List.getElem?_eq_getElem (by rw[hzl];exact hi)⟩
  obtain⟨z0,d0⟩:=g' 0 (by decide)
  obtain⟨z1,d1⟩:=g' 1 (by decide)
  obtain⟨z2,d2⟩:=g' 2 (by decide)
  have q0:DataW.trod enc' PP W base (fun _=>true) held m 9 (([c3,c4,c5].drop 0).take (PP.cellsOf 9))=zs[0]? :=hg 0 _ rfl
  have q1:DataW.trod enc' PP W base (fun _=>true) held m 3 (([c3,c4,c5].drop 1).take (PP.cellsOf 3))=zs[1]? :=hg 1 _ rfl
  have q2:DataW.trod enc' PP W base (fun _=>true) held m 3 (([c3,c4,c5].drop 2).take (PP.cellsOf 3))=zs[2]? :=hg 2 _ rfl
  rw[At7,d0] at q0
  rw[Aki,d1] at q1
  rw[Aki,d2] at q2
  obtain⟨fl,hfl,_⟩:=DataW.trod_string Proofs.Tryz.underlying9 q0
  obtain⟨f,hf1,_⟩:=DataW.trod_int Proofs.Tryz.underlying3 q1
  obtain⟨t,ht1,_⟩:=DataW.trod_int Proofs.Tryz.underlying3 q2
  cases hk;cases hs;cases hsp;cases hmd;cases hfl;cases hf1;cases ht1
  exact⟨_,_,_,_,_,_,_,_,rfl,Ao3 f5⟩
end Go.Den
noncomputable section
namespace Go.Den
open Go.RowKit Go.ChangeShapes Go.WideShapes
set_option maxRecDepth 100000
structure TV where
 k:Int
 s:ByteArray
 sp:Bool
 fl:ByteArray
 f:Int
 t:Int
 md:Bool
 sv:Value
def TV.vals(x:TV):List Value:=[.int .i64 x.k,.string x.s,.bool x.sp,.string x.fl,.int .i64 x.f,.int .i64 x.t,.bool x.md,x.sv]
theorem Ao2{H':Type}{enc':TypeId×Value→H'}{W:World}{base:Nat}{held:Bool}{fuel:Nat}{cs:List Value}{x:DataW H'×List MemPlace}(h:DataW.trod enc' PP W base (fun _=>true) held fuel 22 cs=some x):
 cs=[.slice none 0 0]∨∃a len cap,∃T:Nat→TV,cs=[.slice (some a) len cap]∧len≤cap∧∀i,i<cap→(∀j,j<8→W.cell? (a.add (i*8+j))=(T i).vals[j]?)∧Sv (T i).sv:=by
 rcases DataW.trod_slice Proofs.Tryz.underlying22 h with⟨e,_⟩|⟨a,len,cap,elems,rest,n,_,rfl,_,_,hle,_,hlen,hel,hsp,_⟩
 · exact .inl e
 right
 obtain⟨hr1,hr2⟩:=hsp rfl
 have each:∀i,i<cap→∃tv:TV,(∀j,j<8→W.cell? (a.add (i*8+j))=tv.vals[j]?)∧Sv tv.sv:=fun i hi=>by
  have h1:∃y,(W.cells? base (a.add (i*PP.cellsOf 43)) (PP.cellsOf 43)).bind (DataW.trod enc' PP W base (fun _=>true) held n 43)=some y:=by
   by_cases hl:i<len
   · exact⟨_,(hel i hl).trans (List.getElem?_eq_getElem (by omega))⟩
   · have:=hr2 (i-len) (by omega)
     rw[show len+(i-len)=i by omega] at this
     exact⟨_,this.trans (List.getElem?_eq_getElem (by omega))⟩
  obtain⟨y,h1⟩:=h1
  rw[An4,Option.bind_eq_some_iff] at h1
  obtain⟨cs',hcs,ht⟩:=h1
  obtain⟨k,s,sp,fl,f,t,md,sv,rfl,hs⟩:=Ary ht
  refine⟨⟨k,s,sp,fl,f,t,md,sv⟩,fun j hj=>?_,hs⟩
  have:=(World.cells?_some hcs).2.2 j hj
  rw[Addr.add_add] at this;exact this
 refine⟨a,len,cap,fun i=>if hi:i<cap then(each i hi).choose else⟨0,.empty,false,.empty,0,0,false,.slice none 0 0⟩,rfl,hle,fun i hi=>?_⟩
 simp only[dif_pos hi]
 exact(each i hi).choose_spec
def Acx(i:Nat)(sv:Value):AV:=match sv with
 |.slice (some _) n _=>.slice (pOf (14+i)) 0 n 1 false
 |_=>.Cy
def Tu(sv:Value):Loc:=match sv with
 |.slice (some a) _ cap=>⟨a.block,a.off,a.off+cap⟩
 |_=>⟨0,0,0⟩
def Yf(i:Nat)(x:TV):En:=⟨x.k,x.s.data.toList,x.sp,x.fl.data.toList,x.f,x.t,x.md,Acx i x.sv⟩
theorem Awn{i:Nat}{sv:Value}(h:Sv sv):Sl (Acx i sv):=by
 rcases h with rfl|⟨a,len,cap,rfl,_⟩
 · exact .inl rfl
 · exact .inr ⟨_,_,_,_,_,rfl⟩
theorem Aqr{i:Nat}{sv:Value}(h:Sv sv):(Acx i sv).one=true:=by
 rcases h with rfl|⟨a,len,cap,rfl,_⟩<;>rfl
theorem Awm{i:Nat}{sv:Value}{μ:Mu}(h:Sv sv)(hm:μ (pOf (14+i))=some (Tu sv)):VR μ (Acx i sv) sv:=by
 rcases h with rfl|⟨a,len,cap,rfl,hle,hs⟩
 · rfl
 · refine⟨a,cap,rfl,hle,⟨fun e=>(Bool.false_ne_true e).elim,_,hm⟩,?_⟩
   rcases hs with hs|hs
   · exact .inl hs
   · refine .inr ⟨_,hm,?_,?_⟩
     · show a=⟨a.block,a.off+0,none⟩
       rw[←hs];rfl
     · show a.off+0+cap*1≤a.off+cap
       omega
def Vc(T:Nat→TV)(p:Nat):AV:=(Yf (p / 8) (T (p / 8))).cells.getD (p%8) .undef
theorem Ajh{H':Type}{enc':TypeId×Value→H'}{W:World}{base b0:Nat}{held:Bool}{r:Reach}{v0:Value}{d:DataW H'}{ps:List MemPlace}(hL:laidMetH PP Ap3 W)(hval:Value.okWide PP W r b0 22 v0)(hd:DataW.Trod enc' PP W base (fun _=>true) held 22 v0 d ps):
 ∃(l:List En)(v:AV)(L:List Loc)(obs:List (Ob FT)),Sim (mu0 L) (Lf obs) W∧Gy (mu0 L) G∧obs.all (fun o=>!o.own)=true∧VR (mu0 L) v v0∧RdT (Lf obs) v l∧(∀x∈l,Sl x.sites)∧Ky (Lf obs):=by
 obtain⟨aE,key⟩:=Asn hL
 obtain⟨a0,len0,cap0,rfl⟩:=okWide_slice Proofs.Tryz.underlying22 hval
 obtain⟨fuel,hf⟩:=hd
 rcases Ao2 hf with e|⟨a,len,cap,T,e,hle,hT⟩
 · have e:Value.slice a0 len0 cap0=.slice none 0 0:=by simpa[Value.cells] using e
   rw[e]
   refine⟨[],.Cy,Wk aE,Aa1,Yo rfl rfl fun i o c h1 h2=>key _ rfl i o c h1 h2,Tc fun g hg=>?_,rfl,rfl,.inl ⟨rfl,rfl⟩,fun x hx=>absurd hx (List.not_mem_nil),Ab7 rfl rfl (Nat.le_refl _)⟩
   have hg:g<12:=hg
   match g,hg with
   |0,_|1,_|2,_|3,_|4,_|5,_|6,_|7,_|8,_|9,_|10,_|11,_=>exact⟨_,rfl,rfl,rfl⟩
 · have e:Value.slice a0 len0 cap0=.slice (some a) len cap:=by simpa[Value.cells] using e
   rw[e] at hval ⊢
   have hval:len≤cap∧(cap:Int)≤IntKind.i64.max∧W.has PP r b0 a 43 cap:=by
    simpa[Value.okWide,Cell.okWide,Cell.ok,Proofs.Tryz.underlying22] using hval
   obtain⟨_,_,_,hspot,row,n,hshape,_⟩:=hval
   obtain⟨cs,fz,hblk,rfl⟩:∃cs fz,W.heap[a.block]? =some (.cells cs row fz)∧cs.size=n:=by
    unfold World.shape? at hshape
    cases hb:W.heap[a.block]? with
    |none=>rw[hb] at hshape;cases hshape
    |some o=>
     rw[hb] at hshape
     cases o<;>simp at hshape
     rename_i c el f
     obtain⟨rfl,rfl⟩:=hshape
     exact⟨c,f,rfl,rfl⟩
   have hcs:∀i j,i<cap→j<8→cs[a.off+(i*8+j)]? =(T i).vals[j]? :=by
    intro i j hi hj
    have h:=(hT i hi).1 j hj
    unfold World.cell? Addr.add at h
    by_cases h0:i*8+j=0
    · rw[if_pos h0,hblk] at h
      simp[hspot] at h
      rw[h0,Nat.add_zero,h]
    · rw[if_neg h0] at h
      simp only[hblk] at h
      simpa using h
   let off:Nat:=if cap=0 then 0 else a.off
   have hoff:off+cap*8≤cs.size:=by
    by_cases h0:cap=0
    · show(if cap=0 then 0 else a.off)+cap*8≤_
      rw[if_pos h0];omega
    · show(if cap=0 then 0 else a.off)+cap*8≤_
      rw[if_neg h0]
      have h1:=hcs (cap-1) 7 (by omega) (by decide)
      have h2:cs[a.off+((cap-1)*8+7)]? =some (T (cap-1)).sv:=h1
      have:=(Array.getElem?_eq_some_iff.1 h2).1
      omega
   have ho13:Aa1.length=13:=rfl
   have hl13:(Wk aE).length=13:=rfl
   let S1:List Loc:=(List.range len).map fun i=>Tu (T i).sv
   have hS1:S1.length=len:=by show(List.map _ _).length=_;rw[List.length_map,List.length_range]
   let LL:List Loc:=Wk aE++⟨a.block,off,cs.size⟩::S1
   let OO:List (Ob FT):=Aa1++Ob.ext (Vc T) (len*8)::List.replicate len (Ob.dead:Ob FT)
   have hLL:∀i,i<len→LL[14+i]? =some (Tu (T i).sv):=fun i hi=>by
    show(Wk aE++⟨a.block,off,cs.size⟩::S1)[14+i]? =_
    rw[List.getElem?_append_right (by rw[hl13];omega),hl13,show 14+i-13=i+1 by omega,List.getElem?_cons_succ]
    show((List.range len).map fun i=>Tu (T i).sv)[i]? =_
    rw[List.getElem?_map,List.getElem?_range hi];rfl
   have hL13:LL[13]? =some ⟨a.block,off,cs.size⟩:=by
    show(Wk aE++⟨a.block,off,cs.size⟩::S1)[13]? =_
    rw[List.getElem?_append_right (by rw[hl13];exact Nat.le_refl _),hl13];rfl
   have hOlen:OO.length=14+len:=by
    show(Aa1++Ob.ext (Vc T) (len*8)::List.replicate len (Ob.dead:Ob FT)).length=_
    rw[List.length_append,List.length_cons,List.length_replicate,ho13];omega
   have hO13:OO[13]? =some (.ext (Vc T) (len*8)):=by
    show(Aa1++Ob.ext (Vc T) (len*8)::List.replicate len (Ob.dead:Ob FT))[13]? =_
    rw[List.getElem?_append_right (by rw[ho13];exact Nat.le_refl _),ho13];rfl
   have hOn:OO.all (fun o=>!o.own)=true:=by
    show(Aa1++Ob.ext (Vc T) (len*8)::List.replicate len (Ob.dead:Ob FT)).all (fun o=>!o.own)=true
    have hd:(List.replicate len (Ob.dead:Ob FT)).all (fun o=>!o.own)=true:=List.all_eq_true.2 fun x hx=>by rw[List.eq_of_mem_replicate hx];rfl
    rw[List.all_append,List.all_cons,hd];rfl
   have hmu:∀i,i<len→mu0 LL (pOf (14+i))=some (Tu (T i).sv):=fun i hi=>by
    show LL[(pOf (14+i)).nat]? =_
    rw[Dw];exact hLL i hi
   refine⟨(List.range len).map fun i=>Yf i (T i),.slice (pOf 13) 0 len 8 false,LL,OO,?_,?_,hOn,?_,?_,?_,?_⟩
   · refine Yo ?_ hOn fun i o c h1 h2=>?_
     · rw[hOlen]
       show _=(Wk aE++⟨a.block,off,cs.size⟩::S1).length
       rw[List.length_append,List.length_cons,hS1,hl13];omega
     · by_cases hi:i<13
       · have h1:(Aa1++Ob.ext (Vc T) (len*8)::List.replicate len (Ob.dead:Ob FT))[i]? =some o:=h1
         have h2:(Wk aE++⟨a.block,off,cs.size⟩::S1)[i]? =some c:=h2
         rw[List.getElem?_append_left (by rw[ho13];exact hi)] at h1
         rw[List.getElem?_append_left (by rw[hl13];exact hi)] at h2
         exact key LL rfl i o c h1 h2
       · by_cases hi13:i=13
         · subst hi13
           rw[hO13] at h1
           rw[hL13] at h2
           cases h1;cases h2
           refine⟨cs,row,fz,hblk,rfl,?_,fun p hp=>?_⟩
           · show off+len*8≤cs.size
             omega
           · have hcap:¬cap=0:=by omega
             have ho:off=a.off:=if_neg hcap
             have hi:p / 8<len:=by omega
             have hj:p%8<8:=Nat.mod_lt _ (by decide)
             have hpe:off+p=a.off+(p / 8*8+p%8):=by rw[ho];omega
             have h3:=hcs (p / 8) (p%8) (by omega) hj
             have hs:=(hT (p / 8) (by omega)).2
             have hm:=hmu (p / 8) hi
             show∃v,cs[off+p]? =some v∧VR (mu0 LL) ((Yf (p / 8) (T (p / 8))).cells.getD (p%8) .undef) v∧((Yf (p / 8) (T (p / 8))).cells.getD (p%8) .undef).one=true
             rw[hpe,h3]
             generalize p / 8=i at hs hm
             generalize p%8=j at hj
             match j,hj with
             |0,_=>exact⟨_,rfl,rfl,rfl⟩
             |1,_=>exact⟨_,rfl,⟨_,rfl,rfl,rfl⟩,rfl⟩
             |2,_=>exact⟨_,rfl,rfl,rfl⟩
             |3,_=>exact⟨_,rfl,⟨_,rfl,rfl,rfl⟩,rfl⟩
             |4,_=>exact⟨_,rfl,rfl,rfl⟩
             |5,_=>exact⟨_,rfl,rfl,rfl⟩
             |6,_=>exact⟨_,rfl,rfl,rfl⟩
             |7,_=>exact⟨_,rfl,Awm hs hm,Aqr hs⟩
         · have h1:(Aa1++Ob.ext (Vc T) (len*8)::List.replicate len (Ob.dead:Ob FT))[i]? =some o:=h1
           rw[List.getElem?_append_right (by rw[ho13];omega),ho13,show i-13=(i-14)+1 by omega,List.getElem?_cons_succ] at h1
           have:=List.eq_of_mem_replicate (List.mem_of_getElem? h1)
           rw[this];trivial
   · refine Tc fun g hg=>?_
     have hg:g<12:=hg
     match g,hg with
     |0,_|1,_|2,_|3,_|4,_|5,_|6,_|7,_|8,_|9,_|10,_|11,_=>exact⟨_,rfl,rfl,rfl⟩
   · have hm:mu0 LL (pOf 13)=some ⟨a.block,off,cs.size⟩:=by
      show LL[(pOf 13).nat]? =_
      rw[Dw];exact hL13
     refine⟨a,cap,rfl,hle,⟨fun e=>(Bool.false_ne_true e).elim,_,hm⟩,?_⟩
     by_cases h0:cap=0
     · exact .inl h0
     · right
       have ho:off=a.off:=if_neg h0
       refine⟨_,hm,?_,?_⟩
       · show a=⟨a.block,off+0,none⟩
         rw[ho,←hspot];rfl
       · show off+0+cap*8≤cs.size
         omega
   · refine .inr ⟨pOf 13,0,Vc T,len*8,false,by simp,?_,.inr ?_,by simp,fun i hi=>?_⟩
     · show(pOf 13).nat<(pOf OO.length).nat
       rw[Dw,Dw,hOlen];omega
     · rw[Kw,Dw,List.getD_eq_getElem?_getD,hO13];rfl
     · have hi':i<len:=by simpa using hi
       have e2:(((List.range len).map fun i=>Yf i (T i)).map En.cells)[i]=(Yf i (T i)).cells:=by simp
       rw[e2]
       refine⟨rfl,fun j hj=>?_⟩
       have hj:j<8:=hj
       unfold Vc
       rw[show(0+i*8+j) / 8=i by omega,show(0+i*8+j)%8=j by omega,List.getD_eq_getElem?_getD,List.getElem?_eq_getElem (show j<(Yf i (T i)).cells.length from hj)];rfl
   · intro x hx
     obtain⟨i,hi,rfl⟩:=List.mem_map.1 hx
     exact Awn (hT i (by have:=List.mem_range.1 hi;omega)).2
   · refine Ab7 ?_ ?_ (by rw[hOlen];omega)
     · rfl
     · rfl
end Go.Den
