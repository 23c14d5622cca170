/-
  A part of the proof: how a call begins that is handed files, tokens and a place.
-/
import Derived.Test.YtpjkiikmjddpiaaGreatDoorXts
namespace Go.Den
open Go.RowKit Go.ChangeShapes Go.WideShapes
set_option maxRecDepth 100000
theorem cells3:PP.cellsOf 3=1:=by kernel_rfl
theorem cells4:PP.cellsOf 4=1:=by kernel_rfl
theorem cells9:PP.cellsOf 9=1:=by kernel_rfl
theorem cellsSp:PP.cellsOf 25=3:=by kernel_rfl
theorem cellsSs:PP.cellsOf 36=1:=by kernel_rfl
theorem cellsSt:PP.cellsOf 41=5:=by kernel_rfl
theorem cellsTk:PP.cellsOf 38=8:=by kernel_rfl
theorem cellsFl:PP.cellsOf 53=2:=by kernel_rfl
section
variable{H':Type}{enc':TypeId×Value→H'}{W:World}{base:Nat}{held:Bool}{fuel:Nat}
theorem open_span{cs:List Value}{x:DataW H'×List MemPlace}(h:DataW.trod enc' PP W base (fun _=>true) held fuel 25 cs=some x):∃(fl:ByteArray)(f t:Int),cs=[.string fl,.int .i64 f,.int .i64 t]:=by
  obtain⟨zs,m,_,_,hl3,hzl,hg⟩:=DataW.trod_struct Proofs.Tryz.underlying25 h
  rw[show PP.cellsOf 25=3 from cellsSp] at hl3
  match cs,hl3 with
  |[c3,c4,c5],_=>
    have g':∀i,i<3→∃y,zs[i]? =some y:=fun i hi=>⟨_,List.getElem?_eq_getElem (by rw[hzl];exact hi)⟩
    obtain⟨z0,d0⟩:=g' 0 (by decide)
    obtain⟨z1,d1⟩:=g' 1 (by decide)
    obtain⟨z2,d2⟩:=g' 2 (by decide)
    have q0:DataW.trod enc' PP W base (fun _=>true) held m 9 (([c3,c4,c5].drop 0).take (PP.cellsOf 9))=zs[0]? :=hg 0 _ rfl
    have q1:DataW.trod enc' PP W base (fun _=>true) held m 3 (([c3,c4,c5].drop 1).take (PP.cellsOf 3))=zs[1]? :=hg 1 _ rfl
    have q2:DataW.trod enc' PP W base (fun _=>true) held m 3 (([c3,c4,c5].drop 2).take (PP.cellsOf 3))=zs[2]? :=hg 2 _ rfl
    rw[cells9,d0] at q0
    rw[cells3,d1] at q1
    rw[cells3,d2] at q2
    obtain⟨fl,hfl,_⟩:=DataW.trod_string Proofs.Tryz.underlying9 q0
    obtain⟨f,hf1,_⟩:=DataW.trod_int Proofs.Tryz.underlying3 q1
    obtain⟨t,ht1,_⟩:=DataW.trod_int Proofs.Tryz.underlying3 q2
    cases hfl;cases hf1;cases ht1
    exact⟨_,_,_,rfl⟩
/-- a site's values -/
structure SV where
  m:ByteArray
  fl:ByteArray
  f:Int
  t:Int
  md:Bool
def SV.vals(x:SV):List Value:=[.string x.m,.string x.fl,.int .i64 x.f,.int .i64 x.t,.bool x.md]
def SV.sk(x:SV):SkA:=⟨x.m.data.toList,x.fl.data.toList,x.f,x.t,x.md⟩
theorem open_site{cs:List Value}{x:DataW H'×List MemPlace}(h:DataW.trod enc' PP W base (fun _=>true) held fuel 41 cs=some x):∃y:SV,cs=y.vals:=by
  obtain⟨xs,n,_,_,hl,hxl,hf⟩:=DataW.trod_struct Proofs.Tryz.underlying41 h
  rw[show PP.cellsOf 41=5 from cellsSt] at hl
  match cs,hl with
  |[c0,c1,c2,c3,c4],_=>
    have g:∀i,i<3→∃y,xs[i]? =some y:=fun i hi=>⟨_,List.getElem?_eq_getElem (by rw[hxl];exact hi)⟩
    obtain⟨y0,e0⟩:=g 0 (by decide)
    obtain⟨y1,e1⟩:=g 1 (by decide)
    obtain⟨y2,e2⟩:=g 2 (by decide)
    have f0:DataW.trod enc' PP W base (fun _=>true) held n 9 (([c0,c1,c2,c3,c4].drop 0).take (PP.cellsOf 9))=xs[0]? :=hf 0 _ rfl
    have f1:DataW.trod enc' PP W base (fun _=>true) held n 25 (([c0,c1,c2,c3,c4].drop 1).take (PP.cellsOf 25))=xs[1]? :=hf 1 _ rfl
    have f2:DataW.trod enc' PP W base (fun _=>true) held n 4 (([c0,c1,c2,c3,c4].drop 4).take (PP.cellsOf 4))=xs[2]? :=hf 2 _ rfl
    rw[cells9,e0] at f0
    rw[cellsSp,e1] at f1
    rw[cells4,e2] at f2
    obtain⟨s,hs,_⟩:=DataW.trod_string Proofs.Tryz.underlying9 f0
    obtain⟨fl,f,t,hsp⟩:=open_span f1
    obtain⟨md,hmd,_⟩:=DataW.trod_bool Proofs.Tryz.underlying4 f2
    cases hs;cases hsp;cases hmd
    exact⟨⟨_,_,_,_,_⟩,rfl⟩
/-- a slice of structs: none, or somewhere -/
def Slv(W:World)(sz:Nat)(V:Nat→List Value)(v:Value):Prop:=v=.slice none 0 0∨∃a len cap,v=.slice (some a) len cap∧len≤cap∧∀i<cap,∀j<sz,W.cell? (a.add (i*sz+j))=(V i)[j]?
theorem open_slice{α:Type}{t e:TypeId}{sz:Nat}{vals:α→List Value}{Q:α→Prop}(d:α)(hd:Q d)(ht:PP.underlying t=some (.slice e))(hsz:PP.cellsOf e=sz)(ho:∀{n:Nat}{cs:List Value}{x:DataW H'×List MemPlace},DataW.trod enc' PP W base (fun _=>true) held n e cs=some x→∃y:α,cs=vals y∧Q y){sv:Value}{x:DataW H'×List MemPlace}(h:DataW.trod enc' PP W base (fun _=>true) held fuel t [sv]=some x):
    ∃T:Nat→α,Slv W sz (fun i=>vals (T i)) sv∧∀i,Q (T i):=by
  rcases DataW.trod_slice ht h with⟨e,_⟩|⟨a,len,cap,elems,rest,n,_,e',_,_,hle,_,hlen,hel,hsp,_⟩
  · cases e
    exact⟨fun _=>d,.inl rfl,fun _=>hd⟩
  cases e'
  obtain⟨hr1,hr2⟩:=hsp rfl
  have each:∀i,i<cap→∃tv:α,(∀j,j<sz→W.cell? (a.add (i*sz+j))=(vals tv)[j]?)∧Q tv:=fun i hi=>by
    have h1:∃y,(W.cells? base (a.add (i*PP.cellsOf e)) (PP.cellsOf e)).bind (DataW.trod enc' PP W base (fun _=>true) held n e)=some y:=by
      by_cases hl:i<len
      · exact⟨_,(hel i hl).trans (List.getElem?_eq_getElem (by omega))⟩
      · have:=hr2 (i-len) (by omega)
        rw[show len+(i-len)=i by omega] at this
        exact⟨_,this.trans (List.getElem?_eq_getElem (by omega))⟩
    obtain⟨y,h1⟩:=h1
    rw[hsz,Option.bind_eq_some_iff] at h1
    obtain⟨cs',hcs,ht⟩:=h1
    obtain⟨tv,rfl,hq⟩:=ho ht
    refine⟨tv,fun j hj=>?_,hq⟩
    have:=(World.cells?_some hcs).2.2 j hj
    rw[Addr.add_add] at this;exact this
  refine⟨fun i=>if hi:i<cap then(each i hi).choose else d,.inr ⟨a,len,cap,rfl,hle,fun i hi=>?_⟩,fun i=>?_⟩
  · simp only[dif_pos hi]
    exact(each i hi).choose_spec.1
  · by_cases hi:i<cap
    · simp only[dif_pos hi]
      exact(each i hi).choose_spec.2
    · simp only[dif_neg hi]
      exact hd
def siteOk(W:World)(sv:Value):Prop:=∃T:Nat→SV,Slv W 5 (fun i=>(T i).vals) sv
theorem open_sites{sv:Value}{x:DataW H'×List MemPlace}(h:DataW.trod enc' PP W base (fun _=>true) held fuel 36 [sv]=some x):siteOk W sv:=by
  obtain⟨T,h,_⟩:=open_slice (vals:=SV.vals) (Q:=fun _=>True) ⟨.empty,.empty,0,0,false⟩ trivial Proofs.Tryz.underlying36 cellsSt (fun h=>by
    obtain⟨y,e⟩:=open_site h
    exact⟨y,e,trivial⟩) h
  exact⟨T,h⟩
/-- a token's values -/
structure TV where
  k:Int
  s:ByteArray
  sp:Bool
  fl:ByteArray
  f:Int
  t:Int
  md:Bool
  sv:Value
def TV.vals(x:TV):List Value:=[.int .i64 x.k,.string x.s,.bool x.sp,.string x.fl,.int .i64 x.f,.int .i64 x.t,.bool x.md,x.sv]
theorem open_tok{cs:List Value}{x:DataW H'×List MemPlace}(h:DataW.trod enc' PP W base (fun _=>true) held fuel 38 cs=some x):∃y:TV,cs=y.vals∧siteOk W y.sv:=by
  obtain⟨xs,n,_,_,hl,hxl,hf⟩:=DataW.trod_struct Proofs.Tryz.underlying38 h
  rw[show PP.cellsOf 38=8 from cellsTk] at hl
  have g:∀i,i<6→∃y,xs[i]? =some y:=fun i hi=>⟨_,List.getElem?_eq_getElem (by rw[hxl];exact hi)⟩
  match cs,hl with
  |[c0,c1,c2,c3,c4,c5,c6,c7],_=>
    obtain⟨y0,e0⟩:=g 0 (by decide)
    obtain⟨y1,e1⟩:=g 1 (by decide)
    obtain⟨y2,e2⟩:=g 2 (by decide)
    obtain⟨y3,e3⟩:=g 3 (by decide)
    obtain⟨y4,e4⟩:=g 4 (by decide)
    obtain⟨y5,e5⟩:=g 5 (by decide)
    have f0:DataW.trod enc' PP W base (fun _=>true) held n 3 (([c0,c1,c2,c3,c4,c5,c6,c7].drop 0).take (PP.cellsOf 3))=xs[0]? :=hf 0 _ rfl
    have f1:DataW.trod enc' PP W base (fun _=>true) held n 9 (([c0,c1,c2,c3,c4,c5,c6,c7].drop 1).take (PP.cellsOf 9))=xs[1]? :=hf 1 _ rfl
    have f2:DataW.trod enc' PP W base (fun _=>true) held n 4 (([c0,c1,c2,c3,c4,c5,c6,c7].drop 2).take (PP.cellsOf 4))=xs[2]? :=hf 2 _ rfl
    have f3:DataW.trod enc' PP W base (fun _=>true) held n 25 (([c0,c1,c2,c3,c4,c5,c6,c7].drop 3).take (PP.cellsOf 25))=xs[3]? :=hf 3 _ rfl
    have f4:DataW.trod enc' PP W base (fun _=>true) held n 4 (([c0,c1,c2,c3,c4,c5,c6,c7].drop 6).take (PP.cellsOf 4))=xs[4]? :=hf 4 _ rfl
    have f5:DataW.trod enc' PP W base (fun _=>true) held n 36 (([c0,c1,c2,c3,c4,c5,c6,c7].drop 7).take (PP.cellsOf 36))=xs[5]? :=hf 5 _ rfl
    rw[cells3,e0] at f0
    rw[cells9,e1] at f1
    rw[cells4,e2] at f2
    rw[cellsSp,e3] at f3
    rw[cells4,e4] at f4
    rw[cellsSs,e5] at f5
    obtain⟨k,hk,_⟩:=DataW.trod_int Proofs.Tryz.underlying3 f0
    obtain⟨s,hs,_⟩:=DataW.trod_string Proofs.Tryz.underlying9 f1
    obtain⟨sp,hsp,_⟩:=DataW.trod_bool Proofs.Tryz.underlying4 f2
    obtain⟨md,hmd,_⟩:=DataW.trod_bool Proofs.Tryz.underlying4 f4
    obtain⟨fl,f,t,hspan⟩:=open_span f3
    cases hk;cases hs;cases hsp;cases hmd;cases hspan
    exact⟨⟨_,_,_,_,_,_,_,_⟩,rfl,open_sites f5⟩
/-- a file's values -/
structure FV where
  p:ByteArray
  s:ByteArray
def FV.vals(x:FV):List Value:=[.string x.p,.string x.s]
theorem open_file{cs:List Value}{x:DataW H'×List MemPlace}(h:DataW.trod enc' PP W base (fun _=>true) held fuel 53 cs=some x):∃y:FV,cs=y.vals:=by
  obtain⟨xs,n,_,_,hl,hxl,hf⟩:=DataW.trod_struct Proofs.Tryz.underlying53 h
  rw[show PP.cellsOf 53=2 from cellsFl] at hl
  match cs,hl with
  |[c0,c1],_=>
    have g:∀i,i<2→∃y,xs[i]? =some y:=fun i hi=>⟨_,List.getElem?_eq_getElem (by rw[hxl];exact hi)⟩
    obtain⟨y0,e0⟩:=g 0 (by decide)
    obtain⟨y1,e1⟩:=g 1 (by decide)
    have f0:DataW.trod enc' PP W base (fun _=>true) held n 9 (([c0,c1].drop 0).take (PP.cellsOf 9))=xs[0]? :=hf 0 _ rfl
    have f1:DataW.trod enc' PP W base (fun _=>true) held n 9 (([c0,c1].drop 1).take (PP.cellsOf 9))=xs[1]? :=hf 1 _ rfl
    rw[cells9,e0] at f0
    rw[cells9,e1] at f1
    obtain⟨s,hs,_⟩:=DataW.trod_string Proofs.Tryz.underlying9 f0
    obtain⟨t,ht,_⟩:=DataW.trod_string Proofs.Tryz.underlying9 f1
    cases hs;cases ht
    exact⟨⟨_,_⟩,rfl⟩
/-! ### A part of the start -/
structure Part(W:World)(sz i:Nat)(v:Value)(V:Nat→List Value)(C:Nat→List AV)(x:Xt)(av:AV)(len:Nat):Prop where
  own:x.o.own=false
  ok:∀(X:List Xt)(_:X[i]? =some x),(∀k<len,∀j<sz,∃w,(V k)[j]? =some w∧VR (mu0 (xlocs X)) ((C k).getD j .undef) w∧((C k).getD j .undef).one=true)→ObR (mu0 (xlocs X)) W x.loc x.o∧SlE sz (initH (xobs X)) av ((List.range len).map C)
  vr:∀(X:List Xt)(_:X[i]? =some x),VR (mu0 (xlocs X)) av v
  one:av.one=true
theorem part_of{W:World}{sz:Nat}(i:Nat){v:Value}{V:Nat→List Value}(hsz:0<sz)(hV:∀k,(V k).length=sz)(hv:Slv W sz V v){C:Nat→List AV}(hC:∀k,(C k).length=sz):∃x av len,Part W sz i v V C x av len:=by
  rcases hv with rfl|⟨a,len,cap,rfl,hl,hc⟩
  · exact⟨⟨⟨0,0,0⟩,.dead⟩,.nils,0,⟨rfl,fun X hX hh=>⟨trivial,.inl ⟨rfl,.inl rfl⟩⟩,fun X hX=>rfl,rfl⟩⟩
  · by_cases h0:cap=0
    · refine⟨⟨⟨0,0,0⟩,.dead⟩,.slice (pOf (G+i)) 0 0 sz false,0,⟨rfl,fun X hX hh=>⟨trivial,.inl ⟨rfl,.inr ⟨_,rfl⟩⟩⟩,fun X hX=>?_,rfl⟩⟩
      obtain⟨hi,e⟩:=List.getElem?_eq_some_iff.1 hX
      exact vr_none h0 hl (xmu hi)
    · obtain⟨size,b⟩:=blk_of hsz (fun k _=>hV k) hc (by omega)
      refine⟨⟨⟨a.block,a.off,size⟩,.ext (xcell sz C) (len*sz)⟩,.slice (pOf (G+i)) 0 len sz false,len,⟨rfl,fun X hX hh=>?_,fun X hX=>?_,rfl⟩⟩
      · obtain⟨hi,e⟩:=List.getElem?_eq_some_iff.1 hX
        refine⟨b.ob hsz hl hh,.inr (rd_ext ?_ (xnat hi) hsz fun k _=>hC k)⟩
        rw[xat hi,e]
      · obtain⟨hi,e⟩:=List.getElem?_eq_some_iff.1 hX
        refine b.vr hl ?_
        rw[xmu hi,e]
noncomputable def FV.fl (x:FV):Fl:=(x.p.data.toList,x.s.data.toList)
theorem VR_i(μ:Mu)(n:Int):VR μ (.int .i64 n) (.int .i64 n):=rfl
theorem VR_b(μ:Mu)(b:Bool):VR μ (.bool b) (.bool b):=rfl
theorem fv_cells(μ:Mu)(x:FV):∀j<2,∃w,x.vals[j]? =some w∧VR μ ([S x.p.data.toList,S x.s.data.toList].getD j .undef) w∧([S x.p.data.toList,S x.s.data.toList].getD j .undef).one=true
  |0,_=>⟨_,rfl,VR_S _ _,rfl⟩
  |1,_=>⟨_,rfl,VR_S _ _,rfl⟩
theorem sv_cells(μ:Mu)(x:SV):∀j<5,∃w,x.vals[j]? =some w∧VR μ (x.sk.cs.getD j .undef) w∧(x.sk.cs.getD j .undef).one=true
  |0,_=>⟨_,rfl,VR_S _ _,rfl⟩
  |1,_=>⟨_,rfl,VR_S _ _,rfl⟩
  |2,_=>⟨_,rfl,VR_i _ _,rfl⟩
  |3,_=>⟨_,rfl,VR_i _ _,rfl⟩
  |4,_=>⟨_,rfl,VR_b _ _,rfl⟩
noncomputable def TV.tk (x:TV) (av:AV) (st:List SkA):TkA:=⟨x.k,x.s.data.toList,x.sp,x.fl.data.toList,x.f,x.t,x.md,av,st⟩
theorem tv_cells{μ:Mu}{x:TV}{av:AV}{st:List SkA}(h:VR μ av x.sv)(h1:av.one=true):∀j<8,∃w,x.vals[j]? =some w∧VR μ ((x.tk av st).cs.getD j .undef) w∧((x.tk av st).cs.getD j .undef).one=true
  |0,_=>⟨_,rfl,VR_i _ _,rfl⟩
  |1,_=>⟨_,rfl,VR_S _ _,rfl⟩
  |2,_=>⟨_,rfl,VR_b _ _,rfl⟩
  |3,_=>⟨_,rfl,VR_S _ _,rfl⟩
  |4,_=>⟨_,rfl,VR_i _ _,rfl⟩
  |5,_=>⟨_,rfl,VR_i _ _,rfl⟩
  |6,_=>⟨_,rfl,VR_b _ _,rfl⟩
  |7,_=>⟨_,rfl,h,h1⟩
theorem trod_one{t:TypeId}{v:Value}{d:DataW H'}{ps:List MemPlace}{r:Reach}{b0:Nat}{e:TypeId}(ht:PP.underlying t=some (.slice e))(hval:Value.okWide PP W r b0 t v)(hd:DataW.Trod enc' PP W base (fun _=>true) held t v d ps):∃n x,DataW.trod enc' PP W base (fun _=>true) held n t [v]=some x:=by
  obtain⟨a,l,c,rfl⟩:=okWide_slice ht hval
  obtain⟨fuel,hf⟩:=hd
  exact⟨fuel,_,hf⟩
theorem start_ask{v0 v1 v2:Value}{d0 d1 d2:DataW H'}{p0 p1 p2:List MemPlace}{r:Reach}{b0 b1 b2:Nat}
    (w0:Value.okWide PP W r b0 22 v0) (w1:Value.okWide PP W r b1 23 v1) (w2:Value.okWide PP W r b2 25 v2)
    (h0:DataW.Trod enc' PP W base (fun _=>true) held 22 v0 d0 p0) (h1:DataW.Trod enc' PP W base (fun _=>true) held 23 v1 d1 p1) (h2:DataW.Trod enc' PP W base (fun _=>true) held 25 v2 d2 p2):
    ∃(lf:List Fl)(tl:List TkA)(A:List UInt8)(F T:Int)(a0 a1:AV)(X:List Xt),Sim (mu0 (xlocs X)) (initH (xobs X)) W∧Globs (mu0 (xlocs X)) G∧(xobs X).all (fun o=>!o.own)=true∧
      VR (mu0 (xlocs X)) a0 v0∧VR (mu0 (xlocs X)) a1 v1∧VR (mu0 (xlocs X)) (.agg [S A,.int .i64 F,.int .i64 T]) v2∧SlE 2 (initH (xobs X)) a0 (fcs lf)∧TkR (initH (xobs X)) a1 tl:=by
  obtain⟨n0,x0,e0⟩:=trod_one Proofs.Tryz.underlying22 w0 h0
  obtain⟨n1,x1,e1⟩:=trod_one Proofs.Tryz.underlying23 w1 h1
  obtain⟨TF,hF,_⟩:=open_slice (vals:=FV.vals) (Q:=fun _=>True) ⟨.empty,.empty⟩ trivial Proofs.Tryz.underlying22 cellsFl (fun h=>by
    obtain⟨y,e⟩:=open_file h
    exact⟨y,e,trivial⟩) e0
  obtain⟨TT,hT,hS⟩:=open_slice (vals:=TV.vals) (Q:=fun y=>siteOk W y.sv) ⟨0,.empty,false,.empty,0,0,false,.slice none 0 0⟩ ⟨fun _=>⟨.empty,.empty,0,0,false⟩,.inl rfl⟩ Proofs.Tryz.underlying23 cellsTk open_tok e1
  obtain⟨cs2,rfl,_⟩:=okWide_struct Proofs.Tryz.underlying25 w2
  obtain⟨n2,e2⟩:=h2
  obtain⟨fl,F,T,e2⟩:=open_span e2
  have e2:cs2.toList=[.string fl,.int .i64 F,.int .i64 T]:=e2
  have hs:∀k,∃y:(Nat→SV)×Xt×AV×Nat,Part W 5 (2+k) (TT k).sv (fun j=>(y.1 j).vals) (fun j=>(y.1 j).sk.cs) y.2.1 y.2.2.1 y.2.2.2:=fun k=>by
    obtain⟨ST,h⟩:=hS k
    obtain⟨x,av,len,hp⟩:=part_of (sz:=5) (2+k) (by decide) (fun _=>rfl) h (C:=fun j=>(ST j).sk.cs) (fun _=>rfl)
    exact⟨(ST,x,av,len),hp⟩
  obtain⟨f,hf⟩:=Classical.axiomOfChoice hs
  obtain⟨fx,fav,flen,hfp⟩:=part_of (sz:=2) 0 (by decide) (fun _=>rfl) hF (C:=fun k=>[S (TF k).p.data.toList,S (TF k).s.data.toList]) (fun _=>rfl)
  obtain⟨tx,tav,tlen,htp⟩:=part_of (sz:=8) 1 (by decide) (fun _=>rfl) hT (C:=fun k=>((TT k).tk (f k).2.2.1 ((List.range (f k).2.2.2).map fun j=>((f k).1 j).sk)).cs) (fun _=>rfl)
  let X:List Xt:=fx::tx::(List.range tlen).map fun k=>(f k).2.1
  have X0:X[0]? =some fx:=rfl
  have X1:X[1]? =some tx:=rfl
  have X2:∀k,k<tlen→X[2+k]? =some (f k).2.1:=fun k hk=>by
    show(fx::tx::(List.range tlen).map fun k=>(f k).2.1)[2+k]? =_
    rw[show 2+k=k+1+1 by omega,List.getElem?_cons_succ,List.getElem?_cons_succ,List.getElem?_map,List.getElem?_range hk];rfl
  have ho:∀x∈X,x.o.own=false:=fun x hx=>by
    rcases List.mem_cons.1 hx with rfl|hx
    · exact hfp.own
    rcases List.mem_cons.1 hx with rfl|hx
    · exact htp.own
    obtain⟨k,_,rfl⟩:=List.mem_map.1 hx
    exact(hf k).own
  have kF:=hfp.ok X X0 fun k _=>fv_cells _ (TF k)
  have kT:=htp.ok X X1 fun k hk=>tv_cells ((hf k).vr X (X2 k hk)) (hf k).one
  have kS:∀k,k<tlen→ObR (mu0 (xlocs X)) W (f k).2.1.loc (f k).2.1.o∧SlE 5 (initH (xobs X)) (f k).2.2.1 ((List.range (f k).2.2.2).map fun j=>((f k).1 j).sk.cs):=fun k hk=>(hf k).ok X (X2 k hk) fun m _=>sv_cells _ ((f k).1 m)
  refine⟨(List.range flen).map fun k=>(TF k).fl,(List.range tlen).map fun k=>(TT k).tk (f k).2.2.1 ((List.range (f k).2.2.2).map fun j=>((f k).1 j).sk),fl.data.toList,F,T,fav,tav,X,xsim ho fun i hi=>?_,xglobs X,xown ho,hfp.vr X X0,htp.vr X X1,⟨cs2,rfl,?_,rfl⟩,?_,?_,fun x hx=>?_⟩
  · match i,hi with
    |0,_=>exact kF.1
    |1,_=>exact kT.1
    |k+2,hi=>
      have hk:k<tlen:=by
        have:k+2<((List.range tlen).map fun k=>(f k).2.1).length+1+1:=hi
        rw[List.length_map,List.length_range] at this;omega
      have e:X[k+2]=(f k).2.1:=by
        have:=X2 k hk
        rw[Nat.add_comm,List.getElem?_eq_getElem hi] at this
        exact Option.some.inj this
      rw[e]
      exact(kS k hk).1
  · rw[e2]
    exact⟨_,_,rfl,VR_S _ _,_,_,rfl,VR_i _ _,_,_,rfl,VR_i _ _,rfl⟩
  · have:=kF.2
    unfold fcs
    rw[List.map_map];exact this
  · have:=kT.2
    unfold tks
    rw[List.map_map];exact this
  · obtain⟨k,hk,rfl⟩:=List.mem_map.1 hx
    have:=(kS k (List.mem_range.1 hk)).2
    unfold sks
    show SlE 5 _ (f k).2.2.1 (((List.range (f k).2.2.2).map fun j=>((f k).1 j).sk).map SkA.cs)
    rw[List.map_map];exact this
end
end Go.Den
