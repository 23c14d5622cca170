/-
  A part of the proof: how a call begins that is handed slices of structs.
-/
import Derived.Test.YtpjkiikmjddpiaaGreatDoorSml
import Derived.ChangeArms
import Derived.DataElems
import Derived.ChangeSlices
import Derived.WideShapes
import Derived.SizedLaws
import Derived.ChangeMaps5
namespace Go.Den
open Go.RowKit Go.ChangeShapes Go.WideShapes
set_option maxRecDepth 100000
/-- some of the memory as it was -/
structure Xt where
  loc:Loc
  o:Ob FT
def xlocs(X:List Xt):List Loc:=locs0++X.map (·.loc)
noncomputable def xobs (X:List Xt):List (Ob FT):=obs0++X.map (·.o)
theorem obs0_len:obs0.length=G:=by unfold obs0;rw[List.length_replicate];rfl
theorem locs0_len:locs0.length=G:=rfl
theorem xobs_at{X:List Xt}{i:Nat}(h:i<X.length):(xobs X)[G+i]? =some X[i].o:=by
  unfold xobs
  rw[List.getElem?_append_right (by rw[obs0_len];omega),obs0_len,Nat.add_sub_cancel_left,List.getElem?_map,List.getElem?_eq_getElem h];rfl
theorem xlocs_at{X:List Xt}{i:Nat}(h:i<X.length):(xlocs X)[G+i]? =some X[i].loc:=by
  unfold xlocs
  rw[List.getElem?_append_right (by rw[locs0_len];omega),locs0_len,Nat.add_sub_cancel_left,List.getElem?_map,List.getElem?_eq_getElem h];rfl
theorem xobs_len(X:List Xt):(xobs X).length=G+X.length:=by unfold xobs;rw[List.length_append,obs0_len,List.length_map]
theorem xsim{X:List Xt}{W:World}(ho:∀x∈X,x.o.own=false)(hX:∀i (hi:i<X.length),ObR (mu0 (xlocs X)) W X[i].loc X[i].o):Sim (mu0 (xlocs X)) (initH (xobs X)) W:=by
  refine sim_init ?_ ?_ fun i o c h1 h2=>?_
  · rw[xobs_len];unfold xlocs;rw[List.length_append,locs0_len,List.length_map]
  · refine List.all_eq_true.2 fun o h=>?_
    unfold xobs at h
    rcases List.mem_append.1 h with h|h
    · rw[List.eq_of_mem_replicate (show o∈List.replicate G (Ob.dead:Ob FT) from h)];rfl
    · obtain⟨x,hx,rfl⟩:=List.mem_map.1 h
      rw[ho x hx];rfl
  · by_cases hi:i<G
    · have:o=.dead:=by
        unfold xobs at h1
        rw[List.getElem?_append_left (by rw[obs0_len];exact hi)] at h1
        exact List.eq_of_mem_replicate (show o∈List.replicate G (Ob.dead:Ob FT) from List.mem_of_getElem? h1)
      subst this;trivial
    · obtain⟨j,rfl⟩:∃j,i=G+j:=⟨i-G,by omega⟩
      have hj:j<X.length:=by
        have:=(List.getElem?_eq_some_iff.1 h1).1
        rw[xobs_len] at this;omega
      rw[xobs_at hj] at h1
      rw[xlocs_at hj] at h2
      cases h1;cases h2
      exact hX j hj
theorem xglobs(X:List Xt):Globs (mu0 (xlocs X)) G:=globs_init fun g hg=>by
  obtain⟨c,h1,h2⟩:∃c,locs0[g]? =some c∧c.blk=g∧c.off=0:=by
    have hg:g<9:=hg
    match g,hg with
    |0,_|1,_|2,_|3,_|4,_|5,_|6,_|7,_|8,_=>exact⟨_,rfl,rfl,rfl⟩
  refine⟨c,?_,h2⟩
  unfold xlocs
  rw[List.getElem?_append_left (by rw[locs0_len];exact hg)];exact h1
theorem xown{X:List Xt}(ho:∀x∈X,x.o.own=false):(xobs X).all (fun o=>!o.own)=true:=by
  refine List.all_eq_true.2 fun o h=>?_
  unfold xobs at h
  rcases List.mem_append.1 h with h|h
  · rw[List.eq_of_mem_replicate (show o∈List.replicate G (Ob.dead:Ob FT) from h)];rfl
  · obtain⟨x,hx,rfl⟩:=List.mem_map.1 h
    rw[ho x hx];rfl
theorem xat{X:List Xt}{i:Nat}(h:i<X.length):(initH (xobs X)).at (pOf (G+i))=X[i].o:=by
  rw[at_init,nat_pOf,List.getD_eq_getElem?_getD,xobs_at h];rfl
theorem xmu{X:List Xt}{i:Nat}(h:i<X.length):mu0 (xlocs X) (pOf (G+i))=some X[i].loc:=by
  show(xlocs X)[(pOf (G+i)).nat]? =_
  rw[nat_pOf];exact xlocs_at h
theorem xnat{X:List Xt}{i:Nat}(h:i<X.length):(pOf (G+i)).nat<(initH (xobs X)).next.nat:=by
  show(pOf (G+i)).nat<(pOf (xobs X).length).nat
  rw[nat_pOf,nat_pOf,xobs_len];omega
/-! ### A slice of the memory as it was -/
theorem add_z(a:Addr):a.add 0=a:=by unfold Addr.add;rw[if_pos rfl]
theorem spot_of{W:World}{a:Addr}{v:Value}(h:W.cell? a=some v):a.spot=none:=by
  unfold World.cell? at h
  split at h
  · split at h
    · cases h
    · rename_i q
      cases e:a.spot with
      |none=>rfl
      |some x=>rw[e] at q;exact absurd rfl q
  · cases h
/-- its cells, and where they stand -/
structure Blk(W:World)(sz cap:Nat)(a:Addr)(V:Nat→List Value)(size:Nat):Prop where
  spot:a.spot=none
  fit:a.off+cap*sz≤size
  cell:∃cs row fz,W.heap[a.block]? =some (.cells cs row fz)∧cs.size=size∧∀i<cap,∀j<sz,cs[a.off+(i*sz+j)]? =(V i)[j]?
theorem blk_of{W:World}{sz cap:Nat}{a:Addr}{V:Nat→List Value}(hsz:0<sz)(hV:∀i<cap,(V i).length=sz)(hc:∀i<cap,∀j<sz,W.cell? (a.add (i*sz+j))=(V i)[j]?)(h0:0<cap):∃size,Blk W sz cap a V size:=by
  have h1:=hc 0 h0 0 hsz
  rw[Nat.zero_mul,Nat.add_zero,add_z,List.getElem?_eq_getElem (by rw[hV 0 h0];exact hsz)] at h1
  have hs:=spot_of h1
  obtain⟨cs,row,fz,hb⟩:∃cs row fz,W.heap[a.block]? =some (.cells cs row fz):=by
    unfold World.cell? at h1
    cases hb:W.heap[a.block]? with
    |none=>rw[hb] at h1;cases h1
    |some o=>
      rw[hb] at h1
      cases o<;>first|exact⟨_,_,_,rfl⟩|cases h1
  have hcs:∀i<cap,∀j<sz,cs[a.off+(i*sz+j)]? =(V i)[j]? :=fun i hi j hj=>by
    have h:=hc i hi j hj
    unfold World.cell? Addr.add at h
    by_cases h0:i*sz+j=0
    · rw[if_pos h0,hb] at h
      simp[hs] at h
      rw[h0,Nat.add_zero,h]
    · rw[if_neg h0] at h
      simp only[hb] at h
      simpa using h
  refine⟨cs.size,hs,?_,cs,row,fz,hb,rfl,hcs⟩
  have h2:=hcs (cap-1) (by omega) (sz-1) (by omega)
  rw[List.getElem?_eq_getElem (by rw[hV _ (by omega)];omega)] at h2
  have h3:=(Array.getElem?_eq_some_iff.1 h2).1
  have h4:cap*sz=(cap-1)*sz+sz:=by rw[←Nat.succ_mul];congr 1;omega
  omega
noncomputable def xcell (sz:Nat) (C:Nat→List AV) (p:Nat):AV:=(C (p / sz)).getD (p%sz) .undef
theorem Blk.ob{W:World}{sz cap len size:Nat}{a:Addr}{V:Nat→List Value}(b:Blk W sz cap a V size)(hsz:0<sz)(hl:len≤cap){μ:Mu}{C:Nat→List AV}(hV:∀i<len,∀j<sz,∃v,(V i)[j]? =some v∧VR μ ((C i).getD j .undef) v∧((C i).getD j .undef).one=true):ObR μ W ⟨a.block,a.off,size⟩ (.ext (xcell sz C) (len*sz):Ob FT):=by
  obtain⟨cs,row,fz,h1,h2,h3⟩:=b.cell
  have hm:len*sz≤cap*sz:=Nat.mul_le_mul_right _ hl
  have hf:=b.fit
  refine⟨cs,row,fz,h1,h2.symm,?_,fun p hp=>?_⟩
  · show a.off+len*sz≤cs.size
    omega
  · have hi:p / sz<len:=Nat.div_lt_of_lt_mul (by rw[Nat.mul_comm];exact hp)
    have hj:p%sz<sz:=Nat.mod_lt _ hsz
    obtain⟨v,e,r1,r2⟩:=hV _ hi _ hj
    refine⟨v,?_,r1,r2⟩
    show cs[a.off+p]? =some v
    rw[←e,←h3 _ (Nat.lt_of_lt_of_le hi hl) _ hj]
    congr 2
    rw[Nat.mul_comm];exact(Nat.div_add_mod p sz).symm
theorem Blk.vr{W:World}{sz cap len size:Nat}{a:Addr}{V:Nat→List Value}(b:Blk W sz cap a V size)(hl:len≤cap){μ:Mu}{q:P}(hq:μ q=some ⟨a.block,a.off,size⟩):VR μ (.slice q 0 len sz false) (.slice (some a) len cap):=by
  refine⟨a,cap,rfl,hl,⟨fun e=>(Bool.false_ne_true e).elim,_,hq⟩,.inr ⟨_,hq,?_,?_⟩⟩
  · show a=⟨a.block,a.off+0,none⟩
    rw[←b.spot];rfl
  · exact b.fit
theorem vr_none{sz len cap:Nat}{a:Addr}(h0:cap=0)(hl:len≤cap){μ:Mu}{q:P}{l:Loc}(hq:μ q=some l):VR μ (.slice q 0 0 sz false) (.slice (some a) len cap):=by
  have:len=0:=by omega
  subst this
  exact⟨a,cap,rfl,hl,⟨fun e=>(Bool.false_ne_true e).elim,_,hq⟩,.inl h0⟩
theorem rd_ext{h:H}{q:P}{sz len:Nat}{C:Nat→List AV}(ha:h.at q=.ext (xcell sz C) (len*sz))(hq:q.nat<h.next.nat)(hsz:0<sz)(hC:∀i<len,(C i).length=sz):Rd sz h (.slice q 0 len sz false) ((List.range len).map C):=by
  refine⟨q,0,xcell sz C,len*sz,false,by simp,hq,.inr ha,by simp,fun i hi=>?_⟩
  have hi':i<len:=by simpa using hi
  have e:((List.range len).map C)[i]=C i:=by simp
  rw[e]
  refine⟨hC i hi',fun j hj=>?_⟩
  rw[hC i hi'] at hj
  unfold xcell
  have h1:(0+i*sz+j) / sz=i:=by rw[Nat.zero_add,Nat.mul_comm,Nat.mul_add_div hsz,Nat.div_eq_of_lt hj,Nat.add_zero]
  have h2:(0+i*sz+j)%sz=j:=by rw[Nat.zero_add,Nat.mul_comm,Nat.mul_add_mod,Nat.mod_eq_of_lt hj]
  rw[h1,h2,List.getD_eq_getElem?_getD,List.getElem?_eq_getElem (by rw[hC i hi'];exact hj)];rfl
theorem VR_S(μ:Mu)(s:ByteArray):VR μ (S s.data.toList) (.string s):=⟨_,rfl,rfl,rfl⟩
end Go.Den
