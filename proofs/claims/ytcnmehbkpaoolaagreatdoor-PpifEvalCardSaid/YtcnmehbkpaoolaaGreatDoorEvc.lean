/-
 Proof.
-/
import Derived.Test.YtcnmehbkpaoolaaGreatDoorEvr
namespace Go.Den
open Go.RowKit
open Go.Pre (V Kq vz Fh Mf Mg Pd Hr Dt Ph Wy evB Cu unary Li Jc)
set_option maxRecDepth 100000
theorem Res.map{T:List Gx}{o:Go.Pre.R V Gx}{i:Nat}{b:Bool}{v:V}(f:V→V)(r:Res T o i b v):Res T (o.map fun p=>(f p.1,p.2)) i b (f v):=by
 cases o with
 |none=>exact r
 |some p=>
  obtain⟨r1,r2,r3,r4⟩:=r
  exact⟨r1,by rw[r2],r3,r4⟩
section
variable{hE:H}{L:List En}{vL:AV}{B:P}(hr:RdT hE vL L)(hl:L.length≤1000000)(htx:∀x∈L,x.text.length≤1000000∧Sl x.sites)(he:Ky hE)
def Acp(hE:H)(B:P)(vL:AV)(L:List En)(n:Nat):Prop:=∀(i:Nat)(d:Bool)(h:H)(k:KV),L.length-i<n→i≤L.length→Rz hE B vL i false h→Wt hE B vL (L.map tk) h (cdP n d ((L.map tk).drop i)) i k→W1 (.func 49) [.ptr B 0,.bool d] h k
theorem Gd{i:Nat}(h:i<L.length):(L.map tk).drop i=tk L[i]::(L.map tk).drop (i+1):=by
 rw[List.drop_eq_getElem_cons (by rw[List.length_map];exact h),List.getElem_map]
include hr hl htx he
theorem Bla{n:Nat}(hC:Acp hE B vL L n):∀(m i:Nat)(d:Bool)(h:H)(k:KV),L.length-i<m→L.length-i≤n→i≤L.length→Rz hE B vL i false h→Wt hE B vL (L.map tk) h (unP (cdP n) d ((L.map tk).drop i)) i k→W1 (.func 139) [.ptr B 0,.bool d] h k:=by
 intro m
 induction m with
 |zero=>intro i d h k hm;exact absurd hm (Nat.not_lt_zero _)
 |succ m ih=>
  intro i d h k hm hn hi rs hk
  refine A9s (n:=1) Bw (Bj1 ?_)
  unfold Aef
  refine Bo ?_
  have hB:=rs.2.2.1
  have c1:Cel (h.new Ek) h.next 55 (vC (0#64,false)):=Oq
  have x1:Exh h (h.new Ek):=.new
  have n1:h.next.nat<(h.new Ek).next.nat:=by rw[Aw];omega
  have rs1:=rs.ext x1
  generalize h.new Ek=h1 at c1 x1 n1 rs1 ⊢
  have f1:FrO B h h1:=.exh x1
  have ne1:h.next≠B:=fun e=>by rw[←e] at hB;omega
  have hlen:(L.map tk).length=L.length:=List.length_map ..
  have out:∀(h2:H)(v:V)(i':Nat)(b:Bool),FrO B h1 h2→Rz hE B vL i' b h2→i≤i'→i'≤(L.map tk).length+1→Res (L.map tk) (unP (cdP n) d ((L.map tk).drop i)) i' b v→Go.Den.stn 2 (.ptr h.next 0) (vI v) h2 fun h8=>Go.Den.ldn 2 (.ptr h.next 0) h8 fun v9=>k v9 h8:=fun h2 v i' b f rs' a1 a2 res=>
   Je (c1.fr f n1 ne1) fun h3 f3=>hk h3 v i' b ((f1.trans f).loc f3 (Nat.le_refl _)) (rs'.loc f3 hB (by have:=f.1;omega)) a1 a2 res
  refine c88 (s:=[43]) hr hl rs1 (fun h2 hlt ht f2 rs2=>?_) (fun h2 hno1 f2 rs2=>?_)
  · rw[Av]
    refine Bz rfl ?_
    refine ih (i+1) d h2 _ (by omega) (by omega) hlt rs2 fun h3 v i' b f3 rs3 a1 a2 res=>?_
    refine out h3 v i' b (f2.trans f3) rs3 (by omega) a2 ?_
    rw[Gd hlt,ht,Alb];exact res
  rw[Av]
  refine Ca rfl ?_
  refine c88 (s:=[45]) hr hl rs2 (fun h3 hlt ht f3 rs3=>?_) (fun h3 hno2 f3 rs3=>?_)
  · rw[Av]
    refine Bz rfl ?_
    refine ih (i+1) d h3 _ (by omega) (by omega) hlt rs3 fun h4 v i' b f4 rs4 a1 a2 res=>?_
    have f24:=(f2.trans f3).trans f4
    have u4:=f24.1
    refine(c1.fr f24 n1 ne1).stn (cs':=vC v) rfl rfl (by decide) fun h5 f5 c5=>?_
    rw[Ae]
    refine c5.atp.ld1 (j:=0) (by simp) ?_
    show asI .u64 (uI v.1) _
    rw[Au,A0f,Gp,Au,Ae]
    refine c5.st1 (j:=0) (by simp) rfl fun h6 f6 c6=>?_
    refine c6.atp.ldn rfl ?_
    have c6:Cel h6 h.next 55 (vC (Mf v)):=c6
    refine Je (v:=Mf v) c6 fun h7 f7=>?_
    have u5:=f5.1
    have u6:=f6.1
    refine hk h7 (Mf v) i' b ((((f1.trans f24).loc f5 (Nat.le_refl _)).loc f6 (Nat.le_refl _)).loc f7 (Nat.le_refl _)) (((rs4.loc f5 hB (by omega)).loc f6 hB (by omega)).loc f7 hB (by omega)) (by omega) a2 ?_
    rw[Gd hlt,ht,Aqg]
    exact res.map Mf
  rw[Av]
  refine Ca rfl ?_
  refine c88 (s:=[126]) hr hl rs3 (fun h4 hlt ht f4 rs4=>?_) (fun h4 hno3 f4 rs4=>?_)
  · rw[Av]
    refine Bz rfl ?_
    refine ih (i+1) d h4 _ (by omega) (by omega) hlt rs4 fun h5 v i' b f5 rs5 a1 a2 res=>?_
    have f24:=((f2.trans f3).trans f4).trans f5
    have u4:=f24.1
    refine(c1.fr f24 n1 ne1).stn (cs':=vC v) rfl rfl (by decide) fun h6 f6 c6=>?_
    rw[Ae]
    refine c6.atp.ld1 (j:=0) (by simp) ?_
    show asI .u64 (uI v.1) _
    rw[Au,A94,Gp,Au,Ae]
    refine c6.st1 (j:=0) (by simp) rfl fun h7 f7 c7=>?_
    refine c7.atp.ldn rfl ?_
    have c7:Cel h7 h.next 55 (vC (Mg v)):=c7
    refine Je (v:=Mg v) c7 fun h8 f8=>?_
    have u5:=f6.1
    have u6:=f7.1
    refine hk h8 (Mg v) i' b ((((f1.trans f24).loc f6 (Nat.le_refl _)).loc f7 (Nat.le_refl _)).loc f8 (Nat.le_refl _)) (((rs5.loc f6 hB (by omega)).loc f7 hB (by omega)).loc f8 hB (by omega)) (by omega) a2 ?_
    rw[Gd hlt,ht,Aqh]
    exact res.map Mg
  rw[Av]
  refine Ca rfl ?_
  refine c88 (s:=[33]) hr hl rs4 (fun h5 hlt ht f5 rs5=>?_) (fun h5 hno4 f5 rs5=>?_)
  · rw[Av]
    refine Bz rfl ?_
    refine ih (i+1) d h5 _ (by omega) (by omega) hlt rs5 fun h6 v i' b f6 rs6 a1 a2 res=>?_
    show Apf 0 (.agg [uI v.1,.bool v.2]) _
    rw[Atf,Au,bv0]
    refine Dh (Ayc _) ?_
    refine out h6 (Pd v) i' b ((((f2.trans f3).trans f4).trans f5).trans f6) rs6 (by omega) a2 ?_
    rw[Gd hlt,ht,Aqf]
    exact res.map Pd
  rw[Av]
  refine Ca rfl ?_
  refine c88 (s:=[40]) hr hl rs5 (fun h6 hlt ht f6 rs6=>?_) (fun h6 hno5 f6 rs6=>?_)
  · rw[Av]
    refine Bz rfl ?_
    refine hC (i+1) d h6 _ (by omega) hlt rs6 fun h7 v i' b f7 rs7 a1 a2 res=>?_
    have f27:=((((f2.trans f3).trans f4).trans f5).trans f6).trans f7
    have u7:=f27.1
    refine(c1.fr f27 n1 ne1).stn (cs':=vC v) rfl rfl (by decide) fun h8 f8 c8=>?_
    have rs8:=rs7.loc f8 hB (by omega)
    have u8:=f8.1
    have f08:=(f1.trans f27).loc f8 (Nat.le_refl _)
    have hd:=Gd hlt
    have hun:unP (cdP n) d ((L.map tk).drop i)=(Go.Pre.Ahf (cdP n d ((L.map tk).drop (i+1)))):=by
     rw[hd,ht];exact Aqe
    rw[hun] at hk
    have fin:∀(h9:H)(i2:Nat)(b2 y:Bool),FrO B h8 h9→Rz hE B vL i2 b2 h9→i≤i2→i2≤(L.map tk).length+1→Res (L.map tk) (Go.Pre.Ahf (cdP n d ((L.map tk).drop (i+1)))) i2 y v→
     Go.Den.st1 (.ptr B (0+2)) (.bool y) h9 fun h73=>Go.Den.ldn 2 (.ptr h.next 0) h73 fun v74=>Go.Den.stn 2 (.ptr h.next 0) v74 h73 fun h75=>Go.Den.ldn 2 (.ptr h.next 0) h75 fun v76=>k v76 h75:=fun h9 i2 b2 y f9 rs9 b1 b2' res=>by
     refine rs9.s2 fun h10 f10 rs10=>?_
     have u9:=f9.1
     have u10:=f10.1
     have c10:=(c8.fr f9 (by omega) ne1).fr f10 (by omega) ne1
     refine c10.atp.ldn rfl ?_
     refine Je c10 fun h11 f11=>?_
     exact hk h11 v i2 y (((f08.trans f9).trans f10).loc f11 (Nat.le_refl _)) (rs10.loc f11 hB (by omega)) b1 b2' res
    rw[Al,Ac,Ae]
    refine rs8.l2 ?_
    rw[Av]
    cases hc:cdP n d ((L.map tk).drop (i+1)) with
    |none=>
     rw[hc] at res fin
     have hb:b=true:=res
     refine Hx (fun e=>by rw[hb] at e;cases e) (fun _=>?_)
     rw[Al,Ac,Ae]
     exact fin h8 i' b true .refl rs8 (by omega) a2 rfl
    |some p=>
     obtain⟨v0,r⟩:=p
     rw[hc] at res fin
     obtain⟨hb,rfl,hi',hdr⟩:=res
     refine Hx (fun _=>?_) (fun e=>by rw[hb] at e;cases e)
     refine c88 (s:=[41]) hr hl rs8 (fun h9 hlt' ht' f9 rs9=>?_) (fun h9 hno' f9 rs9=>?_)
     · rw[Av]
       show oK (Bd (.ptr B 0) h9) _
       rw[Al,Ac,Ae]
       have hdr':tk L[i']::(L.map tk).drop (i'+1)=r:=by rw[←Gd hlt'];exact hdr
       refine fin h9 (i'+1) b false f9 rs9 (by omega) (by omega) ?_
       rw[←hdr']
       rw[Go.Pre.Ua,Go.Pre.Vr ht']
       exact⟨rfl,rfl,by omega,rfl⟩
     · rw[Av]
       show oK (Bd (.ptr B 0) h9) _
       rw[Al,Ac,Ae]
       refine fin h9 i' b true f9 rs9 (by omega) a2 ?_
       cases r with
       |nil=>rfl
       |cons t2 r2=>
        have hlt':i'<L.length:=by
         rcases Nat.lt_or_ge i' L.length with h|h
         · exact h
         · rw[List.drop_eq_nil_of_le (by omega)] at hdr;cases hdr
        rw[Gd hlt'] at hdr
        cases hdr
        rw[Go.Pre.Ua,Go.Pre.Re (hno' hlt')];rfl
  rw[Av]
  refine Ca rfl ?_
  refine Bk1 hr hl hi htx he rs6 fun h7 v ok f7 rs7 hp hq=>?_
  refine out h7 v (i+1) (!ok) (((((f2.trans f3).trans f4).trans f5).trans f6).trans f7) rs7 (by omega) (by omega) ?_
  by_cases e:i<L.length
  · rw[Gd e,Ala (hno1 e) (hno2 e) (hno3 e) (hno4 e) (hno5 e),hp e]
    cases ok with
    |true=>exact⟨rfl,rfl,by omega,rfl⟩
    |false=>rfl
  · rw[List.drop_eq_nil_of_le (by omega),hq e]
    show Res _ (unary _ _ _ _ _ _ []) _ _ _
    unfold unary
    rfl
end
end Go.Den
namespace Go.Den
open Go.RowKit
open Go.Pre (V Kq vz Fh Mf Mg Pd Hr Dt Ph Wy evB Cu unary Li Jc)
set_option maxRecDepth 100000
theorem A4p(s:List UInt8):Wy s≤10:=by
 unfold Wy Dt
 simp only[Ph]
 repeat (first|omega|split)
theorem Ana(t:Gx):Go.Pre.lvl t≤10:=by
 unfold Go.Pre.lvl
 split
 · exact A4p _
 · omega
section
variable{hE:H}{L:List En}{vL:AV}{B:P}{n:Nat}
def A8r(hE:H)(B:P)(vL:AV)(L:List En)(n N:Nat):Prop:=∀(least i:Nat)(d:Bool)(h:H)(k:KV),least≤20→L.length-i≤n→i≤L.length→2*(L.length-i)+1≤N→Rz hE B vL i false h→Wt hE B vL (L.map tk) h (evP (cdP n) N least d ((L.map tk).drop i)) i k→W1 (.func 87) [.ptr B 0,.int .i64 (Int.ofNat least),.bool d] h k
structure LoS(hE:H)(B:P)(vL:AV)(h0 h:H)(p1 p5:P)(a:V)(i:Nat)(b:Bool):Prop where
 rs:Rz hE B vL i b h
 f:FrO B h0 h
 c1:∃w:V,Cel h p1 55 (vC w)
 c5:Cel h p5 55 (vC a)
 l1:h0.next.nat≤p1.nat
 l5:h0.next.nat≤p5.nat
 u1:p1.nat<h.next.nat
 u5:p5.nat<h.next.nat
 ne:p1≠p5
 hB:B.nat<h0.next.nat
theorem LoS.n1{h0 h:H}{p1 p5:P}{a:V}{i:Nat}{b:Bool}(s:LoS hE B vL h0 h p1 p5 a i b):p1≠B:=fun e=>by have h1:=s.l1;have h2:=s.hB;rw[e] at h1;omega
theorem LoS.n5{h0 h:H}{p1 p5:P}{a:V}{i:Nat}{b:Bool}(s:LoS hE B vL h0 h p1 p5 a i b):p5≠B:=fun e=>by have h1:=s.l5;have h2:=s.hB;rw[e] at h1;omega
theorem LoS.step{h0 h h':H}{p1 p5:P}{a:V}{i j:Nat}{b b':Bool}(s:LoS hE B vL h0 h p1 p5 a i b)(f:FrO B h h')(rs:Rz hE B vL j b' h'):LoS hE B vL h0 h' p1 p5 a j b':=by
 obtain⟨w,c1⟩:=s.c1
 exact⟨rs,s.f.trans f,⟨w,c1.fr f s.u1 s.n1⟩,s.c5.fr f s.u5 s.n5,s.l1,s.l5,Nat.lt_of_lt_of_le s.u1 f.1,Nat.lt_of_lt_of_le s.u5 f.1,s.ne,s.hB⟩
theorem LoS.ext{h0 h h':H}{p1 p5:P}{a:V}{i:Nat}{b:Bool}(s:LoS hE B vL h0 h p1 p5 a i b)(x:Exh h h'):LoS hE B vL h0 h' p1 p5 a i b:=s.step (.exh x) (s.rs.ext x)
theorem LoS.set{h0 h:H}{p1 p5:P}{a v:V}{i:Nat}{b:Bool}{K:H→Prop}(s:LoS hE B vL h0 h p1 p5 a i b)(hk:∀h',LoS hE B vL h0 h' p1 p5 v i b→K h'):Go.Den.stn 2 (.ptr p5 0) (vI v) h K:=by
 refine s.c5.stn (cs':=vC v) rfl rfl (by decide) fun h' f c=>?_
 obtain⟨w,c1⟩:=s.c1
 have:=s.hB
 have:=s.l5
 exact hk h' ⟨s.rs.loc f (by omega) s.u5,s.f.loc f s.l5,⟨w,c1.fr f s.u1 s.ne⟩,c,s.l1,s.l5,Nat.lt_of_lt_of_le s.u1 f.1,Nat.lt_of_lt_of_le s.u5 f.1,s.ne,s.hB⟩
theorem LoS.out{h0 h:H}{p1 p5:P}{a:V}{i i0:Nat}{b:Bool}{k:KV}{o:Go.Pre.R V Gx}(s:LoS hE B vL h0 h p1 p5 a i b)(hk:Wt hE B vL (L.map tk) h0 o i0 k)(h1:i0≤i)(h2:i≤(L.map tk).length+1)(res:Res (L.map tk) o i b a):
 Go.Den.ldn 2 (.ptr p5 0) h fun v92=>Go.Den.stn 2 (.ptr p1 0) v92 h fun h93=>Go.Den.ldn 2 (.ptr p1 0) h93 fun v94=>k v94 h93:=by
 refine s.c5.atp.ldn rfl ?_
 obtain⟨w,c1⟩:=s.c1
 have:=s.hB
 have:=s.l1
 exact Je c1 fun h3 f3=>hk h3 a i b (s.f.loc f3 s.l1) (s.rs.loc f3 (by omega) s.u1) h1 h2 res
theorem LoS.val{h0 h:H}{p1 p5:P}{a:V}{i:Nat}{b:Bool}{K:Int→Prop}(s:LoS hE B vL h0 h p1 p5 a i b)(hk:K (Int.ofNat a.1.toNat)):Af 0 (.ptr p5 0) fun v40=>Go.Den.ld1 v40 h fun v41=>asI .u64 v41 K:=by
 rw[Ae]
 refine s.c5.atp.ld1 (j:=0) (by simp) ?_
 show asI .u64 (uI a.1) _
 rw[Au];exact hk
theorem Ya{m least:Nat}{d:Bool}{h0 h:H}{p1 p5:P}{a:V}{i i0:Nat}{k:KV}(s:LoS hE B vL h0 h p1 p5 a i true)(hk:Wt hE B vL (L.map tk) h0 none i0 k)(h1:i0≤i)(h2:i≤(L.map tk).length+1):
 (r87 W1 k (m+1)).a1 (.ptr B 0) (Int.ofNat least) d (.ptr p1 0) (.ptr p5 0) h:=by
 refine Ay5 ?_
 unfold Agu
 rw[Al,Ac,Ae]
 refine s.rs.l2 ?_
 rw[Av]
 refine Ca rfl ?_
 exact s.out hk h1 h2 rfl
def Aoj(hE:H)(B:P)(vL:AV)(L:List En)(n N:Nat):Prop:=∀(m least i i0:Nat)(d:Bool)(a:V)(h0 h:H)(p1 p5:P)(k:KV),least≤20→L.length-i≤n→i≤L.length→2*(L.length-i)≤N→L.length-i<m→i0≤i→LoS hE B vL h0 h p1 p5 a i false→Wt hE B vL (L.map tk) h0 (loP (cdP n) N least d a ((L.map tk).drop i)) i0 k→(r87 W1 k m).a1 (.ptr B 0) (Int.ofNat least) d (.ptr p1 0) (.ptr p5 0) h
variable(hr:RdT hE vL L)(hl:L.length≤1000000)(htx:∀x∈L,x.text.length≤1000000∧Sl x.sites)(he:Ky hE)
include hr hl htx he
theorem Ax9{N:Nat}(hC:Acp hE B vL L n)(ih:Aoj hE B vL L n N):A8r hE B vL L n (N+1):=by
 intro least i d h k hle hn hi hN rs hk
 refine w87 (n:=L.length+3) Bw (g87 ?_)
 unfold Alk
 have hlen:(L.map tk).length=L.length:=List.length_map ..
 refine Bo ?_
 have hB:=rs.2.2.1
 have c1:Cel (h.new Ek) h.next 55 (vC (0#64,false)):=Oq
 have x1:Exh h (h.new Ek):=.new
 have n1:h.next.nat<(h.new Ek).next.nat:=by rw[Aw];omega
 have rs1:=rs.ext x1
 generalize h.new Ek=h1 at c1 x1 n1 rs1 ⊢
 have f1:FrO B h h1:=.exh x1
 have ne1:h.next≠B:=fun e=>by rw[←e] at hB;omega
 refine Bla hr hl htx he hC (L.length-i+1) i d h1 _ (by omega) hn hi rs1 fun h2 v i' b f2 rs2 a1 a2 res=>?_
 refine Bo ?_
 refine Ku (v:=v) fun h3 x3 n3 c5=>?_
 have u2:=f2.1
 have u3:=x3.1
 have s:LoS hE B vL h h3 h.next h2.next v i' b:=⟨rs2.ext x3,(f1.trans f2).trans (.exh x3),⟨_,(c1.fr f2 n1 ne1).ext x3 (by omega)⟩,c5,Nat.le_refl _,by omega,by omega,n3,fun e=>by rw[e] at n1;omega,hB⟩
 have hev:evP (cdP n) (N+1) least d ((L.map tk).drop i)=(unP (cdP n) d ((L.map tk).drop i)).bind fun p=>loP (cdP n) N least d p.1 p.2:=Go.Pre.A5y
 rw[hev] at hk
 cases hu:unP (cdP n) d ((L.map tk).drop i) with
 |none=>
  rw[hu] at res hk
  have hb:b=true:=res
  subst hb
  exact Ya s hk a1 a2
 |some p=>
  obtain⟨v0,r⟩:=p
  rw[hu] at res hk
  obtain⟨rfl,rfl,hi',hdr⟩:=res
  have hi':i'≤L.length:=by omega
  refine ih (L.length+2) least i' i d v h h3 _ _ k hle (by omega) hi' (by omega) (by omega) a1 s ?_
  have hdr:(L.map tk).drop i'=r:=hdr
  rw[hdr];exact hk
omit htx he in
theorem Auh{N:Nat}(ihB:∀M,M<N→A8r hE B vL L n M)(ihL:∀M,M<N→Aoj hE B vL L n M):Aoj hE B vL L n N:=by
 intro m least i i0 d a h0 h p1 p5 k hle hn hi hN hm h0i s hk
 have hlen:(L.map tk).length=L.length:=List.length_map ..
 obtain⟨m,rfl⟩:∃m',m=m'+1:=⟨m-1,by omega⟩
 refine Ay5 ?_
 unfold Agu
 rw[Al,Ac,Ae]
 refine s.rs.l2 ?_
 rw[Av]
 refine Bz rfl ?_
 refine Bk9 hr s.rs fun h1 x1=>?_
 have s1:=s.ext x1
 by_cases hst:Go.Pre.stops Go.Pre.lvl least ((L.map tk).drop i)=true
 · have hlo:loP (cdP n) N least d a ((L.map tk).drop i)=some (a,(L.map tk).drop i):=Go.Pre.Ig hst
   rw[hlo] at hk
   have fin:=s1.out hk h0i (by omega) ⟨rfl,rfl,by omega,rfl⟩
   cases hd:(L.map tk).drop i with
   |nil=>
    rw[show Ab5 []=.tuple [(.str 0 0),(.int .i64 (Int.ofNat 0))] from rfl,Eb,De,Eh,Au]
    refine Hf ?_
    exact Bz rfl fin
   |cons t r=>
    rw[hd] at hst
    simp only[Go.Pre.stops,Bool.or_eq_true,decide_eq_true_eq] at hst
    by_cases e0:Go.Pre.lvl t=0
    · rw[Axl e0,Eb,De,Eh,Au]
      refine Hf ?_
      exact Bz rfl fin
    · rw[Anh e0,Eb,De,Eh,Au]
      refine Hf ?_
      refine Bz ?_ fin
      rw[Lg,ilt,Bool.or_eq_true,decide_eq_true_eq,decide_eq_true_eq]
      exact hst
 · have hlt:i<L.length:=by
    rcases Nat.lt_or_ge i L.length with h|h
    · exact h
    · rw[List.drop_eq_nil_of_le (by omega)] at hst;exact absurd rfl hst
   have hd:=Gd hlt
   rw[hd] at hst hk ⊢
   generalize htt:tk L[i]=t at*
   have hst':=hst
   simp only[Go.Pre.stops,Bool.or_eq_true,decide_eq_true_eq,not_or] at hst
   obtain⟨hs0,hsl⟩:=hst
   have hlv:=Ana t
   obtain⟨N,rfl⟩:∃N',N=N'+1:=⟨N-1,by omega⟩
   have hloop:loP (cdP n) (N+1) least d a (t::(L.map tk).drop (i+1))=(evP (cdP n) N (Go.Pre.lvl t+1) (d&&Go.Pre.need t a) ((L.map tk).drop (i+1))).bind fun p=>(Go.Pre.two t a p.1 d).bind fun a'=>loP (cdP n) N least d a' p.2:=Go.Pre.Asf hst'
   rw[hloop] at hk
   rw[Anh hs0,Eb,De,Eh,Au]
   refine Hf ?_
   refine Ca (by rw[Lg,ilt,decide_eq_false hs0,decide_eq_false hsl];rfl) ?_
   rw[Al,Ac,Ae]
   refine s1.rs.l1 ?_
   rw[Au,Eg,Cv (by omega),Ak,Al,Ac,Ae]
   refine s1.rs.s1 fun h2 f2 rs2=>?_
   have s2:=s1.step f2 rs2
   -- what follows,when the right side was read
   have cont:∀(h3:H)(i':Nat)(b:Bool)(bv a':V),LoS hE B vL h0 h3 p1 p5 a' i' b→i+1≤i'→i'≤(L.map tk).length+1→Res (L.map tk) (evP (cdP n) N (Go.Pre.lvl t+1) (d&&Go.Pre.need t a) ((L.map tk).drop (i+1))) i' b bv→Go.Pre.two t a bv d=some a'→(r87 W1 k m).a1 (.ptr B 0) (Int.ofNat least) d (.ptr p1 0) (.ptr p5 0) h3:=fun h3 i' b bv a' s3 b1 b2 res htwo=>by
    cases hev:evP (cdP n) N (Go.Pre.lvl t+1) (d&&Go.Pre.need t a) ((L.map tk).drop (i+1)) with
    |none=>
     rw[hev] at res hk
     have hb:b=true:=res
     subst hb
     obtain⟨m,rfl⟩:∃m',m=m'+1:=⟨m-1,by omega⟩
     exact Ya s3 hk (by omega) b2
    |some p=>
     obtain⟨v0,r⟩:=p
     rw[hev] at res hk
     obtain⟨rfl,rfl,hi',hdr⟩:=res
     have hi':i'≤L.length:=by omega
     rw[Option.bind_some,htwo,Option.bind_some] at hk
     refine ihL N (by omega) m least i' i0 d a' h0 h3 p1 p5 k hle (by omega) hi' (by omega) (by omega) (by omega) s3 ?_
     have hdr:(L.map tk).drop i'=r:=hdr
     rw[hdr];exact hk
   have hN':2*(L.length-(i+1))+1≤N:=by omega
   rw[Ce (s:=t.2) (t:=[124,124]) (l:=2) (c:=31868) rfl rfl,Ce (s:=t.2) (t:=[38,38]) (l:=2) (c:=9766) rfl rfl]
   refine Ap (fun e=>?_) (fun e=>?_)
   · have e:t.2=[124,124]:=of_decide_eq_true e
     have hnd:Go.Pre.need t a=vz a:=if_pos e
     rw[Eg,Cv (by omega),Ak]
     refine Lo (b:=vz a) (fun k' hk'=>s2.val ?_) ?_
     · rw[bv0];exact hk'
     refine ihB N (by omega) (Go.Pre.lvl t+1) (i+1) _ h2 _ (by omega) (by omega) hlt hN' s2.rs fun h3 bv i' b f3 rs3 b1 b2 res=>?_
     have s3:=s2.step f3 rs3
     refine Bo ?_
     refine Ku (v:=bv) fun h4 x4 n4 c45=>?_
     have s4:=s3.ext x4
     refine s4.val ?_
     refine Mc (b:=!vz bv) (fun k' hk'=>?_) ?_
     · rw[Ae]
       refine c45.atp.ld1 (j:=0) (by simp) ?_
       show asI .u64 (uI bv.1) _
       rw[Au,bv0,Bj];exact hk'
     rw[bv0,Bj]
     refine Dh (Ayc _) ?_
     refine s4.set fun h5 s5=>?_
     rw[hnd] at cont
     exact cont h5 i' b bv _ s5 b1 b2 res (if_pos e)
   · have e:¬t.2=[124,124]:=of_decide_eq_false e
     refine Ap (fun e2=>?_) (fun e2=>?_)
     · have e2:t.2=[38,38]:=of_decide_eq_true e2
       have hnd:Go.Pre.need t a=!vz a:=by unfold Go.Pre.need;rw[if_neg e,if_pos e2]
       rw[Eg,Cv (by omega),Ak]
       refine Lo (b:=!vz a) (fun k' hk'=>s2.val ?_) ?_
       · rw[bv0,Bj];exact hk'
       refine ihB N (by omega) (Go.Pre.lvl t+1) (i+1) _ h2 _ (by omega) (by omega) hlt hN' s2.rs fun h3 bv i' b f3 rs3 b1 b2 res=>?_
       have s3:=s2.step f3 rs3
       refine Bo ?_
       refine Ku (v:=bv) fun h4 x4 n4 c45=>?_
       have s4:=s3.ext x4
       refine s4.val ?_
       refine Lo (b:=!vz bv) (fun k' hk'=>?_) ?_
       · rw[Ae]
         refine c45.atp.ld1 (j:=0) (by simp) ?_
         show asI .u64 (uI bv.1) _
         rw[Au,bv0,Bj];exact hk'
       rw[bv0,Bj]
       refine Dh (Ayc _) ?_
       refine s4.set fun h5 s5=>?_
       rw[hnd] at cont
       exact cont h5 i' b bv _ s5 b1 b2 res (by unfold Go.Pre.two;rw[if_neg e,if_pos e2];rfl)
     · have e2:¬t.2=[38,38]:=of_decide_eq_false e2
       have hnd:Go.Pre.need t a=true:=by unfold Go.Pre.need;rw[if_neg e,if_neg e2]
       have htw:∀bv,Go.Pre.two t a bv d=Hr t.2 a bv d:=fun bv=>by unfold Go.Pre.two;rw[if_neg e,if_neg e2]
       rw[hnd,Bool.and_true] at cont hk
       refine s2.c5.atp.ldn rfl ?_
       rw[Eg,Cv (by omega),Ak]
       refine ihB N (by omega) (Go.Pre.lvl t+1) (i+1) d h2 _ (by omega) (by omega) hlt hN' s2.rs fun h3 bv i' b f3 rs3 b1 b2 res=>?_
       have s3:=s2.step f3 rs3
       refine s3.c5.atp.ldn rfl ?_
       refine Aaa (avV (v:=a)) ?_
       cases hb:b with
       |true=>
        subst hb
        have hnone:evP (cdP n) N (Go.Pre.lvl t+1) d ((L.map tk).drop (i+1))=none:=by
         cases hev:evP (cdP n) N (Go.Pre.lvl t+1) d ((L.map tk).drop (i+1)) with
         |none=>rfl
         |some p=>rw[hev] at res;exact absurd res.1 (by simp)
        rw[hnone] at hk
        have key:∀(v:V)(h4:H),FrO B h3 h4→Rz hE B vL i' true h4→Go.Den.stn 2 (.ptr p5 0) (vI v) h4 fun h91=>(r87 W1 k m).a1 (.ptr B 0) (Int.ofNat least) d (.ptr p1 0) (.ptr p5 0) h91:=fun v h4 f4 rs4=>by
         refine(s3.step f4 rs4).set fun h5 s5=>?_
         obtain⟨m,rfl⟩:∃m',m=m'+1:=⟨m-1,by omega⟩
         exact Ya s5 hk (by omega) b2
        exact Bfn s3.rs ⟨e,e2⟩ (fun v h4 _ f4 rs4=>key v h4 f4 rs4) (fun v h4 _ f4 rs4=>key v h4 f4 rs4)
       |false=>
        subst hb
        refine Bfn s3.rs ⟨e,e2⟩ (fun v h4 hv f4 rs4=>?_) (fun v h4 hv f4 rs4=>?_)
        · refine(s3.step f4 rs4).set fun h5 s5=>?_
          exact cont h5 i' false bv v s5 b1 b2 res (by rw[htw,hv])
        · refine(s3.step f4 rs4).set fun h5 s5=>?_
          obtain⟨m,rfl⟩:∃m',m=m'+1:=⟨m-1,by omega⟩
          refine Ya s5 ?_ (i0:=i0) (by omega) b2
          cases hev:evP (cdP n) N (Go.Pre.lvl t+1) d ((L.map tk).drop (i+1)) with
          |none=>rw[hev] at hk;exact hk
          |some p=>
           obtain⟨v0,r⟩:=p
           rw[hev] at res hk
           obtain⟨_,rfl,hi',hdr⟩:=res
           rw[Option.bind_some,htw,hv] at hk
           exact hk
theorem Aya(hC:Acp hE B vL L n):∀N,A8r hE B vL L n N∧Aoj hE B vL L n N:=by
 intro N
 induction N using Nat.strongRecOn with
 |_ N ih=>
  refine⟨?_,Auh hr hl (fun M hM=>(ih M hM).1) (fun M hM=>(ih M hM).2)⟩
  cases N with
  |zero=>intro least i d h k _ _ _ hN;omega
  |succ N=>exact Ax9 hr hl htx he hC (ih N (Nat.lt_succ_self _)).2
end
end Go.Den
noncomputable section
namespace Go.Den
open Go.RowKit
open Go.Pre (V Kq vz Fh Mf Mg Pd Hr Dt Ph Wy evB Cu unary Li Jc)
set_option maxRecDepth 100000
theorem Bdb(n:Int)(b:Bool)(h:H):Ax env (env.ty 55) [(0,(.int .u64 n)),(1,(.bool b))] h=some (.agg [.int .u64 n,.bool b],h):=A8o n b h
structure Bx(h0 h:H)(B p:P)(v:V):Prop where
 c:Cel h p 55 (vC v)
 l:h0.next.nat≤p.nat
 u:p.nat<h.next.nat
 n:p≠B
theorem Bx.step{h0 h h':H}{B p:P}{v:V}(b:Bx h0 h B p v)(f:FrO B h h'):Bx h0 h' B p v:=⟨b.c.fr f b.u b.n,b.l,Nat.lt_of_lt_of_le b.u f.1,b.n⟩
theorem Bx.loc{h0 h h':H}{B p q:P}{v:V}(b:Bx h0 h B p v)(f:FrO q h h')(hn:p≠q):Bx h0 h' B p v:=⟨b.c.fr f b.u hn,b.l,Nat.lt_of_lt_of_le b.u f.1,b.n⟩
section
variable{hE:H}{L:List En}{vL:AV}{B:P}{n:Nat}
variable(hr:RdT hE vL L)(hl:L.length≤1000000)(htx:∀x∈L,x.text.length≤1000000∧Sl x.sites)(he:Ky hE)
include hr hl htx he
theorem Aul(hC:Acp hE B vL L n):Acp hE B vL L (n+1):=by
 intro i d h k hn hi rs hk
 have hlen:(L.map tk).length=L.length:=List.length_map ..
 refine w49 (n:=5) Bw (g49 ?_)
 unfold Amh
 refine Bo ?_
 have hB:=rs.2.2.1
 have c1:Cel (h.new Ek) h.next 55 (vC (0#64,false)):=Oq
 have x1:Exh h (h.new Ek):=.new
 have n1:h.next.nat<(h.new Ek).next.nat:=by rw[Aw];omega
 have rs1:=rs.ext x1
 generalize h.new Ek=h1 at c1 x1 n1 rs1 ⊢
 have f1:FrO B h h1:=.exh x1
 have ne1:h.next≠B:=fun e=>by rw[←e] at hB;omega
 have b1:Bx h h1 B h.next (0#64,false):=⟨c1,Nat.le_refl _,n1,ne1⟩
 have hN:((L.map tk).drop i).length=L.length-i:=by rw[List.length_drop,hlen]
 refine(Aya hr hl htx he hC (2*((L.map tk).drop i).length+1)).1 1 i d h1 _ (by omega) (by omega) hi (by omega) rs1 fun h2 c i2 y2 f2 rs2 a1 a2 res=>?_
 refine Bo ?_
 refine Ku (v:=c) fun h3 x3 n3 c5=>?_
 have u2:=f2.1
 have f23:=f2.trans (FrO.exh (B:=B) x3)
 have b5:Bx h h3 B h2.next c:=⟨c5,by omega,n3,fun e=>by rw[e] at u2;omega⟩
 have rs3:=rs2.ext x3
 have f3:=f1.trans f23
 replace b1:=b1.step f23
 have n15:h.next≠h2.next:=fun e=>by rw[e] at n1;omega
 have hco:cdP (n+1) d ((L.map tk).drop i)=(evP (cdP n) (2*((L.map tk).drop i).length+1) 1 d ((L.map tk).drop i)).bind fun p=>Go.Pre.Sj p.2 [63] (fun r=>(cdP n (d&&!vz p.1) r).bind fun q=>Go.Pre.Sj q.2 [58] (fun r2=>(cdP n (d&&vz p.1) r2).map fun s=>(Fh p.1 q.1 s.1,s.2)) none) (some p):=rfl
 rw[hco] at hk
 clear hco
 -- a value goes out
 have out:∀(h9:H)(w:V)(i9:Nat)(y:Bool)(o:Go.Pre.R V Gx),Wt hE B vL (L.map tk) h o i k→FrO B h3 h9→Rz hE B vL i9 y h9→i≤i9→i9≤(L.map tk).length+1→Res (L.map tk) o i9 y c→Bx h h9 B h2.next c→
  Go.Den.ldn 2 (.ptr h2.next 0) h9 fun v19=>Go.Den.stn 2 (.ptr h.next 0) v19 h9 fun h20=>Go.Den.ldn 2 (.ptr h.next 0) h20 fun v21=>k v21 h20:=fun h9 w i9 y o hk f9 rs9 q1 q2 res9 b9=>by
  refine b9.c.atp.ldn rfl ?_
  have bb:=b1.step f9
  exact Je bb.c fun h10 f10=>hk h10 c i9 y ((f3.trans f9).loc f10 (Nat.le_refl _)) (rs9.loc f10 hB bb.u) q1 q2 res9
 rw[Al,Ac,Ae]
 refine rs3.l2 ?_
 rw[Av]
 cases hev:evP (cdP n) (2*((L.map tk).drop i).length+1) 1 d ((L.map tk).drop i) with
 |none=>
  rw[hev] at res hk
  have hb:y2=true:=res
  subst hb
  refine Hx (fun e=>nomatch e) (fun _=>?_)
  refine Bz rfl ?_
  exact out h3 c i2 true none hk .refl rs3 a1 a2 rfl b5
 |some p=>
  obtain⟨c0,r⟩:=p
  rw[hev] at res hk
  obtain⟨rfl,rfl,hi2,hdr⟩:=res
  have hi2:i2≤L.length:=by omega
  have hdr:(L.map tk).drop i2=r:=hdr
  refine Hx (fun _=>?_) (fun e=>nomatch e)
  refine c88 (s:=[63]) hr hl rs3 (fun h4 hlt ht f4 rs4=>?_) (fun h4 hno f4 rs4=>?_)
  · rw[Av]
    refine Ca rfl ?_
    rw[Gd hlt] at hdr
    subst hdr
    rw[Option.bind_some,Go.Pre.Vr ht] at hk
    have b14:=b1.step f4
    have b54:=b5.step f4
    refine Lo (b:=!vz c) (fun k' hk'=>?_) ?_
    · rw[Ae]
      refine b54.c.atp.ld1 (j:=0) (by simp) ?_
      show asI .u64 (uI c.1) _
      rw[Au,bv0,Bj];exact hk'
    refine hC (i2+1) _ h4 _ (by omega) hlt rs4 fun h5 a i5 y5 f5 rs5 a3 a4 res5=>?_
    refine Bo ?_
    refine Ku (v:=a) fun h6 x6 n6 c30=>?_
    have u5:=f5.1
    have u4:=f4.1
    have u3:=x3.1
    have f46:=f5.trans (FrO.exh (B:=B) x6)
    have b16:=b14.step f46
    have b56:=b54.step f46
    have b30:Bx h h6 B h5.next a:=⟨c30,by omega,n6,fun e=>by rw[e] at u5;omega⟩
    have rs6:=rs5.ext x6
    have f36:=f4.trans f46
    have n53:h2.next≠h5.next:=fun e=>by rw[←e] at u5;omega
    have n13:h.next≠h5.next:=fun e=>by rw[←e] at u5;omega
    -- no arm behind
    have bad:∀(h9:H)(i9:Nat)(y:Bool),FrO B h6 h9→Rz hE B vL i9 y h9→i≤i9→i9≤(L.map tk).length+1→Wt hE B vL (L.map tk) h none i k→
     Go.Den.st1 (.ptr B (0+2)) (.bool true) h9 fun h47=>Go.Den.ldn 2 (.ptr h2.next 0) h47 fun v48=>Go.Den.stn 2 (.ptr h.next 0) v48 h47 fun h49=>Go.Den.ldn 2 (.ptr h.next 0) h49 fun v50=>k v50 h49:=fun h9 i9 y f9 rs9 q1 q2 hkn=>by
     refine rs9.s2 fun h10 f10 rs10=>?_
     exact out h10 c i9 true none hkn ((f36.trans f9).trans f10) rs10 q1 q2 rfl ((b56.step f9).step f10)
    rw[Al,Ac,Ae]
    refine rs6.l2 ?_
    rw[Av]
    cases hc:cdP n (d&&!vz c) ((L.map tk).drop (i2+1)) with
    |none=>
     rw[hc] at res5 hk
     have hb:y5=true:=res5
     subst hb
     refine Hx (fun e=>nomatch e) (fun _=>?_)
     refine Bz rfl ?_
     rw[Al,Ac,Ae]
     exact bad h6 i5 true .refl rs6 (by omega) a4 hk
    |some p=>
     obtain⟨a0,r5⟩:=p
     rw[hc] at res5 hk
     obtain⟨rfl,rfl,hi5,hdr5⟩:=res5
     have hi5:i5≤L.length:=by omega
     have hdr5:(L.map tk).drop i5=r5:=hdr5
     refine Hx (fun _=>?_) (fun e=>nomatch e)
     refine c88 (s:=[58]) hr hl rs6 (fun h7 hlt7 ht7 f7 rs7=>?_) (fun h7 hno7 f7 rs7=>?_)
     · rw[Av]
       refine Ca rfl ?_
       rw[Gd hlt7] at hdr5
       subst hdr5
       rw[Option.bind_some,Go.Pre.Vr ht7] at hk
       have b17:=b16.step f7
       have b57:=b56.step f7
       have b37:=b30.step f7
       refine Lo (b:=vz c) (fun k' hk'=>?_) ?_
       · rw[Ae]
         refine b57.c.atp.ld1 (j:=0) (by simp) ?_
         show asI .u64 (uI c.1) _
         rw[Au,bv0];exact hk'
       refine hC (i5+1) _ h7 _ (by omega) hlt7 rs7 fun h8 bv i8 y8 f8 rs8 a5 a6 res8=>?_
       refine Bo ?_
       refine Ku (v:=bv) fun h9 x9 n9 c59=>?_
       have u8:=f8.1
       have u7:=f7.1
       have u6:=x6.1
       have f79:=f8.trans (FrO.exh (B:=B) x9)
       have b19:=b17.step f79
       have b59:=b57.step f79
       have b39:=b37.step f79
       have b99:Bx h h9 B h8.next bv:=⟨c59,by omega,n9,fun e=>by rw[e] at u8;omega⟩
       have rs9:=rs8.ext x9
       have f39:=f36.trans (f7.trans f79)
       have n39:h5.next≠h8.next:=fun e=>by rw[←e] at u8;omega
       rw[Ae]
       refine b39.c.atp.ld1 (j:=1) (by simp) ?_
       show asB (.bool a.2) _
       rw[Av]
       refine Mc (b:=bv.2) (fun k' hk'=>?_) ?_
       · rw[Ae]
         refine b99.c.atp.ld1 (j:=1) (by simp) ?_
         show asB (.bool bv.2) _
         rw[Av];exact hk'
       rw[Ae]
       refine b59.c.atp.ld1 (j:=0) (by simp) ?_
       show asI .u64 (uI c.1) _
       rw[Au,bv0]
       have fin:Res (L.map tk) ((cdP n (d&&vz c) ((L.map tk).drop (i5+1))).map fun s=>(Fh c a s.1,s.2)) i8 y8 (Fh c a bv):=by
        cases hc8:cdP n (d&&vz c) ((L.map tk).drop (i5+1)) with
        |none=>rw[hc8] at res8;exact res8
        |some p=>
         obtain⟨b0,r8⟩:=p
         rw[hc8] at res8
         obtain⟨q1,rfl,q3,q4⟩:=res8
         exact⟨q1,rfl,q3,q4⟩
       have last:∀(h10:H)(x:BitVec 64),x=(Fh c a bv).1→(∃w:V,w.1=x∧Bx h h10 B h5.next w)→FrO B h h10→Rz hE B vL i8 y8 h10→Bx h h10 B h.next (0#64,false)→(r49 W1 k 3).a1 (.ptr h.next 0) (.ptr h5.next 0) (a.2||bv.2) h10:=fun h10 x hx hw f10 rs10 b110=>by
        obtain⟨w,rfl,bw⟩:=hw
        refine Bc0 ?_
        unfold Amg
        rw[Ae]
        refine bw.c.atp.ld1 (j:=0) (by simp) ?_
        show asI .u64 (uI w.1) _
        rw[Au,Bdb,Ac]
        refine Je (v:=(w.1,a.2||bv.2)) b110.c fun h11 f11=>?_
        have he:((w.1,a.2||bv.2):V)=Fh c a bv:=by rw[hx];rfl
        rw[he]
        exact hk h11 _ i8 y8 (f10.loc f11 (Nat.le_refl _)) (rs10.loc f11 hB b110.u) (by omega) a6 fin
       refine Bcz ?_
       unfold Amf
       refine Ap (fun ez=>?_) (fun ez=>?_)
       · have ez:vz c=true:=ez
         refine b99.c.atp.ldn rfl ?_
         refine b39.c.stn (cs':=vC bv) rfl rfl (by decide) fun h10 f10 c10=>?_
         refine last h10 bv.1 (by unfold Fh;rw[ez];rfl) ⟨bv,rfl,c10,b39.l,Nat.lt_of_lt_of_le b39.u f10.1,b39.n⟩ ((f3.trans f39).loc f10 b39.l) (rs9.loc f10 (by have:=b39.l;omega) b39.u) (b19.loc f10 n13)
       · have ez:vz c=false:=ez
         exact last h9 a.1 (by unfold Fh;rw[ez];rfl) ⟨a,rfl,b39⟩ (f3.trans f39) rs9 b19
     · rw[Av]
       refine Bz rfl ?_
       rw[Al,Ac,Ae]
       refine bad h7 i5 false f7 rs7 (by omega) a4 ?_
       cases r5 with
       |nil=>exact hk
       |cons t2 r2=>
        have hlt7:i5<L.length:=by
         rcases Nat.lt_or_ge i5 L.length with h|h
         · exact h
         · rw[List.drop_eq_nil_of_le (by omega)] at hdr5;cases hdr5
        rw[Gd hlt7] at hdr5
        cases hdr5
        rw[Option.bind_some,Go.Pre.Re (hno7 hlt7)] at hk
        exact hk
  · rw[Av]
    refine Bz rfl ?_
    cases r with
    |nil=>exact out h4 c i2 false _ hk f4 rs4 a1 a2 ⟨rfl,rfl,by omega,hdr⟩ (b5.step f4)
    |cons t r2=>
     have hlt:i2<L.length:=by
      rcases Nat.lt_or_ge i2 L.length with h|h
      · exact h
      · rw[List.drop_eq_nil_of_le (by omega)] at hdr;cases hdr
     have hdr2:=hdr
     rw[Gd hlt] at hdr2
     cases hdr2
     rw[Option.bind_some,Go.Pre.Re (hno hlt)] at hk
     exact out h4 c i2 false _ hk f4 rs4 a1 a2 ⟨rfl,rfl,by omega,hdr⟩ (b5.step f4)
theorem Aoa:∀n,Acp hE B vL L n
 |0=>fun i d h k hn=>absurd hn (Nat.not_lt_zero _)
 |n+1=>Aul hr hl htx he (Aoa n)
end
def Ahe(T:List Gx):Option V:=match cdP (T.length+1) true T with
 |some (v,[])=>some v
 |_=>none
def Ao1(o:Option V):AV:=.tuple [vI (o.getD (0#64,false)),.bool o.isSome]
theorem c26{hE:H}{L:List En}{vL:AV}{k:KV}(hr:RdT hE vL L)(hl:L.length≤1000000)(htx:∀x∈L,x.text.length≤1000000∧Sl x.sites)(he:Ky hE)(hk:∀h',Exh hE h'→k (Ao1 (Ahe (L.map tk))) h'):W1 (.func 26) [vL] hE k:=by
 refine w26 (n:=1) Bw (g26 ?_)
 unfold Amr
 have hlen:(L.map tk).length=L.length:=List.length_map ..
 refine Bo ?_
 have c1:Cel (hE.new Ek) hE.next 55 (vC (0#64,false)):=Oq
 have x1:Exh hE (hE.new Ek):=.new
 have n1:hE.next.nat<(hE.new Ek).next.nat:=by rw[Aw];omega
 generalize hE.new Ek=h1 at c1 x1 n1 ⊢
 rw[A5x vL hr.sl,Ac,St]
 refine Vb (by simp) (Bo ?_)
 have rs:Rz hE h1.next vL 0 false (h1.new (rowOf 121 [vL,.int .i64 (Int.ofNat 0),.bool false])):=⟨x1.trans .new,by omega,by rw[Aw];omega,.new⟩
 have x2:Exh h1 (h1.new (rowOf 121 [vL,.int .i64 (Int.ofNat 0),.bool false])):=.new
 replace c1:=c1.ext x2 n1
 generalize h1.new (rowOf 121 [vL,.int .i64 (Int.ofNat 0),.bool false])=h2 at rs x2 c1 ⊢
 have u2:=x2.1
 have ne1:hE.next≠h1.next:=fun e=>by rw[←e] at n1;omega
 refine Aoa hr hl htx he (L.length+1) 0 true h2 _ (by omega) (Nat.zero_le _) rs fun h3 v i b f3 rs3 a1 a2 res=>?_
 rw[List.drop_zero] at res
 rw[←hlen] at res
 refine Bo ?_
 refine Ku (v:=v) fun h4 x4 n4 c4=>?_
 have u3:=f3.1
 have u4:=x4.1
 have rs4:=rs3.ext x4
 have c14:=(c1.fr f3 (by omega) ne1).ext x4 (by omega)
 have fin:∀(w:V)(o:Option V),o.getD (0#64,false)=w→Ahe (L.map tk)=o→Go.Den.stn 2 (.ptr hE.next 0) (vI w) h4 fun h29=>Go.Den.ldn 2 (.ptr hE.next 0) h29 fun v30=>k (.tuple [v30,(.bool o.isSome)]) h29:=fun w o hw ho=>by
  refine Je (k:=fun v30 h29=>k (.tuple [v30,(.bool o.isSome)]) h29) c14 fun h5 f5=>?_
  have:=hk h5 (rs4.1.loc f5 (Nat.le_refl _))
  unfold Ao1 at this
  rw[ho,hw] at this
  exact this
 rw[Al,Ac,Ae]
 refine rs4.l2 ?_
 rw[Av]
 cases hc:cdP ((L.map tk).length+1) true (L.map tk) with
 |none=>
  rw[hc] at res
  have hb:b=true:=res
  subst hb
  refine Hx (fun e=>nomatch e) (fun _=>?_)
  refine Bz rfl ?_
  rw[Atl,Ac]
  exact fin (0#64,false) none rfl (by unfold Ahe;rw[hc])
 |some p=>
  obtain⟨v0,r⟩:=p
  rw[hc] at res
  obtain⟨rfl,rfl,hi,hdr⟩:=res
  have hdr:(L.map tk).drop i=r:=hdr
  refine Hx (fun _=>?_) (fun e=>nomatch e)
  rw[Al,Ac,Ae]
  refine rs4.l1 ?_
  rw[Au,hr.len,ilt]
  refine Ap (fun e=>?_) (fun e=>?_)
  · have e:i<L.length:=of_decide_eq_true e
    rw[Atl,Ac]
    refine fin (0#64,false) none rfl ?_
    rw[Gd e] at hdr
    unfold Ahe;rw[hc,←hdr]
  · have e:¬i<L.length:=of_decide_eq_false e
    rw[List.drop_eq_nil_of_le (by omega)] at hdr
    refine c4.atp.ldn rfl ?_
    refine fin v (some v) rfl ?_
    unfold Ahe;rw[hc,←hdr]
end Go.Den
