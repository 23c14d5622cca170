/-
 Proof.
-/
import Derived.Test.YtmgalljhidgnoaaGreatDoorLxb
import Derived.Test.YtmgalljhidgnoaaGreatDoorPra
open Int renaming ofNat → vJ
open Nat renaming lt_irrefl → yd, zero_le → vF, le_refl → vE, le_of_lt → ze, not_lt_zero → vH
open List renaming getElem_cons_succ → vD, getElem_cons_zero → vz, length_cons → l6, getElem_append_left → yj, length_drop → yt, getElem_drop → yQ
namespace Go.Den
open Go.RowKit
set_option maxRecDepth 100000
def GA(a:H)(b:U)(c d:Nat)(f:KV)(g:List UInt8)(h:Nat)(i:Bool)(j:List Tok):Prop:=
 ∀n k,3*(g.length-h)+3≤n→j.length≤h→LS a k j→(r7 W1 f n).a1 3 6499937 c d b .Af .Af (.ptr a.next 0) i (vJ h) k
def Lx(B:List UInt8)(Q:List Tok→Prop)(i:Nat)(b:Bool)(T:List Tok):Prop:=
 ∀a c d f g,Rs a c B→B.length≤1000000→(∀T' h,Q T'→GA a c d f g B (B.length-1) h T')→GA a c d f g B i b T
theorem Lx.ends{B:List UInt8}{Q:List Tok→Prop}{b:Bool}{T:List Tok}(a:Q T):Lx B Q (B.length-1) b T:=
 λ_ _ _ _ _ _ _ c=>c T b a
theorem Lx.ws{a:List UInt8}{Q:List Tok→Prop}{c:Nat}{b:Bool}{d:List Tok}(hi:c<a.length)(f:a[c]≠10)(g:D8 a[c]=true)(h:Lx a Q (c+1) true d):Lx a Q c b d:=by intro i j k l m o p q n r s t u;obtain⟨n,rfl⟩:∃v,n=v+1:=⟨n-1,by omega⟩;have w:=o.ext u.1;refine ba ?_;unfold PI;rw[w.len,Cr,decide_eq_true hi];refine By rfl ?_;rw[Cu];refine w.Cs hi ?_;unfold ub;rw[AG,IM _ 10 10 rfl,decide_eq_false f];refine AR rfl ?_;rw[Cu];refine w.Cs hi ?_;unfold ub;rw[AG];refine Ex (c18 _) ?_;rw[AL,g];refine By rfl ?_;rw[Ep,C9 (by omega),BW];exact h i j k l m o p q n r (by omega) (by omega) u
theorem Lx.tok{a:List UInt8}{Q:List Tok→Prop}{i:Nat}{b:Bool}{c:List Tok}{C:Nat→Nat→Prop}(hi:i<a.length)(d:a[i]≠10)(g:D8 a[i]=false)(h:bt a i≠47∨(bt a (i+1)≠47∧bt a (i+1)≠42))
 (j:∀k l (m:KV),Rs k l a→a.length≤1000000→(∀o e p,C o e→AP k p→m (.tuple [.int .i64 (vJ o),.int .i64 (vJ e),.bool false]) p)→W1 (.func 20) [l,.int .i64 (vJ i)] k m)
 (q:∀o e,C o e→i<e∧e≤a.length)
 (r:∀o e f t,C o e→Lx a Q e false (c++[⟨o,(a.drop i).take (e-i),b,f,t⟩])):Lx a Q i b c:=by
 intro s l u v m w x y n k a a0 a1;obtain⟨n,rfl⟩:∃a,n=a+3:=⟨n-3,by omega⟩;have a:=w.ext a1.1;refine ba ?_;unfold PI;rw[a.len,Cr,decide_eq_true hi];refine By rfl ?_;rw[Cu];refine a.Cs hi ?_;unfold ub;rw[AG,IM _ 10 10 rfl,decide_eq_false d];refine AR rfl ?_;rw[Cu];refine a.Cs hi ?_;unfold ub;rw[AG];refine Ex (c18 _) ?_;rw[AL,g];refine AR rfl ?_;refine Agf a (by omega) h ?_;rw[Dw,AG,Dt,AL,Cr,decide_eq_false (yd i)];refine AR rfl ?_;refine j k l _ a x λo e p d g=>?_;obtain⟨h,a⟩:=q o e d;rw[Dw,AG,Dt,AG,VS,AL];have j:LS s p c:=by obtain⟨k,q,t,c,p⟩:=a1;exact⟨k.trans g,by have:=g.1;omega,t,by rw[g.2 _ q];exact c,p.ext g⟩
 refine Aku w x (by omega) j h a λf t k q=>?_;exact r o e f t d s l u v m w x y n k (by omega) (by rw[List.length_append,List.length_singleton];omega) q
theorem Aui{B:List UInt8}{i:Nat}(hi:i<B.length):B[i]=bt B i:=(DF hi).symm
theorem qP{e:TypeId}{sz:Nat}{a:TI}{b:H}{x:U}{c:List U}(d:BH b sz x=some (1,c))(f:a.size=sz)(g:Bl a 1=true):BK (some false) .Af x b e a=some (.slice b.next 0 1 sz false,b.new (.row (Ai c 0 .e) (Nat.mul 1 sz) 0 e false)):=by show(Option.rec none (λp=>Bool.rec none (Bool.rec (Dx e a.size .Af p.1 p.2 b) (some (.Af,b)) (Nat.beq p.1 0)) (An (Da .Af) (Bl a (Nat.add (C7 .Af) p.1)))) (BH b a.size x):Option (U×H))=_;rw[f,d];show(Bool.rec none (Dx e sz .Af 1 c b) (Bl a 1):Option (U×H))=_;rw[g];rfl
theorem Afs{a b:H}{d:U}{f:List UInt8}{g:List Tok}{h i n:Nat}{j:Bool}{k:KV}(l:Rs a d f)(m:f.length≤1000000)(h0:0<f.length)(o:bt f (f.length-1)=10)(p:LS a b g)
 (s:∀u q t v,AP a u→q.nat<u.next.nat→u.at q=.row t 4 0 43 v→AY 48 8 a.next.nat u (AD t 0) (g.map Tok.cells)→k (.tuple [.slice q 0 1 4 false,.Af]) u):
 (r7 W1 k (n+3)).a1 3 6499937 h i d .Af .Af (.ptr a.next 0) j (vJ (f.length-1)) b:=by
 obtain⟨w,x,t,y,m⟩:=p;have u:=l;obtain⟨i,j,k⟩:=u;have r:=j.ext w;have hi:f.length-1<f.length:=by omega
 have p:f.length-1<i.length:=by rw[k.1];omega
 obtain⟨u,a0,_,_,a1⟩:=k.2 (f.length-1) hi p;refine ba ?_;unfold PI;rw[(l.ext w).len,Cr,decide_eq_true hi];refine By rfl ?_;rw[Cu];refine(l.ext w).Cs hi ?_;rw[Aui hi,o];unfold ub;rw[AG];refine By rfl ?_;rw[Cu];refine r.T5 (j:=2) p (by rw[a1];show 2<3;decide) ?_;simp only[a1,rn,vD,vz];rw[AG,Ae];refine FU y (vF _) (by decide) rfl ?_;generalize u:b.put a.next (.row (Ai [.int .i64 (vJ a0)] (0+2) t) 4 0 43 true)=h3;have f:h3.at a.next=.row (Ai [.int .i64 (vJ a0)] (0+2) t) 4 0 43 true:=by subst u;exact Bg _ _ _
 have k:h3.next=b.next:=by subst u;rfl
 have f3:∀c,c≠a.next→h3.at c=b.at c:=λc o=>by subst u;exact AQ o
 have b:AD (Ai [.int .i64 (vJ a0)] (0+2) t) 0=AD t 0:=by rw[Am];simp
 have u:AY 48 8 a.next.nat h3 (AD t 0) (g.map Tok.cells):=m.frame (by rw[k];exact vE _) λc o _ m a2 z v a3=>f3 c λa4=>by subst a4;rw[y] at a3;cases a3
 refine Xu (c:=4) f (by decide) ?_;have y:Cp (Ai [.int .i64 (vJ a0)] (0+2) t) 4 0=[AD t 0,AD (Ai [.int .i64 (vJ a0)] (0+2) t) 1,AD (Ai [.int .i64 (vJ a0)] (0+2) t) 2,AD (Ai [.int .i64 (vJ a0)] (0+2) t) 3]:=by rw[←b];rfl
 rw[y,Abv,Ad,ou];rw[qP (sz:=4) (Lv rfl) Akt (kE (by decide)),Ad];generalize b:(Ob.row (Ai [AD t 0,AD (Ai [.int .i64 (vJ a0)] (0+2) t) 1,AD (Ai [.int .i64 (vJ a0)] (0+2) t) 2,AD (Ai [.int .i64 (vJ a0)] (0+2) t) 3] 0 oA) 4 0 43 true:Ob FT)=R1;generalize y:Ai [AD t 0,AD (Ai [.int .i64 (vJ a0)] (0+2) t) 1,AD (Ai [.int .i64 (vJ a0)] (0+2) t) 2,AD (Ai [.int .i64 (vJ a0)] (0+2) t) 3] 0 .e=R2;have b:AD R2 0=AD t 0:=by subst y;rw[Am];simp
 generalize y:(h3.new R1).new (.row R2 (Nat.mul 1 4) 0 43 false)=h5;have a5:AP h3 h5:=by subst y;exact AP.new.trans AP.new
 have a6:(h3.new R1).next.nat<h5.next.nat:=by subst y;exact Nat.lt_of_lt_of_eq (Nat.lt_succ_self _) Bd.symm
 have a7:h3.next.nat<(h3.new R1).next.nat:=by rw[Bd];omega
 have a7:h5.at (h3.new R1).next=.row R2 4 0 43 false:=by subst y;exact AS _ _
 generalize (h3.new R1).next=q at*;have y:a.next.nat<h3.next.nat:=by rw[k];exact x
 have k:q≠a.next:=λa4=>by subst a4;omega
 have x:AP a h5:=by refine⟨Nat.le_trans (ze y) a5.1,λc o=>?_⟩;rw[a5.2 c (by omega),f3 c (λa4=>by subst a4;exact absurd o (yd _)),w.2 c o]
 have r5:Rd 3 h5 d i:=j.ext x;have w:AY 48 8 a.next.nat h5 (AD t 0) (g.map Tok.cells):=u.ext a5;have d:h5.at a.next=.row (Ai [.int .i64 (vJ a0)] (0+2) t) 4 0 43 true:=by rw[a5.2 _ y];exact f
 rw[Cu];refine r5.T5 (j:=2) p (by rw[a1];show 2<3;decide) ?_;simp only[a1,rn,vD,vz];rw[AG,Acm,Ad];refine O3 (c:=4) d (vF _) rfl (by decide) (by decide) ?_;generalize i:(Ob.row (Ai [.Af,.int .i64 (vJ a0),.int .i64 (.ofNat 0),.bool false] 0 (Ai [.int .i64 (vJ a0)] (0+2) t)) 4 0 43 true:Ob FT)=R3;rw[Ep,C9 (by omega),BW];have j:(h5.put a.next R3).at q=.row R2 4 0 43 false:=by rw[AQ k];exact a7
 have u:AP a (h5.put a.next R3):=⟨x.1,λc o=>by rw[AQ (λa4=>by subst a4;exact absurd o (yd _))];exact x.2 c o⟩;have y:AY 48 8 a.next.nat (h5.put a.next R3) (AD t 0) (g.map Tok.cells):=w.frame (vE _) λc o _ m a2 z v a3=>AQ λa4=>by subst a4;rw[d] at a3;cases a3
 have f:(h5.put a.next R3).next=h5.next:=rfl;generalize h5.put a.next R3=h6 at*;refine ba ?_;unfold PI;rw[(l.ext u).len,Cr,decide_eq_false (by omega)];refine AR rfl ?_;rw[Oi,Cr,decide_eq_true Nat.one_pos];refine By rfl ?_;rw[Oi];rw[show EU (vJ 1) (vJ 1)=vJ 0 from rfl,show wrap .i64 (vJ 0)=vJ 0 from C9 (by omega),BW,Cu];refine N2 Nat.one_pos ?_;rw[Ae];refine FU j (vF _) (by decide) rfl ?_;refine Apk ?_;unfold Yj;refine s _ q _ false ?_ (by rw[Dc,f];exact a6) (Bg _ _ _) ?_
 · exact⟨u.1,λc o=>by rw[AQ (λa4=>by subst a4;omega)];exact u.2 c o⟩
 · have:AD (Ai [.int .i64 (vJ h)] (0+0*4+2) R2) 0=AD t 0:=by rw[Am,if_neg (by omega)];exact b
   rw[this];exact y.frame (vE _) λc o _ m a2 z v a3=>AQ λa4=>by subst a4;rw[j] at a3;cases a3
end Go.Den
namespace Go.Den
open Go.RowKit
set_option maxRecDepth 100000
structure dT(B:List UInt8)(i m:Nat):Prop where
 lt:i<m
 hm:m<B.length
 low:∀j,i≤j→j<m→DK (bt B j)=true
 stop:bt B m=32∨bt B m=10
theorem mJ{x:UInt8}(h:DK x=true):BZ x=true:=by unfold DK at h;unfold BZ;rw[h];rfl
theorem dT.ne{a:List UInt8}{b c j:Nat}(d:dT a b c)(f:b≤j)(g:j≤c)(n:UInt8)(h:DK n=false)(i:n≠32)(k:n≠10):bt a j≠n:=by
 by_cases e:j=c
 · subst e;rcases d.stop with q|q
   · rw[q];exact λe=>i e.symm
   · rw[q];exact λe=>k e.symm
 · exact Et (d.low j f (by omega)) n h
theorem dT.Aao{B:List UInt8}{i m:Nat}(w:dT B i m):LP B i=Int.negSucc 0:=by have lt:=w.lt;unfold LP;rw[decide_eq_false (w.ne (vE _) (by omega) 34 (by decide) (by decide) (by decide)),decide_eq_false (w.ne (vE _) (by omega) 39 (by decide) (by decide) (by decide)),decide_eq_false (w.ne (j:=i+1) (by omega) lt 56 (by decide) (by decide) (by decide)),decide_eq_false (w.ne (j:=i+1) (by omega) lt 34 (by decide) (by decide) (by decide)),decide_eq_false (w.ne (j:=i+1) (by omega) lt 39 (by decide) (by decide) (by decide))];rw[if_neg (by decide),Bool.and_false,Bool.false_and,if_neg (by decide),Bool.or_self,Bool.and_false,if_neg (by decide)]
theorem fQ{a:H}{v:U}{b:List UInt8}{i c:Nat}{d:KV}(f:Rs a v b)(g:b.length≤1000000)(h:dT b i c)(k:d (.tuple [.int .i64 (vJ 1),.int .i64 (vJ c),.bool false]) a):∀(n j:Nat),c-j<n→i<j→j≤c→(Ub W1 d n).a1 v (vJ j) a
 |0,_,l,_,_=>absurd l (vH _)
 |n+1,j,l,hi,m=>by
  have o:=h.hm;refine Auf ?_;unfold WQ;refine RK f ?_;unfold ub;rw[AG];refine Ex (ki _) ?_;rw[AL];refine G8 (b:=isDigit (bt b j)) (λp r=>?_) ?_
  · refine RK f ?_;unfold ub;rw[AG];refine Ex (c47 _) ?_;rw[AL];exact r
  by_cases e:j=c
  · subst e;have s:BZ (bt b j)=false∧isDigit (bt b j)=false:=by rcases h.stop with q|q<;>(rw[q];exact⟨rfl,rfl⟩)
    rw[s.1,s.2];exact AR rfl k
  · rw[mJ (h.low j (by omega) (by omega))];refine By rfl ?_;rw[Ep,C9 (by omega),BW];exact fQ f g h k n (j+1) (by omega) (by omega) (by omega)
theorem Bex{a:H}{v:U}{b:List UInt8}{i c:Nat}{d:KV}(f:Rs a v b)(g:b.length≤1000000)(h:dT b i c)(j:d (.tuple [.int .i64 (vJ 1),.int .i64 (vJ c),.bool false]) a):W1 (.func 20) [v,.int .i64 (vJ i)] a d:=by have k:=h.hm;have l:=h.lt;refine w20 (n:=b.length+4) AJ (g20 ?_);unfold Vl;refine c44 f (by omega) ?_;rw[AG,h.Aao,show CJ (vJ 0) (Int.negSucc 0)=false by rw[Gl];rfl];refine AR rfl ?_;refine Axe ?_;unfold V4;refine RK f ?_;unfold ub;rw[AG];refine Ex (ki _) ?_;rw[AL,mJ (h.low i (vE _) l)];refine By rfl ?_;rw[Ep,C9 (by omega),BW];exact fQ (i:=i) f g h j _ (i+1) (by omega) (by omega) l
def jr(x:Tok):List UInt8×Bool:=(x.text,x.space)
theorem U4:∀(a:List UInt8)(j:Nat),j<Ca a→∃b:j<a.length,DK a[j]=true
 |[],j,b=>absurd b (vH _)
 |x::r,j,b=>by
  unfold Ca at b;by_cases e:DK x=true
  · rw[if_pos e] at b;cases j with
    |zero=>exact⟨Nat.succ_pos _,e⟩
    |succ j=>obtain⟨c,d⟩:=U4 r j (by omega);exact⟨by simp only[l6];omega,d⟩
  · rw[if_neg e] at b;exact absurd b (vH _)
theorem dX{a:List UInt8}(b:Gb a):∀c:Ca a<a.length,a[Ca a]=32:=by
 induction a with
 |nil=>exact λc=>absurd c (vH _)
 |cons x r d=>
  intro c;by_cases e:DK x=true
  · have f:Ca (x::r)=Ca r+1:=by show(if DK x=true then Ca r+1 else 0)=_;rw[if_pos e]
    have g:=d (λh i=>b h (List.mem_cons_of_mem _ i)) (by simp only[l6] at c;omega);rw[←g];exact getElem_congr_idx f
  · have f:Ca (x::r)=0:=by show(if DK x=true then Ca r+1 else 0)=_;rw[if_neg e]
    rcases b x (List.mem_cons_self ..) with q|q
    · exact absurd q e
    · rw[←q];exact getElem_congr_idx f
theorem Lx.wd{a:List UInt8}{Q:List Tok→Prop}(c:Gb a)(d:a.length≤999990):∀(g h:Nat)(b:Bool)(T:List Tok),h≤a.length→a.length-h<g→(∀T',T'.map jr=E2 b g (a.drop h)→Q (T++T'))→Lx (a++[10]) Q h b T
 |0,h,b,T,_,i,_=>absurd i (vH _)
 |g+1,h,b,T,hi,i,k=>by
  have l:(a++[10]).length=a.length+1:=by simp
  by_cases e:h=a.length
  · subst e;have m:=k [] (by rw[List.drop_eq_nil_of_le (vE _)];rfl);rw[List.append_nil] at m;have:=Lx.ends (B:=a++[10]) (Q:=Q) (b:=b) (T:=T) m;rw[l,Nat.add_sub_cancel] at this;exact this
  have n:h<a.length:=by omega
  have o:h<(a++[10]).length:=by omega
  have p:(a++[10])[h]=a[h]:=yj n;have r:a.drop h=a[h]::a.drop (h+1):=List.drop_eq_getElem_cons n;rcases c a[h] (List.getElem_mem _) with q|q
  · have s:=La (a.drop h);rw[yt] at s;have u:Ca (a.drop h)=Ca (a.drop (h+1))+1:=by rw[r];show(if DK a[h]=true then Ca (a.drop (h+1))+1 else 0)=_;rw[if_pos q]
    have v:Gb (a.drop h):=λw x=>c w (List.mem_of_mem_drop x);have y:dT (a++[10]) h (h+Ca (a.drop h)):=by
     refine⟨by omega,by omega,λj i l=>?_,?_⟩
     · obtain⟨n,s⟩:=U4 (a.drop h) (j-h) (by omega);rw[yQ] at s;rw[DF (by omega),yj (by omega)];rw[←s];congr 2;omega
     · by_cases w:h+Ca (a.drop h)<a.length
       · have s:=dX v (by rw[yt];omega);rw[yQ] at s;exact .inl (by rw[DF (by omega),yj w];exact s)
       · have x:h+Ca (a.drop h)=a.length:=by omega
         exact .inr (by rw[x,DF (by omega),List.getElem_append_right (vE _)];simp)
    refine Lx.tok (C:=λ_ e=>e=h+Ca (a.drop h)) o (by rw[p];exact Et q 10 (by decide)) (by rw[p];exact M9 q) (.inl ?_) (λm i l n v w=>?_) (λs e x=>?_) (λs e f t x=>?_)
    · rw[DF o,p];exact Et q 47 (by decide)
    · exact Bex n v y (w 1 _ m rfl .refl)
    · subst x;exact⟨y.lt,ze y.hm⟩
    · subst x;refine Lx.wd c d g _ false _ (by omega) (by omega) λT' i=>?_;rw[List.append_assoc];refine k _ ?_;rw[List.map_append,i,r];have l:E2 b (g+1) (a[h]::a.drop (h+1))=((a[h]::a.drop (h+1)).take (Ca (a.drop (h+1))+1),b)::E2 false g ((a.drop (h+1)).drop (Ca (a.drop (h+1)))):=by show(if a[h]=32 then _ else _)=_;rw[if_neg (Et q 32 (by decide))]
      rw[l,List.drop_drop,←r,u];show[jr _]++_=_;unfold jr;rw[List.singleton_append,show h+1+Ca (a.drop (h+1))=h+(Ca (a.drop (h+1))+1) by omega,show h+(Ca (a.drop (h+1))+1)-h=Ca (a.drop (h+1))+1 by omega,List.drop_append_of_le_length (by omega),List.take_append_of_le_length (by rw[yt];omega)]
  · refine Lx.ws o (by rw[p,q];decide) (by rw[p,q];decide) (Lx.wd c d g (h+1) true T (by omega) (by omega) λT' i=>k T' ?_);rw[i,r];show _=if a[h]=32 then _ else _
    rw[if_pos q]
end Go.Den
