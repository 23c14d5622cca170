/-
 Proof.
-/
import Derived.Test.YtmgalljhidgnoaaGreatDoorMak
import Derived.Test.YtmgalljhidgnoaaGreatDoorBkb
open List renaming length_append → o7, length_map → s9, getElem_map → ye
open Nat renaming lt_of_lt_of_le → vZ, zero_le → vF, le_refl → vE, pow_succ → yf, beq_refl → wZ, beq → vS, add → vN, div → vR, sub → vQ, mod → vT, ble_eq_true_of_le → wY, succ_mul → wK, zero_mul → xl, mul → vO, le_trans → vY
open Bool renaming rec → wg
open Int renaming ofNat → vJ
open Option renaming rec → wz
namespace Go.Den
open Go.RowKit
set_option maxRecDepth 100000
abbrev Fl:=List UInt8×List UInt8
def DA:List Fl→List UInt8→Option (List UInt8)
 |[],_=>none
 |f::r,p=>if f.1=p then some f.2 else DA r p
end Go.Den
noncomputable section
namespace Go.Den
open Go.RowKit
set_option maxRecDepth 100000
theorem Dl.pre{b:H}{q:P}{o:Nat}{a c:List U}(d:Dl b q o (a++c)):Dl b q o a:=by obtain⟨f,g,h,i,k⟩:=d;rw[o7] at i;refine⟨f,g,h,by omega,λj l=>?_⟩;rw[k j (by rw[o7];omega),List.getElem_append_left l]
def rcs(s:List UInt8)(a b:U)(n hi:Nat):List U:=[S s,a,b,.int .i64 (.ofNat n),.int .i64 (.ofNat hi)]
def Cl:Nat→H→U→List UInt8→Prop
 |0,_,v,a=>v=.Bn∧a=[]
 |c+1,d,v,a=>(v=.Bn∧a=[])∨∃q hi,v=.ptr q 0∧q.nat<d.next.nat∧hi≤c+1∧
  (Dl d q 0 (rcs a .Bn .Bn a.length hi)∨∃f b g h,Dl d q 0 (rcs [] (.ptr f 0) b a.length hi)∧a=g++h∧g≠[]∧Cl c d (.ptr f 0) g∧Cl c d b h)
theorem Cl.ext:∀{a:Nat}{h h':H}{v:U}{s:List UInt8},Cl a h v s→AP h h'→Cl a h' v s
 |0,_,_,_,_,c,_=>c
 |a+1,h,h',v,s,c,x=>by
  rcases c with c|⟨q,hi,e,d,f,g⟩
  · exact .inl c
  · refine .inr ⟨q,hi,e,vZ d x.1,f,?_⟩;rcases g with g|⟨i,b,j,k,g,l,m,n,o⟩
    · exact .inl (g.ext x d)
    · exact .inr ⟨i,b,j,k,g.ext x d,l,m,Cl.ext n x,Cl.ext o x⟩
theorem Cl.up:∀{a:Nat}{b:H}{v:U}{c:List UInt8},Cl a b v c→Cl (a+1) b v c
 |0,_,_,_,d=>.inl d
 |a+1,b,v,c,d=>by
  rcases d with d|⟨q,hi,e,f,g,h⟩
  · exact .inl d
  · refine .inr ⟨q,hi,e,f,by omega,?_⟩;rcases h with h|⟨i,j,k,l,h,m,n,o,p⟩
    · exact .inl h
    · exact .inr ⟨i,j,k,l,h,m,n,Cl.up o,Cl.up p⟩
theorem aL(q:P):Dh env .eql 87 (.ptr q 0) .Bn=some (.bool false):=by kernel_rfl
theorem iP:Dh env .eql 87 .Bn .Bn=some (.bool true):=by kernel_rfl
theorem IG{b:Bool}{K:U→Prop}:oV (some (.bool b)) K=K (.bool b):=rfl
theorem rf{a:Nat}{b:H}{v:U}{c:List UInt8}{d:KV}(f:Cl a b v c)(g:d (.int .i64 (.ofNat c.length)) b):W1 (.func 103) [v] b d:=by
 refine Anw (n:=1) AJ (Ayj ?_);unfold Qz;rcases Classical.em (v=.Bn∧c=[]) with h|h
 · obtain⟨rfl,rfl⟩:=h;rw[iP,IG,AL];exact By rfl g
 match a,f with
 |0,f=>exact absurd f h
 |a+1,.inl f=>exact absurd f h
 |a+1,.inr ⟨q,hi,e,i,j,k⟩=>
  subst e;rw[aL,IG,AL];refine AR rfl ?_;rw[Aj,Ad,Ae];rcases k with k|⟨l,m,n,o,k,_⟩
  · refine k.Z (j:=3) (by show 3<5;decide) ?_;show Ar .i64 (.int .i64 (.ofNat c.length)) _;rw[AG];exact g
  · refine k.Z (j:=3) (by show 3<5;decide) ?_;show Ar .i64 (.int .i64 (.ofNat c.length)) _;rw[AG];exact g
theorem Aqn{a:Nat}{b:H}{v:U}{c:List UInt8}{d:KV}(f:Cl a b v c)(g:∀hi:Nat,hi≤a→d (.int .i64 (.ofNat hi)) b):W1 (.func 104) [v] b d:=by
 refine Aou (n:=1) AJ (Bbp ?_);unfold QB;rcases Classical.em (v=.Bn∧c=[]) with h|h
 · obtain⟨rfl,rfl⟩:=h;rw[iP,IG,AL];exact By rfl (g 0 (vF _))
 match a,f with
 |0,f=>exact absurd f h
 |a+1,.inl f=>exact absurd f h
 |a+1,.inr ⟨q,hi,e,i,j,k⟩=>
  subst e;rw[aL,IG,AL];refine AR rfl ?_;rw[Aj,Ad,Ae];rcases k with k|⟨l,m,n,o,k,_⟩
  · refine k.Z (j:=4) (by show 4<5;decide) ?_;show Ar .i64 (.int .i64 (.ofNat hi)) _;rw[AG];exact g hi j
  · refine k.Z (j:=4) (by show 4<5;decide) ?_;show Ar .i64 (.int .i64 (.ofNat hi)) _;rw[AG];exact g hi j
def rz:List U:=(DS 189).zero.drop 5
theorem Aqt(l c:Nat)(n m:Int)(h:H):AF env (env.ty 189) [(0,.str l c),(3,.int .i64 n),(4,.int .i64 m)] h=some (.agg ([.str l c,.Bn,.Bn,.int .i64 n,.int .i64 m]++rz),h):=by kernel_rfl
theorem Akm(q r:P)(n m:Int)(h:H):AF env (env.ty 189) [(1,.ptr q 0),(2,.ptr r 0),(3,.int .i64 n),(4,.int .i64 m)] h=some (.agg ([.str 0 0,.ptr q 0,.ptr r 0,.int .i64 n,.int .i64 m]++rz),h):=by kernel_rfl
theorem Aet(q:P)(n m:Int)(h:H):AF env (env.ty 189) [(1,.ptr q 0),(2,.Bn),(3,.int .i64 n),(4,.int .i64 m)] h=some (.agg ([.str 0 0,.ptr q 0,.Bn,.int .i64 n,.int .i64 m]++rz),h):=by kernel_rfl
theorem Cl.v:∀{a:Nat}{h:H}{v:U}{s:List UInt8},Cl a h v s→v=.Bn∨∃q,v=.ptr q 0
 |0,_,_,_,b=>.inl b.1
 |_+1,_,_,_,.inl b=>.inl b.1
 |_+1,_,_,_,.inr ⟨q,_,e,_⟩=>.inr ⟨q,e⟩
theorem Aud{a:Nat}{b:U}{c:H}{d:List UInt8}(f:Cl a c b d)(q:P)(n g:Int)(h:H):AF env (env.ty 189) [(1,.ptr q 0),(2,b),(3,.int .i64 n),(4,.int .i64 g)] h=some (.agg ([.str 0 0,.ptr q 0,b,.int .i64 n,.int .i64 g]++rz),h):=by
 rcases f.v with rfl|⟨r,rfl⟩
 · exact Aet q n g h
 · exact Akm q r n g h
theorem Avv(h:H):AF env (env.ty 189) [] h=some (.agg ([.str 0 0,.Bn,.Bn,.int .i64 (.ofNat 0),.int .i64 (.ofNat 0)]++rz),h):=by kernel_rfl
theorem CB{l:List U}{K:List U→Prop}:EX (.agg l) K=K l:=rfl
theorem c75{a:List UInt8}{b:H}{c:KV}(d:∀f v,AP b f→Cl 1 f v a→(a≠[]→∃q,v=.ptr q 0)→c v f):W1 (.func 75) [S a] b c:=by
 refine w75 (n:=1) AJ (g75 ?_);unfold Wz;rw[Rm];refine Bp (λe=>?_) (λe=>?_)
 · have e:a=[]:=of_decide_eq_true e;exact d b .Bn .refl (.inl ⟨rfl,e⟩) λq=>absurd e q
 · rw[Aqt,Ad,CB];refine CA (by simp) (BX ?_);exact d _ _ .new (.inr ⟨_,1,rfl,by rw[Bd];omega,vE _,.inl Dl.newRow.pre⟩) λ_=>⟨_,rfl⟩
theorem c76{a:Nat}(b:a≤1000){c:H}{q:P}{d:U}{f g:List UInt8}{h:KV}(i:Cl a c (.ptr q 0) f)(j:Cl a c d g)(k:f≠[])(l:f.length+g.length≤1000000)(m:∀n o,AP c n→Cl (a+1) n (.ptr o 0) (f++g)→h (.ptr o 0) n):W1 (.func 76) [.ptr q 0,d] c h:=by
 refine w76 (n:=1) AJ (g76 ?_);unfold Wm;refine rf i ?_;rw[AG];refine rf j ?_;rw[AG];refine Bx (by omega) ?_;refine Aqn i λp r=>?_;rw[AG];refine Aqn j λs t=>?_;rw[AG];have u:∃v,v≤a∧(AB env .max [3,3] [.int .i64 (.ofNat p),.int .i64 (.ofNat s)] c:Option (U×H))=some (.int .i64 (.ofNat v),c):=by
  have e:(AB env .max [3,3] [.int .i64 (.ofNat p),.int .i64 (.ofNat s)] c:Option (U×H))=some (.int .i64 (wg (vJ p) (vJ s) (Ba (.ofNat p) (.ofNat s))),c):=rfl;rw[e];cases Ba (.ofNat p) (.ofNat s) with
  |true=>exact⟨s,t,rfl⟩
  |false=>exact⟨p,r,rfl⟩
 obtain⟨v,w,em⟩:=u;rw[em,Ad,AG];refine Bx (by omega) ?_;rw[Aud j,Ad,CB];refine CA (by simp) (BX ?_);have x:AP c (c.new (rowOf 189 ([.str 0 0,.ptr q 0,d,.int .i64 (vJ (f.length+g.length)),.int .i64 (vJ (1+v))]++rz))):=.new;refine m _ _ x (.inr ⟨_,1+v,rfl,by rw[Bd];omega,by omega,.inr ⟨q,d,f,g,?_,rfl,k,i.ext x,j.ext x⟩⟩);rw[o7];exact Dl.newRow.pre
theorem c55:∀(a:Nat),a≤100→∀{b:List UInt8}{c:H}{d:KV},b.length≤256*2^a→b.length≤1000000→(∀f v,AP c f→Cl (a+1) f v b→(b≠[]→∃q,v=.ptr q 0)→d v f)→W1 (.func 55) [S b] c d
 |a,g,b,c,d,h,i,j=>by
  refine w55 (n:=1) AJ (g55 ?_);unfold X0;rw[show CJ (vJ b.length) (vJ 256)=decide (b.length≤256) from Gc _ _];refine Bp (λe=>?_) (λe=>?_)
  · refine c75 λf v x k l=>j f v x ?_ l;have up:∀n,Cl (n+1) f v b:=λn=>by
     induction n with
     |zero=>exact k
     |succ n m=>exact m.up
    exact up a
  · have e:¬b.length≤256:=of_decide_eq_false e
    match a,g,h with
    |0,_,h=>exact absurd (by simpa using h) e
    |a+1,g,h=>
     rw[yf] at h;have o:gY .i64 (vJ b.length) (vJ 2)=λK=>fI (wrap .i64 (vJ (b.length / 2))) K:=rfl;rw[o];show fI (wrap .i64 (vJ (b.length / 2))) _;rw[C9 (by omega),BW];refine HD (fU (by omega) ?_);refine HD (jd (by omega) ?_);have p:(b.take (b.length / 2)).length=b.length / 2:=by rw[List.length_take];omega
     have r:(b.drop (b.length / 2)).length=b.length-b.length / 2:=by rw[List.length_drop]
     have s:b.take (b.length / 2)≠[]:=λq=>by rw[q] at p;simp at p;omega
     refine c55 a (by omega) (by omega) (by omega) λt u w y c=>?_;refine c55 a (by omega) (by omega) (by omega) λd i l f _=>?_;obtain⟨k,rfl⟩:=c s;refine c76 (by omega) (y.ext l) f s (by omega) λm q3 g r3=>?_;rw[List.take_append_drop] at r3;exact j m _ ((w.trans l).trans g) r3 λ_=>⟨_,rfl⟩
theorem c28{a:List UInt8}(b:a.length≤2048){c:H}{d:KV}(f:∀g q,AP c g→Cl 4 g (.ptr q 0) a→d (.tuple [.ptr q 0,.int .i64 (vJ 0)]) g):W1 (.func 28) [S a] c d:=by
 refine w28 (n:=1) AJ (g28 ?_);unfold VW;rw[show Ba (vJ 65536) (vJ a.length)=decide (65536<a.length) from Cr _ _];refine AR (decide_eq_false (by omega)) ?_;refine c55 3 (by decide) (by omega) (by omega) λh i j k l=>?_;refine w54 (n:=1) AJ (g54 ?_);unfold XE;by_cases m:a=[]
 · have n:i=.Bn∨∃q,i=.ptr q 0:=by
    rcases k with⟨e,_⟩|⟨q,_,e,_⟩
    · exact .inl e
    · exact .inr ⟨q,e⟩
   rcases n with rfl|⟨q,rfl⟩
   · rw[iP,IG,AL];refine By rfl ?_;rw[Avv,Ad,CB];refine CA (by simp) (BX ?_);subst m;exact f _ _ (j.trans .new) (.inr ⟨_,0,rfl,by rw[Bd];omega,vF _,.inl Dl.newRow.pre⟩)
   · rw[aL,IG,AL];exact AR rfl (f _ _ j k)
 · obtain⟨q,rfl⟩:=l m;rw[aL,IG,AL];exact AR rfl (f _ _ j k)
theorem c79{b:P}{hE:H}:∀(g:Nat){f:H}{v:U}{a i:List UInt8}{p:KV},Cl g hE v a→hE.next.nat≤b.nat→b.nat<f.next.nat→AP hE f→Gz (b.nat+1) f b i→i.length+a.length≤1000000→(∀a0 l,AP hE l→Gz (b.nat+1) l b (i++a)→p a0 l)→W1 (.func 79) [v,.func (.func 80) [] [.ptr b 0]] f p
 |g,f,v,a,i,p,h,t,a5,d,n,a7,o=>by
  refine w79 (n:=1) AJ (g79 ?_);unfold Vz;refine rf (h.ext d) ?_;rw[AG,show AN (vJ a.length) (vJ 0)=decide (a.length=0) from DB _ _];refine Bp (λe=>?_) (λe=>?_)
  · have e:a=[]:=List.eq_nil_of_length_eq_zero (of_decide_eq_true e);subst e;exact o _ _ d (by rw[List.append_nil];exact n)
  · have e:¬a.length=0:=of_decide_eq_false e;have x:a≠[]:=λq=>e (by rw[q];rfl)
    match g,h with
    |0,h=>exact absurd h.2 x
    |g+1,.inl h=>exact absurd h.2 x
    |g+1,.inr ⟨q,hi,e,k,b3,c⟩=>
     subst e;have b4:q.nat<f.next.nat:=vZ k d.1;rw[Aj,Ad,Ae];rcases c with c|⟨y,a2,b5,b6,c,a4,b1,a8,a9⟩
     · have c:=c.ext d k;refine c.Z (j:=1) (by show 1<5;decide) ?_;show oV (Dh env .eql 87 .Bn .Bn) _;rw[iP,IG,AL];refine By rfl ?_;rw[Aj,Ad,Ae];refine c.Z (j:=0) (by show 0<5;decide) ?_;show Bv (S a) _;rw[CR];show W1 (.func 80) [S a,.ptr b 0] f _;refine w80 (n:=1) AJ (g80 ?_);unfold Ya;refine Anz n (by omega) (by omega) λa0 m j s=>?_;refine o _ _ ⟨by have:=s.1;have:=d.1;omega,λr w=>?_⟩ j;rw[s.2 r (vZ w d.1) (λe=>by subst e;omega) (.inl (by omega)),d.2 r w]
     · have u:=c.ext d k;subst a4;rw[o7] at a7;refine u.Z (j:=1) (by show 1<5;decide) ?_;show oV (Dh env .eql 87 (.ptr y 0) .Bn) _;rw[aL,IG,AL];refine AR rfl ?_;rw[Aj,Ad,Ae];refine u.Z (j:=1) (by show 1<5;decide) ?_;show W1 (.func 79) [.ptr y 0,.func (.func 80) [] [.ptr b 0]] f _;refine c79 g a8 t a5 d n (by omega) λb7 m a1 j=>?_;have a6:b.nat<m.next.nat:=by obtain⟨_,_,q,_⟩:=j;exact q
       rw[Aj,Ad,Ae];refine(c.ext a1 k).Z (j:=2) (by show 2<5;decide) ?_;show W1 (.func 79) [a2,.func (.func 80) [] [.ptr b 0]] m _;refine c79 g a9 t a6 a1 j (by rw[o7];omega) λb8 b2 b0 a3=>?_;exact o _ _ b0 (by rw[←List.append_assoc];exact a3)
theorem c61{a:Nat}{b:H}{v:U}{c:List UInt8}{d:KV}(f:Cl a b v c)(g:c.length≤1000000)(h:∀i,AP b i→d (S c) i):W1 (.func 61) [v] b d:=by refine w61 (n:=1) AJ (g61 ?_);unfold Xw;refine BX ?_;have j:AP b (b.new Is):=.new;refine c79 a (hE:=b) (b:=b.next) f (vE _) (by rw[Bd];omega) j (Gz.new _ b) (by simpa using g) λk l m n=>?_;refine gq n (by simp;omega) λo p=>?_;rw[CR,List.nil_append];refine h o ⟨by have:=m.1;have:=p.1;omega,λq r=>?_⟩;rw[p.2 q (vZ r m.1) (.inl (by omega)),m.2 q r]
end Go.Den
namespace Go.Den
open Go.RowKit
set_option maxRecDepth 100000
theorem Y3(l c:Nat):CL l c l c=true:=by unfold CL;rw[wZ,wZ];rfl
theorem Aar{a t:List UInt8}{l c:Nat}(b:t.length=l)(d:enc t=c):CL a.length (enc a) l c=decide (a=t):=by subst b d;exact En
theorem Aib(k:IntKind):ME k k=true:=by cases k<;>rfl
theorem VB(n:Int):AN n n=true:=by rw[Fi];exact beq_self_eq_true n
def jC(v:U):Prop:=(∃l c,v=.str l c)∨(∃k n,v=.int k n)∨(∃b,v=.bool b)∨v=.Af∨(∃b o n z t,v=.slice b o n z t)∨v=.Bn∨∃q o,v=.ptr q o
theorem Uo{n:Nat}{v:U}(h:jC v):E6 (n+1) v v=true:=by
 rcases h with⟨l,c,rfl⟩|⟨k,m,rfl⟩|⟨b,rfl⟩|rfl|⟨b,o,m,z,t,rfl⟩|rfl|⟨q,o,rfl⟩
 · show An (vS l l) (vS c c)=true;rw[wZ,wZ];rfl
 · show An (ME k k) (AN m m)=true;rw[Aib,VB];rfl
 · exact M2 b
 · rfl
 · show An (An (P.beq b b) (vS o o)) (An (An (vS m m) (vS z z)) (No t t))=true;rw[P.beq_refl,wZ,wZ,wZ,M2];rfl
 · rfl
 · show An (P.beq q q) (vS o o)=true;rw[P.beq_refl,wZ];rfl
theorem C2{v:U}{a:Prop}(b:jC v)(c:a):BE v v a:=by unfold BE;rw[Uo b];exact c
theorem RW{n:Nat}:∀{l:List U},(∀v∈l,jC v)→allEq (E6 (n+1)) l l=true
 |[],_=>rfl
 |v::l,a=>by show An (E6 (n+1) v v) (allEq (E6 (n+1)) l l)=true;rw[Uo (a v (by simp)),RW λb c=>a b (List.mem_cons_of_mem _ c)];rfl
theorem aM{l:List U}{a:Prop}(b:∀v∈l,jC v)(c:a):BE (.agg l) (.agg l) a:=by unfold BE;rw[show E6 4 (.agg l) (.agg l)=allEq (E6 3) l l from rfl,RW b];exact c
def M1(a:H):Es→List Fl→Prop
 |[],[]=>True
 |e::b,f::c=>e.1=S f.1∧Cl 4 a e.2.1 f.2∧(∃q,e.2.1=.ptr q 0)∧M1 a b c
 |_,_=>False
theorem M1.mono{h a:H}:∀{b:Es}{c:List Fl},M1 h b c→(∀v d,Cl 4 h v d→Cl 4 a v d)→M1 a b c
 |[],[],_,_=>trivial
 |_::_,_::_,⟨f,g,i,j⟩,k=>⟨f,k _ _ g,i,M1.mono j k⟩
 |[],_::_,h,_=>h.elim
 |_::_,[],h,_=>h.elim
theorem Sa{p s:List UInt8}{v:U}{b:Nat}{es:Es}{i:Nat}:Cb (S p) ((S s,v,b)::es) i=(wg (Cb (S p) es (vN i 1)) (some (some (v,b,i))) (CL p.length (enc p) s.length (enc s)):Option MW):=rfl
theorem M1.look{a:H}{p:List UInt8}:∀{b:Es}{c:List Fl}(d:Nat),M1 a b c→(DA c p=none∧Cb (S p) b d=some none)∨∃x v g j,DA c p=some x∧Cb (S p) b d=some (some (v,g,j))∧Cl 4 a v x∧∃q,v=.ptr q 0
 |[],[],_,_=>.inl ⟨rfl,rfl⟩
 |[],_::_,_,a=>a.elim
 |_::_,[],_,a=>a.elim
 |(h,v,g)::b,f::c,d,⟨i,k,l,m⟩=>by
  have i:h=S f.1:=i;subst i;rw[Sa,En];by_cases e:p=f.1
  · rw[decide_eq_true e];exact .inr ⟨f.2,v,g,d,by rw[DA,if_pos e.symm],rfl,k,l⟩
  · rw[decide_eq_false e,DA,if_neg λq=>e q.symm];exact M1.look (vN d 1) m
structure Hx(h:H)(pT pF pV:P)(fs:List Fl):Prop where
 row:Dl h pT 0 [.Af,.map pF,.map pV]
 nT:pT.nat<h.next.nat
 nF:pF.nat<h.next.nat
 nV:pV.nat<h.next.nat
 ne:pF≠pV
 files:∃es ck,h.at pF=.map es ck∧M1 h es fs∧es.length=fs.length
 fV:∃es ck,h.at pV=.map es ck∧es.map (·.1)=fs.map fun f=>S f.1
theorem Hx.ext{h h':H}{a b c:P}{d:List Fl}(t:Hx h a b c d)(x:AP h h'):Hx h' a b c d:=by obtain⟨f,g,i,j,k⟩:=t.files;obtain⟨l,m,n,o⟩:=t.fV;exact⟨t.row.ext x t.nT,vZ t.nT x.1,vZ t.nF x.1,vZ t.nV x.1,t.ne,⟨f,g,by rw[x.2 _ t.nF];exact i,j.mono λ_ _ r=>r.ext x,k⟩,⟨l,m,by rw[x.2 _ t.nV];exact n,o⟩⟩
theorem Adt(q:P):Dh env .eql 23 (.ptr q 0) .Bn=some (.bool false):=by kernel_rfl
theorem Aih(q:P)(l c:Nat)(h:H):BO env 83 (.map q) (.str l c) true h=(wz none (λp=>CW env 87 true (Cb (.str l c) p.1 0) h) (EJ (h.at q)):Option (U×H)):=by kernel_rfl
theorem qo(h:H):CW env 87 true (some none) h=some (.tuple [.Bn,.bool false],h):=by kernel_rfl
theorem Hx.get{h:H}{a b c:P}{d:List Fl}(t:Hx h a b c d)(p:List UInt8){K:KV}(f:∀v,(DA d p=none∧v=.Bn)∨(∃x,DA d p=some x∧Cl 4 h v x∧∃q,v=.ptr q 0)→K (.tuple [v,.bool (DA d p).isSome]) h):oK (BO env 83 (.map b) (.str p.length (enc p)) true h) K:=by
 obtain⟨g,i,k,l,_⟩:=t.files;rw[Aih,k];show oK (CW env 87 true (Cb (S p) g 0) h) K;rcases l.look (p:=p) 0 with⟨m,n⟩|⟨x,v,o,j,m,n,r,s⟩
 · rw[n,qo,Ad];have:=f .Bn (.inl ⟨m,rfl⟩);rw[m] at this;exact this
 · rw[n];show oK (some (.tuple [v,.bool true],h)) K;rw[Ad];have:=f v (.inr ⟨x,m,r,s⟩);rw[m] at this;exact this
theorem c33{a:H}{b c d:P}{f:List Fl}(t:Hx a b c d f)(p:List UInt8){g:KV}(h:∀v,(DA f p=none∧v=.Bn)∨(∃x,DA f p=some x∧Cl 4 a v x∧∃q,v=.ptr q 0)→g (.tuple [v,.bool (DA f p).isSome]) a):W1 (.func 33) [.ptr b 0,S p] a g:=by refine w33 (n:=1) AJ (g33 ?_);unfold WA;rw[Adt,IG,AL];refine AR rfl ?_;rw[Aj,Ad,Ae];refine t.row.Z (j:=1) (by show 1<3;decide) ?_;refine t.get p λv i=>?_;rw[Dw,Dt,AL];exact h v i
end Go.Den
noncomputable section
namespace Go.Den
open Go.RowKit
set_option maxRecDepth 100000
def CI(sz:Nat)(h:H)(v:U)(L:List (List U)):Prop:=(v=.Af∧L=[])∨Rd sz h v L
theorem CI.len{sz:Nat}{a:H}{v:U}{b:List (List U)}(c:CI sz a v b){K:Nat→Prop}:Bz v K=K b.length:=by
 rcases c with⟨rfl,rfl⟩|c
 · rfl
 · exact c.len
theorem CI.ext{sz:Nat}{h h':H}{v:U}{L:List (List U)}(a:CI sz h v L)(x:AP h h'):CI sz h' v L:=a.imp id λa=>a.ext x
theorem CI.rd{sz:Nat}{a:H}{v:U}{b:List (List U)}(c:CI sz a v b){i:Nat}(hi:i<b.length):Rd sz a v b:=c.resolve_left λe=>by rw[e.2] at hi;cases hi
def JX(l:List (List UInt8)):List (List U):=l.map λs=>[S s]
theorem Fc(l:List (List UInt8)):(JX l).length=l.length:=s9 ..
theorem KW{l:List (List UInt8)}{a:Nat}(b:a<l.length)(c:a<(JX l).length):(JX l)[a]=[S l[a]]:=ye ..
end Go.Den
namespace Go.Den
open Go.RowKit
set_option maxRecDepth 100000
theorem FL(b:Bool):Bm b=!b:=by cases b<;>rfl
theorem AY.OA{e:TypeId}{sz lo:Nat}{a:H}{v:U}{b:List (List U)}(c:AY e sz lo a v b):CI sz a v b:=c.rd'
end Go.Den
namespace Go.Den
open Go.RowKit
set_option maxRecDepth 100000
theorem P.zero{l:P}(h:l.nat=0):l=.z:=by
 cases l with
 |z=>rfl
 |l p=>have:2*p.nat+1=0:=h;omega
 |r p=>have:2*p.nat+2=0:=h;omega
theorem RJ:∀(n:Nat)(l:P),l.nat+1<2^(n+1)→eH n l.nat=l
 |0,l,a=>by rw[P.zero (l:=l) (by omega)];rfl
 |n+1,l,a=>by
  have e:∀b,eH (n+1) b=wg (wg (P.r (eH n (vR (vQ b 2) 2))) (P.l (eH n (vR (vQ b 1) 2))) (vS (vT b 2) 1)) P.z (vS b 0):=λ_=>rfl;rw[e];have c:2^(n+1+1)=2*2^(n+1):=by rw[yf];omega
  cases l with
  |z=>rfl
  |l p=>
   have d:(P.l p).nat=2*p.nat+1:=rfl;rw[d] at a ⊢;rw[show vS (2*p.nat+1) 0=false from rfl,show vS (vT (2*p.nat+1) 2) 1=true by rw[show vT (2*p.nat+1) 2=1 by show(2*p.nat+1)%2=1;omega];rfl];have:vR (vQ (2*p.nat+1) 1) 2=p.nat:=by show(2*p.nat+1-1) / 2=_;omega
   rw[this,RJ n p (by omega)]
  |r p=>
   have d:(P.r p).nat=2*p.nat+2:=rfl;rw[d] at a ⊢;rw[show vS (2*p.nat+2) 0=false from rfl,show vS (vT (2*p.nat+2) 2) 1=false by rw[show vT (2*p.nat+2) 2=0 by show(2*p.nat+2)%2=0;omega];rfl];have:vR (vQ (2*p.nat+2) 2) 2=p.nat:=by show(2*p.nat+2-2) / 2=_;omega
   rw[this,RJ n p (by omega)]
end Go.Den
namespace Go.Den
open Go.RowKit
set_option maxRecDepth 100000
theorem Afq{fn:Fn}{a c:List U}{K:Fn→List U→List U→Prop}:pg (.func fn a c) K=K fn a c:=rfl
end Go.Den
namespace Go.Den
open Go.RowKit
set_option maxRecDepth 100000
theorem Yl{a:H}{q:P}{b:Nat→U}{c:Nat}(f:KE a q b c){o n:Nat}(d:o+n≤c):a.read q o n=some ((List.range n).map λg=>b (o+g)):=by
 unfold Hp.read Hp.ES;rcases f with⟨t,z,e,h,i,rfl⟩|i
 · rw[i];show(GJ o n none some t c:Option (List U))=_;unfold GJ;rw[show Nat.ble (vN o n) c=true from wY d];show some (Cp t n o)=_;rw[GB]
 · rw[i];show(M3 o n none some b c:Option (List U))=_;unfold M3;rw[show Nat.ble (vN o n) c=true from wY d];show some (BY b n o)=_;rw[JF]
theorem Ti{sz:Nat}{b:Nat→U}:∀{c:List (List U)}{o:Nat},KN sz o b c→(List.range (c.length*sz)).map (λd=>b (o+d))=c.flatten
 |[],o,_=>by simp
 |a::c,o,f=>by
  have g:=f 0 (Nat.succ_pos _);have h0:a.length=sz:=g.1;have h:KN sz (o+sz) b c:=λd hi=>by have:=f (d+1) (Nat.succ_lt_succ hi);refine⟨this.1,λj i=>?_⟩;have e:=this.2 j i;rw[show o+sz+d*sz+j=o+(d+1)*sz+j by rw[wK];omega];exact e
  rw[List.length_cons,wK,Nat.add_comm,List.range_add,List.map_append,List.map_map,List.flatten_cons,←Ti h];congr 1
  · apply List.ext_getElem
    · simp[h0]
    · intro d k l;simp only[ye,List.getElem_range];have:=g.2 d l;rw[xl,Nat.add_zero] at this;exact this
  · exact List.map_congr_left λd _=>by show b (o+(sz+d))=b (o+sz+d);rw[Nat.add_assoc]
theorem kg{sz:Nat}{a:H}{v:U}{b:List (List U)}(c:Rd sz a v b):BH a sz v=some (b.length,b.flatten):=by obtain⟨q,o,d,f,g,rfl,h,i,j,k⟩:=c;show(wg none (wz none (λcs=>some (b.length,cs)) (a.read q o (vO b.length sz))) (vS sz sz):Option (Nat×List U))=_;rw[wZ];show(wz none (λcs=>some (b.length,cs)) (a.read q o (b.length*sz)):Option (Nat×List U))=_;rw[Yl i j,Ti k]
theorem JJ{sz:Nat}{a:H}{v:U}{b:List (List U)}(c:CI sz a v b):BH a sz v=some (b.length,b.flatten):=by
 rcases c with⟨rfl,rfl⟩|c
 · rfl
 · exact kg c
theorem Rd.VD{sz:Nat}{a:H}{v:U}{c:List (List U)}(d:Rd sz a v c):∀g∈c,g.length=sz:=λg h=>by obtain⟨q,o,f,i,b,rfl,j,k,l,m⟩:=d;obtain⟨n,hi,rfl⟩:=List.getElem_of_mem h;exact(m n hi).1
theorem CI.VD{sz:Nat}{a:H}{v:U}{b:List (List U)}(c:CI sz a v b):∀d∈b,d.length=sz:=by
 rcases c with⟨rfl,rfl⟩|c
 · intro d f;cases f
 · exact c.VD
def tc(sz:Nat)(h:H)(v:U)(L:List (List U)):Prop:=(L=[]∧(v=.Af∨∃b,v=.slice b 0 0 sz false))∨Rd sz h v L
theorem tc.len{sz:Nat}{a:H}{v:U}{c:List (List U)}(d:tc sz a v c){K:Nat→Prop}:Bz v K=K c.length:=by
 rcases d with⟨rfl,rfl|⟨b,rfl⟩⟩|d
 · rfl
 · rfl
 · exact d.len
theorem tc.rd{sz:Nat}{a:H}{v:U}{b:List (List U)}(c:tc sz a v b){i:Nat}(hi:i<b.length):Rd sz a v b:=c.resolve_left λe=>by rw[e.1] at hi;cases hi
def Vg(e:TypeId)(sz lo:Nat)(h:H)(v:U)(L:List (List U)):Prop:=(L=[]∧∃q,v=.slice q 0 0 sz true∧q.nat<h.next.nat∧h.at q=.row .e 0 0 e true)∨AY e sz lo h v L
theorem Ato{e:TypeId}{sz lo:Nat}{a:TI}{b:H}{v x:U}{c M:List (List U)}(d:Vg e sz lo b v c)(f:BH b sz x=some (M.length,M.flatten))(g:∀h∈M,h.length=sz)(i:a.size=sz)(j:Bl a (c.length+M.length)=true)(k:lo≤b.next.nat){l:KV}(m:∀n o,Vg e sz lo o n (c++M)→(M≠[]→AY e sz lo o n (c++M))→Ft e lo b o→l n o):oK (BK (some false) v x b e a) l:=by
 rcases d with⟨rfl,q,rfl,r,s⟩|d
 · by_cases t:M=[]
   · subst t;have u:BK (some false) (.slice q 0 0 sz true) x b e a=some (.slice q 0 0 sz true,b):=by show(wz none (λp=>wg none (wg (Dx e a.size (.slice q 0 0 sz true) p.1 p.2 b) (some (.slice q 0 0 sz true,b)) (vS p.1 0)) (An true (Bl a (vN 0 p.1)))) (BH b a.size x):Option (U×H))=_;rw[i,f];show(wg none (some (.slice q 0 0 sz true,b)) (An true (Bl a (vN 0 0))):Option (U×H))=_;rw[show Bl a (vN 0 0)=true from j];rfl
     rw[u,Ad];exact m _ _ (.inl ⟨rfl,q,rfl,r,s⟩) (λe=>absurd rfl e) .refl
   have w:vS M.length 0=false:=by
    cases M with
    |nil=>exact absurd rfl t
    |cons _ _=>rfl
   have u:BK (some false) (.slice q 0 0 sz true) x b e a=some (.slice b.next 0 M.length sz false,b.new (.row (Ai M.flatten 0 .e) (vO M.length sz) 0 e false)):=by show(wz none (λp=>wg none (wg (Dx e a.size (.slice q 0 0 sz true) p.1 p.2 b) (some (.slice q 0 0 sz true,b)) (vS p.1 0)) (An true (Bl a (vN 0 p.1)))) (BH b a.size x):Option (U×H))=_;rw[i,f];show(wg none (wg (Dx e sz (.slice q 0 0 sz true) M.length M.flatten b) (some (.slice q 0 0 sz true,b)) (vS M.length 0)) (An true (Bl a (vN 0 M.length))):Option (U×H))=_;rw[w,show Bl a (vN 0 M.length)=true by rw[show vN 0 M.length=([]:List (List U)).length+M.length from rfl];exact j];show(wg none (wz none (λy=>LF e sz (vN 0 M.length) (Eh y M.flatten) b) (b.read q 0 (vO 0 sz))) (vS sz sz):Option (U×H))=_;rw[wZ,show vO 0 sz=0 from xl sz,Yl (.inl ⟨_,_,_,_,s,rfl⟩) (vE 0),show vN 0 M.length=M.length from Nat.zero_add _];rfl
   rw[u,Ad];have c:AY e sz lo (b.new (.row (Ai M.flatten 0 .e) (vO M.length sz) 0 e false)) (.slice b.next 0 M.length sz false) ([]++M):=by refine .inr ⟨b.next,Ai M.flatten 0 .e,vO M.length sz,0,false,rfl,k,by rw[Bd];omega,AS _ _,vE _,vF _,?_⟩;have:=E5.aK (t:=.e) (E5.nil (sz:=sz) (o:=0)) g;rwa [show([]:List (List U)).length*sz=0 by simp] at this
   exact m _ _ (.inr c) (λ_=>c) .new
 · exact Ye d f g i j k λn o h x=>m n o (.inr h) (λ_=>h) x
theorem Ft.PX{e:TypeId}{lo:Nat}{c d f:H}(a:AP c d)(g:c.next.nat≤lo)(b:Ft e lo d f):AP c f:=
 ⟨vY a.1 b.1,λh i=>by rw[b.2 h (vZ i a.1) (.inl (by omega)),a.2 h i]⟩
def CE(a:P→Prop)(b c:H):Prop:=b.next.nat≤c.next.nat∧∀d,d.nat<b.next.nat→¬a d→c.at d=b.at d
theorem CE.refl{X:P→Prop}{h:H}:CE X h h:=⟨vE _,λ_ _ _=>rfl⟩
theorem CE.trans{X:P→Prop}{h d f:H}(a:CE X h d)(b:CE X d f):CE X h f:=⟨vY a.1 b.1,λc g i=>by rw[b.2 c (vZ g a.1) i,a.2 c g i]⟩
theorem AP.DV{X:P→Prop}{a b:H}(x:AP a b):CE X a b:=⟨x.1,λc d _=>x.2 c d⟩
theorem CE.put{X:P→Prop}{h:H}{q:P}{o:Ob FT}(a:X q):CE X h (h.put q o):=⟨by rw[Dc];exact vE _,λc _ b=>AQ λe=>b (by rw[e];exact a)⟩
theorem CE.weak{a b:P→Prop}{c d:H}(x:CE a c d)(f:∀g,a g→b g):CE b c d:=⟨x.1,λg h i=>x.2 g h λq=>i (f g q)⟩
theorem Cl.DV{X:P→Prop}:∀{a:Nat}{c d:H}{v:U}{f:List UInt8},Cl a c v f→CE X c d→(∀q cs,Dl c q 0 cs→cs.length=5→¬X q)→Cl a d v f
 |0,_,_,_,_,g,_,_=>g
 |a+1,c,d,v,f,g,x,h=>by
  rcases g with g|⟨q,hi,e,i,j,k⟩
  · exact .inl g
  · refine .inr ⟨q,hi,e,vZ i x.1,j,?_⟩;rcases k with k|⟨l,b,m,n,k,o,p,r,s⟩
    · exact .inl (k.frame (x.2 q i (h q _ k rfl)))
    · exact .inr ⟨l,b,m,n,k.frame (x.2 q i (h q _ k rfl)),o,p,Cl.DV r x h,Cl.DV s x h⟩
theorem Aeu{a:H}{q:P}{b:Nat→U}{c d:Nat}{g:Es}(f:KE a q b c)(e:a.at q=.map g d):False:=by
 rcases f with⟨t,z,h,i,j,_⟩|j
 · rw[e] at j;cases j
 · rw[e] at j;cases j
theorem Oq{b:H}{q:P}{o c:Nat}{cs:List U}{d:Es}(a:Dl b q o cs)(e:b.at q=.map d c):False:=by obtain⟨_,_,f,_⟩:=a;exact Aeu f e
theorem Rd.DV{X:P→Prop}{sz:Nat}{c d:H}{v:U}{f:List (List U)}(a:Rd sz c v f)(x:CE X c d)(g:∀q o n z b,v=.slice q o n z b→¬X q):Rd sz d v f:=a.frame x.1 λh i o n z b e=>x.2 h i (g h o n z b e)
theorem CI.DV{X:P→Prop}{sz:Nat}{c d:H}{v:U}{f:List (List U)}(a:CI sz c v f)(x:CE X c d)(g:∀q o n z b,v=.slice q o n z b→¬X q):CI sz d v f:=a.imp id λa=>a.DV x g
theorem JQ{a:H}{q:P}{t:Tm}{e:TypeId}{cs:List U}{b:Nat}{K:H→Prop}(c:a.at q=.row t b 0 e true)(d:cs.length=b)(f:1≤b)(g:∀h,Dl (a.put q (.row h b 0 e true)) q 0 cs→K (a.put q (.row h b 0 e true))):CV b (.ptr q 0) (.agg cs) a K:=by refine O3 c (vE _) d f (by omega) (g _ (.row _ b 0 e true (Bg _ _ _) (by omega) λj i=>?_));rw[Am,if_pos (by omega),List.getD_eq_getElem?_getD,List.getElem?_eq_getElem (by omega)];simp
theorem CE.PX{b:P→Prop}{c d f:H}(a:AP c d)(x:CE b d f)(g:∀h,b h→c.next.nat≤h.nat):AP c f:=
 ⟨vY a.1 x.1,λh i=>by rw[x.2 h (vZ i a.1) (λq=>by have:=g h q;omega),a.2 h i]⟩
theorem VS{a b c:U}{l:List U}{K:U→Prop}:ext 2 (.tuple (a::b::c::l)) K=K c:=rfl
end Go.Den
namespace Go.Den
open Go.RowKit
set_option maxRecDepth 100000
def aZ(l:List Nat):List (List U):=l.map λn=>[.int .i64 (.ofNat n)]
theorem sG(l:List Nat):(aZ l).length=l.length:=s9 ..
end Go.Den
