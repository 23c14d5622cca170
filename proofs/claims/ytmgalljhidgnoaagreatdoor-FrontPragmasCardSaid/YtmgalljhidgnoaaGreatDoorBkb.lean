/-
 Proof.
-/
import Derived.Test.YtmgalljhidgnoaaGreatDoorMak
open List renaming length_cons → l6, length_append → o7, length_pos_iff → o8, drop_eq_getElem_cons → o9, drop_eq_nil_of_le → s8, length_map → s9, map_append → u0, cons → ve, append_nil → vi, length_singleton → vj, append_assoc → vp, mem_cons → vw, getElem_cons_zero → vz, take_succ_eq_append_getElem → vA, filter_append → vB, getElem_cons_succ → vD
open Nat renaming le_refl → vE, zero_le → vF, lt_or_ge → vG, not_lt_zero → vH, zero_lt_succ → vI
open Int renaming ofNat → vJ
open Bool renaming and_eq_true → vK
namespace Go.Lx
abbrev B8:=List UInt8
def BZ(x:UInt8):Bool:=(decide (97≤x.toNat)&&decide (x.toNat≤122))||(decide (65≤x.toNat)&&decide (x.toNat≤90))||decide (x.toNat=95)
def isDigit(x:UInt8):Bool:=decide (48≤x.toNat)&&decide (x.toNat≤57)
def Cs(s:B8)(i:Nat):UInt8:=s.getD i 0
def EG(s:B8):Option Nat:=
 if Cs s 0=34∨Cs s 0=39 then some 0
 else if Cs s 0=117∧Cs s 1=56∧Cs s 2=34 then some 2
 else if(Cs s 0=76∨Cs s 0=117∨Cs s 0=85)∧(Cs s 1=34∨Cs s 1=39) then some 1
 else none
def Dp(q:UInt8):B8→Option Nat
 |[]=>none
 |[x]=>if x=10 then none else if x=q then some 1 else none
 |x::y::r=>if x=10 then none
  else if x=92∧y≠10 then(Dp q r).map (·+2)
  else if x=q then some 1
  else(Dp q (y::r)).map (·+1)
def DO:B8→Nat
 |[]=>0
 |[x]=>if BZ x||isDigit x||x==46 then 1 else 0
 |x::y::r=>if(x=101∨x=69∨x=112∨x=80)∧(y=43∨y=45) then 2+DO r
  else if BZ x||isDigit x||x==46 then 1+DO (y::r) else 0
def Gg(s:B8):Nat:=if isDigit (Cs s 0)||(Cs s 0==46&&isDigit (Cs s 1)) then 1+DO (s.drop 1) else 0
def IP(s:B8):Nat:=(s.takeWhile λx=>BZ x||isDigit x).length
def Np:List B8:=[[37,58,37,58],[46,46,46],[60,60,61],[62,62,61],[45,62],[43,43],[45,45],[60,60],[62,62],[60,61],[62,61],[61,61],[33,61],[38,38],[124,124],[42,61],[47,61],[37,61],[43,61],[45,61],[38,61],[94,61],[124,61],[35,35],[60,58],[58,62],[60,37],[37,62],[37,58],
 [91],[93],[40],[41],[123],[125],[46],[38],[42],[43],[45],[126],[33],[47],[37],[60],[62],[94],[124],[63],[58],[59],[61],[44],[35]]
def HA(s:B8):Nat:=match Np.find? (λp=>p.isPrefixOf s) with
 |some p=>p.length
 |none=>0
def Ey(s:B8):Nat×Nat×Bool:=
 if BZ (Cs s 0) then(1,1+IP (s.drop 1),false)
 else if 0<Gg s then(2,Gg s,false)
 else if 0<HA s then(5,HA s,false)
 else(6,1,false)
def B7(s:B8):Nat×Nat×Bool:=match EG s with
 |some k=>match Dp (Cs s k) (s.drop (k+1)) with
  |some n=>(if Cs s k=34 then 4 else 3,k+1+n,false)
  |none=>if k=0 then(6,1,true) else Ey s
 |none=>Ey s
def E9:B8→Option Nat
 |[]=>none
 |[_]=>none
 |x::y::r=>if x=42∧y=47 then some 2 else(E9 (y::r)).map (·+1)
def EI(s:B8):Option (Nat×Bool):=
 if Cs s 0≠47 then none
 else if Cs s 1=47 then some ((s.takeWhile (·≠10)).length,false)
 else if Cs s 1≠42 then none
 else match E9 (s.drop 2) with
  |some n=>some (n+2,false)
  |none=>some (s.length,true)
theorem Tt{q:UInt8}:∀{s:B8}{n:Nat},Dp q s=some n→0<n∧n≤s.length
 |[],n,h=>by simp[Dp] at h
 |[x],n,h=>by
  unfold Dp at h;split at h
  · cases h
  · split at h
    · cases h;simp
    · cases h
 |x::y::r,n,h=>by
  unfold Dp at h;split at h
  · cases h
  · split at h
    · cases e:Dp q r with
      |none=>rw[e] at h;cases h
      |some m=>rw[e] at h;cases h;have:=Tt e;simp only[l6];omega
    · split at h
      · cases h;simp
      · cases e:Dp q (y::r) with
        |none=>rw[e] at h;cases h
        |some m=>rw[e] at h;cases h;have:=Tt e;simp only[l6] at this ⊢;omega
theorem Rr:∀a:B8,DO a≤a.length
 |[]=>vE _
 |[x]=>by unfold DO;split<;>simp
 |x::b::r=>by
  have c:=Rr r;have d:=Rr (b::r);unfold DO;simp only[l6] at d ⊢;split
  · omega
  · split<;>omega
theorem Ais(a:B8):IP a≤a.length:=by
 unfold IP;induction a with
 |nil=>exact vE _
 |cons x a b=>
  rw[List.takeWhile_cons];split
  · simp only[l6];omega
  · simp
theorem sI(s:B8):HA s≤s.length:=by
 unfold HA;split
 · rename_i p h;have:=List.find?_some h;obtain⟨t,e⟩:=List.isPrefixOf_iff_prefix.1 this;rw[←e,o7];omega
 · exact vF _
theorem ZI:∀{s:B8}{n:Nat},E9 s=some n→0<n∧n≤s.length
 |[],_,h=>by simp[E9] at h
 |[_],_,h=>by simp[E9] at h
 |x::y::r,n,h=>by
  unfold E9 at h;split at h
  · cases h;simp
  · cases e:E9 (y::r) with
    |none=>rw[e] at h;cases h
    |some m=>rw[e] at h;cases h;have:=ZI e;simp only[l6] at this ⊢;omega
theorem UH{a:B8}(b:a≠[]):0<(Ey a).2.1∧(Ey a).2.1≤a.length:=by
 have c:0<a.length:=o8.2 b;have d:(a.drop 1).length=a.length-1:=by simp
 unfold Ey;split
 · have:=Ais (a.drop 1);simp only[];omega
 · split
   · rename_i f;refine⟨f,?_⟩;simp only[] at f ⊢;unfold Gg at f ⊢;split
     · have:=Rr (a.drop 1);omega
     · exact vF _
   · split
     · rename_i f;exact⟨f,sI a⟩
     · simp only[];omega
theorem HX{s:B8}(a:s≠[]):0<(B7 s).2.1∧(B7 s).2.1≤s.length:=by
 have b:0<s.length:=o8.2 a;unfold B7;split
 · rename_i c d;split
   · rename_i n f;have:=Tt f;have g:(s.drop (c+1)).length=s.length-(c+1):=by simp
     simp only[];omega
   · split
     · simp only[];omega
     · exact UH a
 · exact UH a
end Go.Lx
namespace Go.Lx
abbrev Rn:=UInt8×Nat×Nat
def AA(l:List Rn):B8:=l.map (·.1)
def Fm:B8:=[61,47,39,40,41,33,60,62,45]
def Ks:B8:=[35,92,94,91,93,124,123,125,126]
def Jk(c:UInt8):Option UInt8:=(Fm.zip Ks).find? (λp=>p.1==c) |>.map (·.2)
def Bi:Nat→B8→List Rn
 |_,[]=>[]
 |i,[a]=>[(a,i,i+1)]
 |i,[a,b]=>[(a,i,i+1),(b,i+1,i+2)]
 |i,a::b::c::r=>if a=63∧b=63 then(match Jk c with
  |some d=>(d,i,i+3)::Bi (i+3) r
  |none=>(a,i,i+1)::Bi (i+1) (b::c::r))
  else(a,i,i+1)::Bi (i+1) (b::c::r)
def Co:List Rn→List Rn
 |[]=>[]
 |[x]=>[x]
 |x::y::r=>if x.1=92∧y.1=10 then Co r else x::Co (y::r)
def BQ(s:B8):List Rn:=
 if s≠[]∧((Co (Bi 0 s)).getLast?.map (·.1))≠some 10 then Co (Bi 0 s)++[(10,s.length,s.length)] else Co (Bi 0 s)
def El(l:List Rn)(i:Nat):Nat:=(l.getD i (0,0,0)).2.1
def Ih(l:List Rn)(i:Nat):Nat:=(l.getD i (0,0,0)).2.2
end Go.Lx
noncomputable section
namespace Go.Den
open Go.RowKit
set_option maxRecDepth 100000
open Go.Lx (Rn Co Bi Jk Fm Ks)
theorem MS{a:List UInt8}{b:Nat}(c:b<a.length)(d:∀f:b+2<a.length,a[b]=63→a[b+1]=63→Jk a[b+2]=none):Bi b (a.drop b)=(a[b],b,b+1)::Bi (b+1) (a.drop (b+1)):=by
 rw[o9 c];rcases vG (b+1) a.length with g|g
 · rw[o9 g];rcases vG (b+2) a.length with f|f
   · rw[o9 f,Bi];by_cases e:a[b]=63∧a[b+1]=63
     · rw[if_pos e,d f e.1 e.2]
     · rw[if_neg e]
   · rw[s8 (by omega),Bi,Bi]
 · rw[s8 g,Bi,Bi]
theorem KQ{a:List UInt8}{b:Nat}(c:b+2<a.length)(d:a[b]=63)(f:a[b+1]=63){g:UInt8}(h:Jk a[b+2]=some g):Bi b (a.drop b)=(g,b,b+3)::Bi (b+3) (a.drop (b+3)):=by rw[o9 (show b<a.length by omega),o9 (show b+1<a.length by omega),o9 c,Bi,if_pos ⟨d,f⟩,h]
theorem Ait{x a:UInt8}(b:Jk x=some a):a≠10:=by
 unfold Jk at b;cases e:(Fm.zip Ks).find? (λp=>p.1==x) with
 |none=>rw[e] at b;cases b
 |some p=>
  rw[e] at b;cases b;have c:=List.mem_of_find?_eq_some e;have:∀p∈Fm.zip Ks,p.2≠10:=by decide
  exact this p c
theorem Tc{a:List UInt8}{b:Nat}(c:b<a.length):∃x l,Bi b (a.drop b)=x::l∧(x.1=10↔a[b]=10)∧(a[b]=10→l=Bi (b+1) (a.drop (b+1))):=by
 by_cases d:∃f:b+2<a.length,a[b]=63∧a[b+1]=63∧Jk a[b+2]≠none
 · obtain⟨f,g,h,i⟩:=d;cases e:Jk a[b+2] with
   |none=>exact absurd e i
   |some j=>
    refine⟨_,_,KQ f g h e,⟨λq=>absurd q (Ait e),λq=>?_⟩,λq=>?_⟩
    · rw[g] at q;exact absurd q (by decide)
    · rw[g] at q;exact absurd q (by decide)
 · refine⟨_,_,MS c λf g h=>?_,Iff.rfl,λ_=>rfl⟩;exact Classical.byContradiction λe=>d ⟨f,g,h,e⟩
theorem Of{x y:Rn}{r:List Rn}:Co (x::y::r)=if x.1=92∧y.1=10 then Co r else x::Co (y::r):=by rw[Co]
theorem oL{a:List UInt8}{r:Rn}(b:r.1=92)(c:r.2.2<a.length)(d:a[r.2.2]=10):Co (r::Bi r.2.2 (a.drop r.2.2))=Co (Bi (r.2.2+1) (a.drop (r.2.2+1))):=by obtain⟨x,l,e,f,g⟩:=Tc c;rw[e,Of,if_pos ⟨b,f.2 d⟩,g d]
theorem Abq{a:List UInt8}{r:Rn}(b:¬(r.1=92∧∃b:r.2.2<a.length,a[r.2.2]=10)):Co (r::Bi r.2.2 (a.drop r.2.2))=r::Co (Bi r.2.2 (a.drop r.2.2)):=by
 rcases vG r.2.2 a.length with c|c
 · obtain⟨x,l,e,d,_⟩:=Tc c;rw[e,Of,if_neg λq=>b ⟨q.1,c,d.1 q.2⟩]
 · rw[s8 c,Bi,Co,Co]
def Cm(s:List UInt8):List Rn:=Co (Bi 0 s)
def KK(r:Rn):List U:=[ub r.1,.int .i64 (.ofNat r.2.1),.int .i64 (.ofNat r.2.2)]
def DM(l:List Rn):List (List U):=l.map KK
theorem B6(l:List Rn):(DM l).length=l.length:=by unfold DM;rw[s9]
theorem ED{l:List Rn}{a:Nat}(b:a<l.length)(c:a<(DM l).length):(DM l)[a]=KK l[a]:=List.getElem_map ..
theorem Ut(l:List Rn)(r:Rn):DM (l++[r])=DM l++[[ub r.1,.int .i64 (.ofNat r.2.1),.int .i64 (.ofNat r.2.2)]]:=by unfold DM;rw[u0];rfl
def pD(o:Option UInt8):U:=match o with|some d=>.tuple [ub d,.bool true]|none=>.tuple [.int .u8 (.ofNat 0),.bool false]
theorem ju{x:UInt8}(a:x∉Fm):Jk x=none:=by
 unfold Jk;rw[List.find?_eq_none.2]
 · rfl
 · intro p b e;have c:=(List.of_mem_zip b).1;rw[beq_iff_eq.1 e] at c;exact a c
theorem kz{x:UInt8}(h:x∈Fm):∃i,∃hi:i<Fm.length,Fm[i]=x:=by obtain⟨i,hi,e⟩:=List.getElem_of_mem h;exact⟨i,hi,e⟩
theorem Bhf(x:UInt8):Pure PP G h0 171 [ub x] (pD (Jk x)):=by
 by_cases a:x∈Fm
 · obtain⟨b,hi,rfl⟩:=kz a
   match b,hi with
   |0,_|1,_|2,_|3,_|4,_|5,_|6,_|7,_|8,_=>exact pure_run (by kernel_rfl)
 · rw[ju a];refine Amh (n:=1) AJ (Bgg ?_);unfold P3;refine Ex (Aer Fm x) ?_;rw[AG];refine By ?_ rfl;rw[Ge];exact decide_eq_true ((UT Fm x).2 a)
def Bfs:Tm:=Ai [.int .u8 (.ofNat 0),.int .i64 (.ofNat 0),.int .i64 (.ofNat 0)] 0 .e
theorem Ahk(a b c:U)(d:H):AE env 167 (λe f=>Ap 1 [(0,.agg [a,b,c])] d e f)=some (.slice d.next 0 1 3 true,d.new (.row (Ai [a,b,c] 0 Bfs) 3 0 172 true)):=by kernel_rfl
theorem Aic(x y:U)(h:H):AB env .append [167,167] [x,y] h=BK (some false) x y h 172 (DS 172):=by kernel_rfl
theorem V1(a b c:Int)(h:H):AF env (env.ty 172) [(0,.int .u8 a),(1,.int .i64 b),(2,.int .i64 c)] h=some (.agg [.int .u8 a,.int .i64 b,.int .i64 c],h):=by kernel_rfl
theorem Aqv:(DS 172).size=3:=by kernel_rfl
theorem Acq{n:Nat}(a:n≤1099511627776):Bl (DS 172) n=true:=G1 (by kernel_rfl) (by kernel_rfl) a
theorem ie{lo:Nat}{b:H}{v:U}{c:List (List U)}{a d f:U}(g:AY 172 3 lo b v c)(h:c.length+1≤1099511627776)(i:lo≤b.next.nat){j:KV}(k:∀l m,AY 172 3 lo m l (c++[[a,d,f]])→Kp 172 lo b m→j l m):
 oK (AE env 167 (λe n=>Ap 1 [(0,.agg [a,d,f])] b e n)) λx m=>oK (AB env .append [167,167] [v,x] m) j:=by
 rw[Ahk,Ad,Aic];exact NG g rfl Aqv (Acq h) i k
section
variable{s:List UInt8}(hl:s.length≤1000000)
include hl
theorem Bhs{a:Nat}(hi:a<s.length){b:H}{c:KV}(d:∀f (r:Rn),AP b f→Bi a (s.drop a)=r::Bi r.2.2 (s.drop r.2.2)→a<r.2.2→r.2.2≤s.length→c (.agg (KK r)) f):W1 (.func 123) [S s,.int .i64 (vJ a)] b c:=by
 refine Amt (n:=2) AJ (Baj ?_);unfold Qa;refine BX (HD (jd (by omega) ?_));have fin:(∀g:a+2<s.length,s[a]=63→s[a+1]=63→Jk s[a+2]=none)→(PJ W1 c 1).a1 s.length (enc s) (vJ a) (.ptr b.next 0) (b.new Kg):=λh=>by refine Agj ?_;unfold Qf;refine HD (Ev hi (Bx (by omega) ?_));rw[V1,Ad];unfold Kg;refine GW rfl rfl (by decide) λf x i j=>?_;refine j.A3 rfl ?_;exact d f (s[a],a,a+1) x (MS hi h) (Nat.lt_succ_self a) hi
 refine Ex (Ayh (s.drop a) [63,63]) ?_;rw[AL];refine DR (b:=decide (a+2<s.length)) (λk l=>Bx (by omega) (by rw[Cr];exact l)) ?_;refine Bp (λe=>?_) (λe=>?_)
 · rw[vK,decide_eq_true_eq,decide_eq_true_eq] at e;have g:=e.2;have m:=e.1;rw[o9 hi,o9 (show a+1<s.length by omega)] at m;have n:[s[a],s[a+1]]=[63,63]:=m;have o:s[a]=63:=(ve.inj n).1;have p:s[a+1]=63:=(ve.inj (ve.inj n).2).1;refine Bx (by omega) (HD (Ev g ?_));refine Ex (Bhf s[a+2]) ?_ rfl (by cases Jk s[a+2]<;>rfl);cases q:Jk s[a+2] with
   |none=>rw[show pD none=.tuple [.int .u8 (.ofNat 0),.bool false] from rfl,Dw,AG,Dt,AL];exact AR rfl (fin λ_ _ _=>q)
   |some t=>rw[show pD (some t)=.tuple [.int .u8 (vJ t.toNat),.bool true] from rfl,Dw];rw[AG,Dt,AL];refine By rfl (Bx (by omega) ?_);rw[V1,Ad];unfold Kg;refine GW rfl rfl (by decide) λf x i j=>?_;refine j.A3 rfl ?_;exact d f (t,a,a+3) x (KQ g o p q) (by show a<a+3;omega) (by show a+3≤s.length;omega)
 · refine fin λg u v=>?_;exfalso;rw[decide_eq_true g,Bool.and_true,decide_eq_false_iff_not] at e;apply e;rw[o9 hi,o9 (show a+1<s.length by omega),u,v];rfl
theorem dr{c:H}{d:KV}:∀(n f:Nat)(g:List Rn){h:H}{v:U},s.length-f<n→f≤s.length→g.length≤f→AP c h→AY 172 3 c.next.nat h v (DM g)→
    (∀i j,AP c i→AY 172 3 c.next.nat i j (DM (g++Co (Bi f (s.drop f))))→d j i)→Pl W1 d (T7 W1 d n) s.length (enc s) v (vJ f) h
  |0,_,_,_,_,k,_,_,_,_,_=>absurd k (vH _)
  |n+1,f,g,h,v,k,hi,l,m,o,p=>by
    unfold Pl;rw[Gc];refine Bp (λe=>?_) (λe=>?_)
    · have e:s.length≤f:=of_decide_eq_true e;rw[s8 e,show Bi f []=[] by rw[Bi],show Co []=[] by rw[Co],vi] at p;exact p _ _ m o
    · have e:¬s.length≤f:=of_decide_eq_false e;refine Bhs hl (by omega) λt r u w x y=>?_;refine BX ?_;unfold Kg;refine GW rfl rfl (by decide) λc k l f=>?_;have x:AP h c:=u.trans k;have l:=o.ext x;have k:=m.trans x;rw[Ae];refine f.Z (j:=2) (by show 2<3;decide) ?_;show Ar .i64 (.int .i64 (.ofNat r.2.2)) _;rw[AG,Ae];refine f.Z (j:=0) (by show 0<3;decide) ?_;show Ar .u8 (.int .u8 (vJ r.1.toNat)) _;rw[AG,Pv _ 92 (by decide)];refine DR (b:=decide (r.2.2<s.length)) (λu o=>by rw[show vJ r.2.2=vJ r.2.2 from rfl,Cr];exact o) ?_;have m:¬(r.1=92∧∃h:r.2.2<s.length,s[r.2.2]=10)→A3 3 (.ptr t.next 0) c λx=>
          oK (AE env 167 (λe u=>Ap 1 [(0,x)] c e u)) λh t=>
          oK (AB env .append [167,167] [v,h] t) λc u=>
          (T7 W1 d (n+1)).a1 s.length (enc s) c (vJ r.2.2) u:=λx=>by
        refine f.A3 rfl ?_;unfold KK;refine ie l (by rw[B6];omega) k.1 λj i h o=>?_;refine uZ ?_;refine dr n r.2.2 (g++[r]) (by omega) y (by rw[o7,vj];omega) (k.kp (vE _) o) (by rw[Ut];exact h) λt c a b=>p t c a ?_;rw[w,Abq x];rw[vp] at b;exact b
      refine Dm (λd=>?_) (λd=>?_)
      · rw[vK,decide_eq_true_eq,decide_eq_true_eq] at d;refine HD (Ev d.2 ?_);rw[Pv _ 10 (by decide)];refine Bp (λu=>?_) (λu=>?_)
        · have u:s[r.2.2]=10:=of_decide_eq_true u;refine Bx (by omega) ?_;refine uZ ?_;refine dr n (r.2.2+1) g (by omega) d.2 (by omega) k l λt c a b=>p t c a ?_;rw[w,oL d.1 d.2 u];exact b
        · refine m λq=>?_;obtain⟨_,f,i⟩:=q;exact absurd i (of_decide_eq_false u)
      · refine AR rfl (m λq=>?_);obtain⟨j,f,_⟩:=q;have j:r.1=UInt8.ofNat 92:=j;rw[decide_eq_true j,decide_eq_true f] at d;cases d
theorem c90{c:H}{d:KV}(f:∀g h,AP c g→AY 172 3 c.next.nat g h (DM (Cm s))→d h g):W1 (.func 90) [S s] c d:=by refine w90 (n:=s.length+2) AJ (g90 ?_);show Pl W1 d (T7 W1 d (s.length+1)) s.length (enc s) .Af (vJ 0) c;exact dr hl _ 0 [] (by omega) (vF _) (vE _) .refl (.inl ⟨rfl,rfl⟩) λg h a b=>f g h a b
end
end Go.Den
namespace Go.Den
open Go.RowKit
set_option maxRecDepth 100000
open Go.Lx (Rn Co Bi Jk Fm Ks)
theorem Cy{n:Nat}{K:Nat→Prop}(a:K n):Bo (vJ n) K:=by rw[Cu];exact a
def Ads(o:Option (UInt8×UInt8)):U:=match o with
 |some p=>.tuple [ub p.2,.bool true]
 |none=>.tuple [.int .u8 (.ofNat 0),.bool false]
theorem Aab{a:UInt8}{b:KV}{c:H}:∀(n d:Nat),9-d<n→d≤9→b (Ads (((Fm.zip Ks).drop d).find? λp=>p.1==a)) c→(ab W1 b n).a1 (vJ a.toNat) (vJ d) c
 |0,_,f,_,_=>absurd f (vH _)
 |n+1,d,f,hi,g=>by
  refine Atv ?_;unfold Vx;rw[Cr];refine Bp (λe=>?_) (λe=>?_)
  · have e:d<9:=of_decide_eq_true e;have h:d<Fm.length:=e;have i:d<Ks.length:=e;have j:d<(Fm.zip Ks).length:=e;rw[o9 j,List.find?_cons,List.getElem_zip] at g;rw[Cu];refine Ev (s:=Fm) h ?_;rw[TN];refine Bp (λk=>?_) (λk=>?_)
    · have k:Fm[d]=a:=of_decide_eq_true k;rw[show(Fm[d]==a)=true from beq_iff_eq.2 k] at g;rw[Cu];refine Ev (s:=Ks) i ?_;exact g
    · have k:¬Fm[d]=a:=of_decide_eq_false k;rw[show(Fm[d]==a)=false from beq_eq_false_iff_ne.2 k] at g;rw[Ep,C9 (by omega),BW];exact Aab n (d+1) (by omega) (by omega) g
  · have e:d=9:=by have:=of_decide_eq_false e;omega
    subst e;exact g
theorem c50(c:UInt8):Pure PP G h0 50 [ub c] (Ads ((Fm.zip Ks).find? λp=>p.1==c)):=by refine w50 (n:=11) AJ (g50 ?_);unfold V3;exact Aab 10 0 (by omega) (by omega) rfl
theorem Uq(c:UInt8):Ads ((Fm.zip Ks).find? λp=>p.1==c)=(match Jk c with|some d=>.tuple [ub d,.bool true]|none=>.tuple [.int .u8 (.ofNat 0),.bool false]):=by
 unfold Jk;cases(Fm.zip Ks).find? λp=>p.1==c with
 |none=>rfl
 |some p=>rfl
section
variable{hE:H}{s:List UInt8}{k:KV}(hl:s.length≤1000000)
include hl
theorem Aja(n:Nat):∀(c:Nat)(d:List Rn){f:H}{v:U},2*(s.length-c)<n→c≤s.length→d.length≤c→AP hE f→AY 71 3 hE.next.nat f v (DM d)→
 (∀g h,AP hE g→AY 71 3 hE.next.nat g h (DM (d++Bi c (s.drop c)))→k h g)→(PT W1 k n).a1 s.length (enc s) v (vJ c) f:=by
 induction n using Nat.strongRecOn with
 |_ n i=>
  intro c d f v j hi m o p q;obtain⟨n,rfl⟩:∃t,n=t+1:=⟨n-1,by omega⟩;refine mY ?_;unfold RN;rw[Cr];refine Bp (λe=>?_) (λe=>?_)
  · have e:c<s.length:=of_decide_eq_true e;obtain⟨n,rfl⟩:∃t,n=t+1:=⟨n-1,by omega⟩;have u:∀(l:List Rn)(r:Rn),DM (l++[r])=DM l++[[ub r.1,.int .i64 (.ofNat r.2.1),.int .i64 (.ofNat r.2.2)]]:=λl r=>by unfold DM;rw[u0];rfl
    have one:∀g,(∀w:c+2<s.length,s[c]=63→s[c+1]=63→Jk s[c+2]=none)→g=f→(PT W1 k (n+1)).a2 s.length (enc s) v (vJ c) g:=λg x y=>by subst y;refine sj ?_;unfold SI;rw[Cu];refine Ev e ?_;rw[Ep,C9 (by omega),BW,Vo,Ad];refine OK p (by rw[B6];omega) o.1 λh w j m=>?_;rw[BW];refine i n (by omega) (c+1) (d++[(s[c],c,c+1)]) (by omega) e (by rw[o7,vj];omega) (o.kp (vE _) m) (by rw[u];exact j) λt f a b=>?_;refine q t f a ?_;rw[MS e x];rw[vp] at b;exact b
    rw[Ep,C9 (by omega),BW];refine DR (b:=decide (s[c]=63)) (λy m=>?_) ?_
    · rw[Cu];refine Ev e ?_;rw[Pv _ 63 (by decide)];exact m
    rw[Cr];refine Dm (λx=>?_) (λx=>?_)
    · rw[vK,decide_eq_true_eq,decide_eq_true_eq] at x;rw[Ep,C9 (by omega),BW,Cu];refine Ev (show c+1<s.length by omega) ?_;rw[Pv _ 63 (by decide)];refine Bp (λy=>?_) (λy=>?_)
      · have y:s[c+1]=63:=of_decide_eq_true y;rw[BW,Cu];refine Ev x.1 ?_;refine Ex (c50 s[c+2]) ?_ rfl (by rw[Uq];cases Jk s[c+2]<;>rfl);rw[Uq];cases a0:Jk s[c+2] with
        |none=>show ext 0 (.tuple [.int .u8 (.ofNat 0),.bool false]) _;rw[Dw,AG,Dt,AL];exact AR rfl (one _ (λ_ _ _=>a0) rfl)
        |some a1=>show ext 0 (.tuple [ub a1,.bool true]) _;rw[Dw];unfold ub;rw[AG,Dt,AL];refine By rfl ?_;rw[Ep,C9 (by omega),BW,Vo,Ad];refine OK p (by rw[B6];omega) o.1 λh w j m=>?_;rw[BW];refine i (n+1) (by omega) (c+3) (d++[(a1,c,c+3)]) (by omega) (by omega) (by rw[o7,vj];omega) (o.kp (vE _) m) (by rw[u];exact j) λt f a b=>?_;refine q t f a ?_;rw[KQ x.1 x.2 y a0];rw[vp] at b;exact b
      · exact one _ (λ_ _ g=>absurd g (of_decide_eq_false y)) rfl
    · exact AR rfl (one _ (λw g _=>by rw[decide_eq_true w,decide_eq_true g] at x;cases x) rfl)
  · have e:¬c<s.length:=of_decide_eq_false e;rw[s8 (by omega),show Bi c []=[] by rw[Bi],vi] at q;exact q _ _ o p
theorem Adr{b:H}(c:∀d f,AP b d→AY 71 3 b.next.nat d f (DM (Bi 0 s))→k f d):W1 (.func 23) [S s] b k:=by refine w23 (n:=2*s.length+1+1) AJ (g23 ?_);unfold Sr;refine Aja hl (2*s.length+1) 0 [] (by omega) (vF _) (vE _) .refl (.inl ⟨rfl,rfl⟩) λd f a g=>c d f a g
end
theorem OR:∀(b:List UInt8)(c:Nat),(Bi c b).length≤b.length∧∀x∈Bi c b,x.2.1≤c+b.length∧x.2.2≤c+b.length
 |[],c=>by rw[Bi];exact⟨vE _,λx d=>by cases d⟩
 |[a],c=>by rw[Bi];refine⟨vE _,λx d=>?_⟩;simp only[List.mem_singleton] at d;subst d;simp
 |[a,f],c=>by
  rw[Bi];refine⟨vE _,λx d=>?_⟩;simp only[vw,List.not_mem_nil,or_false] at d;rcases d with rfl|rfl
  · simp only[l6,List.length_nil];omega
  · simp
 |a::f::g::r,c=>by
  have h:=OR (f::g::r) (c+1);have i:=OR r (c+3);have j:((a,c,c+1)::Bi (c+1) (f::g::r)).length≤(a::f::g::r).length∧∀x∈(a,c,c+1)::Bi (c+1) (f::g::r),x.2.1≤c+(a::f::g::r).length∧x.2.2≤c+(a::f::g::r).length:=by
   refine⟨by simp only[l6] at h ⊢;omega,λx d=>?_⟩;rcases vw.1 d with rfl|d
   · simp only[l6];omega
   · have:=h.2 x d;simp only[l6] at this ⊢;omega
  rw[Bi];split
  · split
    · refine⟨by simp only[l6];omega,λx d=>?_⟩;rcases vw.1 d with rfl|d
      · simp only[l6];omega
      · have:=i.2 x d;simp only[l6] at this ⊢;omega
    · exact j
  · exact j
theorem WU:∀(l:List Rn),(Co l).length≤l.length∧∀x∈Co l,x∈l
 |[]=>by rw[Co];exact⟨vE _,λx a=>a⟩
 |[x]=>by rw[Co];exact⟨vE _,λx a=>a⟩
 |x::b::r=>by
  have c:=WU r;have d:=WU (b::r);rw[Of];split
  · exact⟨by simp only[l6];omega,λz f=>by simp[c.2 z f]⟩
  · refine⟨by simp only[l6] at d ⊢;omega,λz f=>?_⟩;rcases vw.1 f with rfl|f
    · simp
    · have:=d.2 z f;simp only[vw] at this ⊢;exact .inr this
theorem kr{l:List Rn}{a:Nat}(b:a+1<l.length)(e:l[a].1=92)(c:l[a+1].1=10):Co (l.drop a)=Co (l.drop (a+2)):=by rw[o9 (show a<l.length by omega),o9 b,Of,if_pos ⟨e,c⟩]
theorem Abt{l:List Rn}{a:Nat}(b:a<l.length)(c:¬(l[a].1=92∧∃d:a+1<l.length,l[a+1].1=10)):Co (l.drop a)=l[a]::Co (l.drop (a+1)):=by
 rw[o9 b];rcases vG (a+1) l.length with d|d
 · rw[o9 d,Of,if_neg (λe=>c ⟨e.1,d,e.2⟩)]
 · rw[s8 d];rw[Co,Co]
theorem Xi{c:H}{l:List Rn}{d:U}{f:KV}(g:l.length≤1000000)(h:Rd 3 c d (DM l)):
    ∀(n i:Nat)(j:List Rn){k:H}{v:U},2*(l.length-i)<n→i≤l.length→j.length≤i→AP c k→AY 71 3 c.next.nat k v (DM j)→
    (∀m o,AP c m→AY 71 3 c.next.nat m o (DM (j++Co (l.drop i)))→f o m)→(PN W1 f n).a1 d v (vJ i) k
  |0,_,_,_,_,p,_,_,_,_,_=>absurd p (vH _)
  |n+1,i,j,k,v,p,hi,q,r,s,t=>by
    refine eh ?_;unfold OF;have u:=h.ext r;rw[u.len,B6,Cr];refine Bp (λe=>?_) (λe=>?_)
    · have e:i<l.length:=of_decide_eq_true e;have w:i<(DM l).length:=by rw[B6];exact e
      obtain⟨x,rfl⟩:∃x,n=x+1:=⟨n-1,by omega⟩;refine HD (u.T5 (j:=0) w (by rw[ED e];exact vI _) ?_);simp only[ED e,KK,vz];unfold ub;rw[AG,Pv _ 92 (by decide)];refine DR (b:=decide (i+1<l.length)) (λy c=>Bx (by omega) ?_) ?_
      · rw[u.len,B6,Cr];exact c
      have p:¬(l[i].1=92∧∃q:i+1<l.length,l[i+1].1=10)→Bo (vJ i) λy=>A7 3 y d λa0=>A3 3 a0 k λy=>
          oK (AE env 68 (λe a0=>Ap 1 [(0,y)] k e a0)) λa1 a2=>oK (AB env .append [68,68] [v,a1] a2) λk y=>(PN W1 f (x+1)).a2 d k (vJ i) y:=λd=>by
        refine HD (u.all w (by rw[ED e];rfl) ?_);rw[ED e];unfold KK;refine OK s (by rw[B6];omega) r.1 λo m f c=>?_;refine cq ?_;unfold OJ;refine Bx (by omega) ?_;have k:DM (j++[l[i]])=DM j++[[ub l[i].1,.int .i64 (.ofNat l[i].2.1),.int .i64 (.ofNat l[i].2.2)]]:=by unfold DM;rw[u0];rfl
        refine Xi g h x (i+1) (j++[l[i]]) (by omega) e (by rw[o7,vj];omega) (r.kp (vE _) c) (by rw[k];exact f) λy w a b=>?_;rw[Abt e d] at t;refine t y w a ?_;rw[vp] at b;exact b
      refine Dm (λm=>?_) (λm=>?_)
      · simp only[vK,decide_eq_true_eq] at m;have o:i+1<(DM l).length:=by rw[B6];exact m.2
        refine Bx (by omega) (HD (u.T5 (j:=0) o (by rw[ED m.2];exact vI _) ?_));simp only[ED m.2,KK,vz];unfold ub;rw[AG,Pv _ 10 (by decide)];refine Bp (λc=>?_) (λc=>?_)
        · have c:l[i+1].1=10:=of_decide_eq_true c;refine Bx (by omega) ?_;refine cq ?_;unfold OJ;refine Bx (by omega) ?_;rw[kr m.2 m.1 c] at t;exact Xi g h x (i+2) j (by omega) m.2 (by omega) r s t
        · exact p λd=>by obtain⟨_,q,y⟩:=d;exact absurd y (of_decide_eq_false c)
      · exact AR rfl (p λd=>by obtain⟨h0,q,_⟩:=d;have h0:l[i].1=UInt8.ofNat 92:=h0;rw[decide_eq_true h0,decide_eq_true q] at m;cases m)
    · have e:¬i<l.length:=of_decide_eq_false e;rw[s8 (by omega),show Co []=[] by rw[Co],vi] at t;exact t _ _ r s
theorem AY.rd'{e:TypeId}{sz lo:Nat}{b:H}{v:U}{c:List (List U)}(d:AY e sz lo b v c):(v=.Af∧c=[])∨Rd sz b v c:=by
 rcases d with⟨a,f⟩|⟨q,t,g,z,h,rfl,_,i,j,k,_,l⟩
 · exact .inl ⟨a,f⟩
 · exact .inr (.row q 0 t g z e h false rfl i j (by omega) l)
theorem Aes{l:List Rn}{lo:Nat}{b:U}{c:H}{d:KV}(f:l.length≤1000000)(g:AY 71 3 lo c b (DM l))(h:∀i j,AP c i→AY 71 3 c.next.nat i j (DM (Co l))→d j i):W1 (.func 22) [b] c d:=by
 refine w22 (n:=2*l.length+1+1) AJ (g22 ?_);unfold Tn;rcases g.rd' with⟨rfl,e⟩|k
 · have:l=[]:=by cases l with
    |nil=>rfl
    |cons x l=>exact absurd e (by unfold DM;simp)
   subst this;refine eh ?_;unfold OF;rw[Fh,Cr];exact AR rfl (h c .Af .refl (.inl ⟨rfl,by rw[Co];rfl⟩))
 · exact Xi f k (2*l.length+1) 0 [] (by omega) (vF _) (vE _) .refl (.inl ⟨rfl,rfl⟩) λi j a m=>h i j a m
def inR(f t:Int)(r:Rn):Bool:=decide (f≤vJ r.2.1)&&decide (vJ r.2.2≤t)
def Kt(f t:Int)(l:List Rn):List UInt8:=(l.filter (inR f t)).map (·.1)
theorem Ara{f t:Int}{l:List Rn}{a:Nat}(b:a<l.length)(c:inR f t l[a]=true):Kt f t (l.take (a+1))=Kt f t (l.take a)++[l[a].1]:=by unfold Kt;rw[vA b,vB,u0,List.filter_cons_of_pos c];rfl
theorem Aqo{f t:Int}{l:List Rn}{a:Nat}(b:a<l.length)(c:inR f t l[a]=false):Kt f t (l.take (a+1))=Kt f t (l.take a):=by unfold Kt;rw[vA b,vB,u0,List.filter_cons_of_neg (by rw[c];decide)];simp
theorem qV(f t:Int)(l:List Rn):(Kt f t l).length≤l.length:=by unfold Kt;rw[s9];exact List.length_filter_le _ _
section
variable{l:List Rn}{f t:Int}(hl:l.length≤1000000)
include hl
theorem pU{a:H}{b:U}{c:KV}(d:Rd 3 a b (DM l))(g:∀h,AP a h→c (S (Kt f t l)) h):∀(n i:Nat){j:H}{v:U},2*(l.length-i)<n→i≤l.length→AP a j→AY TB 1 a.next.nat j v (eb (Kt f t (l.take i)))→(r9 W1 c n).a1 f t b v (vJ i) j
 |0,_,_,_,k,_,_,_=>absurd k (vH _)
 |n+1,i,j,v,k,hi,m,o=>by
  refine Aly ?_;unfold Zr;have p:=d.ext m;rw[p.len,B6,Cr];refine Bp (λe=>?_) (λe=>?_)
  · have e:i<l.length:=of_decide_eq_true e;have r:i<(DM l).length:=by rw[B6];exact e
    obtain⟨s,rfl⟩:∃s,n=s+1:=⟨n-1,by omega⟩;have u:=qV f t (l.take i);rw[List.length_take] at u;refine Cy (p.T5 (j:=1) r (by rw[ED e];show 1<3;decide) ?_);simp only[ED e,KK,vD,vz];rw[AG,Gl];refine DR (b:=decide (vJ l[i].2.2≤t)) (λw x=>?_) ?_
    · refine Cy (p.T5 (j:=2) r (by rw[ED e];show 2<3;decide) ?_);simp only[ED e,KK,vD,vz];rw[AG,Gl];exact x
    refine Bp (λq=>?_) (λq=>?_)
    · refine Cy (p.T5 (j:=0) r (by rw[ED e];show 0<3;decide) ?_);simp only[ED e,KK,vz];unfold ub;rw[AG];refine UB o (by omega) m.1 λy h a x=>?_;refine All ?_;unfold aI;refine Bx (by omega) ?_;exact pU d g s (i+1) (by omega) e (m.kp (vE _) x) (by rw[Ara e q];exact a)
    · refine All ?_;unfold aI;refine Bx (by omega) ?_;exact pU d g s (i+1) (by omega) e m (by rw[Aqo e q];exact o)
  · have e:i=l.length:=by have:=of_decide_eq_false e;omega
    subst e;rw[List.take_length] at o;rw[SY o,Ad];exact g _ m
end
theorem c9{a:List UInt8}{f t:Int}(b:a.length≤1000000){c:H}{d:KV}(g:∀h,AP c h→d (S (Kt f t (Cm a))) h):W1 (.func 9) [S a,.int .i64 f,.int .i64 t] c d:=by
 have i:=OR a 0;have j:=WU (Bi 0 a);have k:(Cm a).length≤1000000:=by unfold Cm;omega
 refine w9 (n:=2*(Cm a).length+1+1) AJ (g9 ?_);unfold gQ;refine Adr b λm n o p=>?_;refine Aes (by omega) p λq r s u=>?_;have v:=o.trans s;rcases u.rd' with⟨rfl,e⟩|w
 · have e:Cm a=[]:=by
    unfold Cm;cases y:Co (Bi 0 a) with
    |nil=>rfl
    |cons x l=>rw[y] at e;exact absurd e (by unfold DM;simp)
   rw[e] at g ⊢;refine Aly ?_;unfold Zr;rw[Fh,Cr];refine AR rfl ?_;rw[SY (l:=[]) (lo:=0) (.inl ⟨rfl,rfl⟩),Ad];exact g q v
 · exact pU (l:=Cm a) k w (λh x=>g h (v.trans x)) _ 0 (by omega) (vF _) .refl (.inl ⟨rfl,rfl⟩)
section
variable{l:List Rn}{f t:Int}(hl:l.length≤1000000)
include hl
end
end Go.Den
