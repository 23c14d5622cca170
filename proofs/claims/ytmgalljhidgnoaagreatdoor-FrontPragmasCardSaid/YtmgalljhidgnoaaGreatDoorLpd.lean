/-
 Proof.
-/
import Derived.Test.YtmgalljhidgnoaaGreatDoorLpc
open Bool renaming or_eq_true → wP, and_eq_true → vK, and_false → yA, false_and → yE, not_or → yF
open Nat renaming lt_or_ge → vG, not_lt_zero → vH, lt_irrefl → yd
open List renaming drop_eq_nil_of_le → s8, mem_cons → vw, drop_drop → yC, isPrefixOf → yu, find?_cons → yw, mem_cons_of_mem → xK, takeWhile_cons → yD
open Int renaming ofNat → vJ
noncomputable section
namespace Go.Den
open Go.RowKit
set_option maxRecDepth 100000
open Go.Lx (Rn AA Bi Co El Ih Dp DO Gg EI E9 Ey EG IP HA Cs)
def Kq(B:List UInt8)(j:Nat):Nat:=j+DO (B.drop j)
def PS(x:UInt8):Bool:=decide (x=101)||decide (x=69)||decide (x=112)||decide (x=80)
def Mq(x:UInt8):Bool:=decide (x=43)||decide (x=45)
def Yh(x:UInt8):Bool:=BZ x||isDigit x||decide (x=46)
theorem Afd{x y:UInt8}{r:List UInt8}:DO (x::y::r)=if(x=101∨x=69∨x=112∨x=80)∧(y=43∨y=45) then 2+DO r else if Go.Lx.BZ x||Go.Lx.isDigit x||x==46 then 1+DO (y::r) else 0:=by rw[DO]
theorem Agw{x:UInt8}:DO [x]=if Go.Lx.BZ x||Go.Lx.isDigit x||x==46 then 1 else 0:=by rw[DO]
theorem gi:DO []=0:=by rw[DO]
theorem fA(x:UInt8):(Go.Lx.BZ x||Go.Lx.isDigit x||x==46)=Yh x:=by unfold Yh;have:(x==46)=decide (x=46):=rfl;rw[this];rfl
theorem RT{x:UInt8}:PS x=true↔(x=101∨x=69∨x=112∨x=80):=by unfold PS;simp only[wP,decide_eq_true_eq];exact⟨λh=>by rcases h with((h|h)|h)|h<;>simp[h],λh=>by rcases h with h|h|h|h<;>simp[h]⟩
theorem UQ{x:UInt8}:Mq x=true↔(x=43∨x=45):=by unfold Mq;simp
theorem bu{B:List UInt8}{j:Nat}:Kq B j=if(PS (bt B j)&&Mq (bt B (j+1)))=true then Kq B (j+2) else if Yh (bt B j)=true then Kq B (j+1) else j:=by
 rcases vG j B.length with b|b
 · rw[DF b];rcases vG (j+1) B.length with c|c
   · rw[DF c];unfold Kq;rw[drop_cons b,drop_cons c,Afd,fA,show j+1+1=j+2 from rfl];by_cases a:(PS B[j]&&Mq B[j+1])=true
     · rw[if_pos a];simp only[vK] at a;rw[if_pos ⟨RT.1 a.1,UQ.1 a.2⟩];omega
     · rw[if_neg a,if_neg (λe=>a (by simp only[vK];exact⟨RT.2 e.1,UQ.2 e.2⟩))];split<;>omega
   · rw[GL c];unfold Kq;rw[drop_cons b,s8 c,Agw,fA,gi];rw[show Mq 0=false by decide,yA,if_neg (show¬(false=true) by decide)];split<;>rfl
 · rw[GL b];unfold Kq;rw[s8 b,gi,show PS 0=false by decide,yE,if_neg (show¬(false=true) by decide),show Yh 0=false by decide,if_neg (show¬(false=true) by decide)];rfl
theorem bg(x:UInt8):Go.Lx.isDigit x=isDigit x:=rfl
theorem jy(x:UInt8):Go.Lx.BZ x=BZ x:=rfl
theorem Ux(M:List UInt8)(x:UInt8):CJ (vJ 0) (Mv M x)=decide (x∈M):=by
 rw[Gl];have:=UT M x;refine decide_eq_decide.2 ⟨λh=>?_,λh=>?_⟩
 · by_cases c:x∈M
   · exact c
   · have:=this.2 c;exact absurd h (by show¬((0:Nat):Int)≤Mv M x;omega)
 · by_cases c:Mv M x<0
   · exact absurd h (this.1 c)
   · show((0:Nat):Int)≤Mv M x;omega
section
variable{h:H}{pW:P}{fl:List UInt8}{L:List Rn}{a:Nat}{vd:U}{sp:Bool}{q:Int}
theorem pk(w:Wk h pW fl L a vd sp q){n:Nat}(b:a+n≤1000000000){K:Int→H→Prop}(c:K (vJ (bt (AA L) (a+n)).toNat) h):W1 (.func 175) [.ptr pW 0,.int .i64 (vJ n)] h λv d=>Ar .u8 v λn=>K n d:=by refine Ud w b ?_;unfold ub;rw[AG];exact c
theorem oo(x:UInt8):decide (x∈[101,69,112,80])=PS x:=by
 unfold PS;rw[Bool.eq_iff_iff];simp only[decide_eq_true_eq,wP,vw,List.not_mem_nil,or_false];constructor
 · rintro(h|h|h|h)<;>simp[h]
 · rintro(((h|h)|h)|h)<;>simp[h]
theorem gW(b:Wk h pW fl L a vd sp q)(c:L.length≤1000000){d:KV}:∀(n j:Nat),2*(L.length+2-(a+j))+1<n→a+j≤L.length+1→d (.int .i64 (vJ (Kq (AA L) (a+j)-a))) h→(Iv W1 d n).a1 (.ptr pW 0) (vJ j) h
 |0,_,f,_,_=>absurd f (vH _)
 |n+1,j,f,g,i=>by
  refine Ail ?_;unfold Qg;rw[bu] at i;obtain⟨k,rfl⟩:∃k,n=k+1:=⟨n-1,by omega⟩;have next:∀l,j≤l→a+l+1≤L.length+1→d (.int .i64 (vJ (Kq (AA L) (a+(l+1))-a))) h→(Iv W1 d (k+1)).a2 (.ptr pW 0) (vJ l) h:=λl m hi o=>by refine Afe ?_;unfold P9;exact Bx (by omega) (gW b c k (l+1) (by omega) (by omega) o)
  refine pk b (by omega) (Bx (by omega) (pk b (by omega) ?_));refine Ex (Aer [101,69,112,80] (bt (AA L) (a+j))) ?_;rw[AG,Ux,oo];refine DR (b:=Mq (bt (AA L) (a+(j+1)))) (λp o=>Tw ?_) ?_
  · rw[show AN (vJ (bt (AA L) (a+(j+1))).toNat) (vJ 43)=decide (bt (AA L) (a+(j+1))=43) from H4 _ 43 (by decide),show AN (vJ (bt (AA L) (a+(j+1))).toNat) (vJ 45)=decide (bt (AA L) (a+(j+1))=45) from H4 _ 45 (by decide)];exact o
  refine Bp (λr=>?_) (λr=>?_)
  · rw[if_pos (show(PS (bt (AA L) (a+j))&&Mq (bt (AA L) (a+j+1)))=true from r)] at i;have s:a+j+1<L.length:=by
     rcases vG (a+j+1) L.length with t|t
     · exact t
     · rw[show a+(j+1)=a+j+1 from rfl,LO t,show Mq 0=false by decide,yA] at r;cases r
    exact Bx (by omega) (next (j+1) (by omega) (by omega) i)
  · rw[if_neg (show¬(PS (bt (AA L) (a+j))&&Mq (bt (AA L) (a+j+1)))=true by rw[show(PS (bt (AA L) (a+j))&&Mq (bt (AA L) (a+j+1)))=false from r];decide)] at i;refine Ex (rj _) ?_;rw[AL,FL];refine DR (b:=!isDigit (bt (AA L) (a+j))) (λp o=>Ex (pj _) (by rw[AL,FL];exact o)) ?_;refine IT ?_;rw[show AN (vJ (bt (AA L) (a+j)).toNat) (vJ 46)=decide (bt (AA L) (a+j)=46) from H4 _ 46 (by decide),FL];have u:((!BZ (bt (AA L) (a+j))&&!isDigit (bt (AA L) (a+j)))&&!decide (bt (AA L) (a+j)=46))=!Yh (bt (AA L) (a+j)):=by unfold Yh;rw[yF,yF]
    rw[u];refine Bp (λv=>?_) (λv=>?_)
    · rw[if_neg (by rw[show Yh (bt (AA L) (a+j))=false by simpa using v];decide),Nat.add_sub_cancel_left] at i;exact i
    · have v:Yh (bt (AA L) (a+j))=true:=by simpa using v
      rw[if_pos v] at i;have s:a+j<L.length:=by
       rcases vG (a+j) L.length with t|t
       · exact t
       · rw[LO t] at v;exact absurd v (by decide)
      exact next j (Nat.le_refl _) (by omega) i
theorem Bge(b:Wk h pW fl L a vd sp q)(c:L.length≤1000000)(d:a<L.length){f:KV}(g:f (.int .i64 (vJ (Gg ((AA L).drop a)))) h):W1 (.func 177) [.ptr pW 0] h f:=by
 refine Aod (n:=2*L.length+10) AJ (Bgs ?_);unfold Qt;unfold Gg at g;rw[show Cs ((AA L).drop a) 0=bt (AA L) a from FJ,show Cs ((AA L).drop a) 1=bt (AA L) (a+1) from FJ,bg,bg,yC,show(bt (AA L) a==46)=decide (bt (AA L) a=46) from rfl] at g;have i:∀j,j≤1→(isDigit (bt (AA L) (a+j))=false→f (.int .i64 (vJ 0)) h)→(isDigit (bt (AA L) (a+j))=true→a+j<L.length→f (.int .i64 (vJ (Kq (AA L) (a+(j+1))-a))) h)→(Iv W1 f (2*L.length+9)).a3 (.ptr pW 0) (vJ j) h:=λj hi k k1=>by
  refine Afb ?_;unfold Qu;refine pk b (by omega) ?_;refine Ex (pj _) ?_;rw[AL,FL];refine Bp (λl=>k (by simpa using l)) (λl=>?_);have l:isDigit (bt (AA L) (a+j))=true:=by simpa using l
  have m:a+j<L.length:=by
   rcases vG (a+j) L.length with n|n
   · exact n
   · rw[LO n] at l;exact absurd l (by decide)
  exact Bx (by omega) (gW b c _ (j+1) (by omega) (by omega) (k1 l m))
 refine pk b (by omega) ?_;show V (AN (vJ (bt (AA L) a).toNat) (vJ 46)) _ _;rw[show AN (vJ (bt (AA L) a).toNat) (vJ 46)=decide (bt (AA L) a=46) from H4 _ 46 (by decide)];refine Bp (λl=>?_) (λl=>?_)
 · have l:=of_decide_eq_true l;have o:isDigit (bt (AA L) a)=false:=by rw[l];decide
   rw[o,decide_eq_true l,Bool.false_or,Bool.true_and] at g;refine Bx (by omega) (i 1 (Nat.le_refl _) (λp=>?_) (λp m=>?_))
   · rw[if_neg (by rw[p];decide)] at g;exact g
   · rw[if_pos p] at g;have r:DO ((AA L).drop (a+1))=1+DO ((AA L).drop (a+2)):=by
      have n:a+1<(AA L).length:=by rw[Bj];exact m
      have s:=bu (B:=AA L) (j:=a+1);have t:PS (bt (AA L) (a+1))=false:=by
       cases e:PS (bt (AA L) (a+1)) with
       |false=>rfl
       |true=>rcases RT.1 e with e|e|e|e<;>(rw[e] at p;exact absurd p (by decide))
      rw[t,yE,if_neg (by decide),if_pos (by unfold Yh;rw[p,Bool.or_true];rfl)] at s;unfold Kq at s;have s:a+1+DO ((AA L).drop (a+1))=a+2+DO ((AA L).drop (a+2)):=s;omega
     unfold Kq;rw[r] at g;have:a+(1+1)+DO ((AA L).drop (a+(1+1)))-a=1+(1+DO ((AA L).drop (a+2))):=by show a+2+DO ((AA L).drop (a+2))-a=_;omega
     rw[this];exact g
 · have l:=of_decide_eq_false l;rw[decide_eq_false l,yE,Bool.or_false] at g;refine i 0 (Nat.zero_le _) (λp=>?_) (λp m=>?_)
   · have p:isDigit (bt (AA L) a)=false:=p;rw[if_neg (by rw[p];decide)] at g;exact g
   · have p:isDigit (bt (AA L) a)=true:=p;rw[if_pos p] at g;unfold Kq;have:a+(0+1)+DO ((AA L).drop (a+(0+1)))-a=1+DO ((AA L).drop (a+1)):=by show a+1+DO ((AA L).drop (a+1))-a=_;omega
     rw[this];exact g
def Du:List (List UInt8):=Go.Lx.Np.take 29
def Kj:List UInt8:=[91,93,40,41,123,125,46,38,42,43,45,126,33,47,37,60,62,94,124,63,58,59,61,44,35]
theorem dZ:Go.Lx.Np=Du++Kj.map λc=>[c]:=by decide
def gP:Tm:=Ai (List.replicate 29 (.str 0 0)) 0 .e
theorem Att(h:H):AE env 32 (λe a=>Ap 29 [(0,(.str 4 975518245)),(1,(.str 3 3026478)),(2,(.str 3 4013116)),(3,(.str 3 4013630)),(4,(.str 2 15917)),(5,(.str 2 11051)),(6,(.str 2 11565)),(7,(.str 2 15420)),(8,(.str 2 15934)),(9,(.str 2 15676)),(10,(.str 2 15678)),(11,(.str 2 15677)),(12,(.str 2 15649)),(13,(.str 2 9766)),(14,(.str 2 31868)),(15,(.str 2 15658)),(16,(.str 2 15663)),(17,(.str 2 15653)),(18,(.str 2 15659)),(19,(.str 2 15661)),(20,(.str 2 15654)),(21,(.str 2 15710)),(22,(.str 2 15740)),(23,(.str 2 8995)),(24,(.str 2 14908)),(25,(.str 2 15930)),(26,(.str 2 9532)),(27,(.str 2 15909)),(28,(.str 2 14885))] h e a)=some (.slice h.next 0 29 1 true,h.new (.row (Ai (Du.map S) 0 gP) 29 0 9 true)):=by kernel_rfl
theorem TV(b c:List UInt8)(a:Nat)(h0:0∉b):(match(b.map λd=>[d]).find? (λp=>p.isPrefixOf (c.drop a)) with
 |some p=>p.length
 |none=>0)=if bt c a∈b then 1 else 0:=by
 induction b with
 |nil=>rfl
 |cons x b f=>
  have g:x≠0:=λe=>h0 (by simp[e]);have i:yu [x] (c.drop a)=decide (bt c a=x):=by
   rcases vG a c.length with h|h
   · rw[drop_cons h,Fk,DF h,show yu [] (c.drop (a+1))=true by cases c.drop (a+1)<;>rfl,Bool.and_true];exact decide_eq_decide.2 eq_comm
   · rw[s8 h,GL h,decide_eq_false (λe=>g e.symm)];rfl
  rw[List.map_cons,yw,i];by_cases d:bt c a=x
  · rw[decide_eq_true d,if_pos (by simp[d])];rfl
  · rw[decide_eq_false d];simp only[];rw[f λe=>h0 (xK _ e)];by_cases j:bt c a∈b
    · rw[if_pos j,if_pos (xK _ j)]
    · rw[if_neg j,if_neg λe=>(vw.1 e).elim d j]
theorem oO(B:List UInt8)(a:Nat):HA (B.drop a)=match Du.find? (λp=>p.isPrefixOf (B.drop a)) with
 |some p=>p.length
 |none=>if bt B a∈Kj then 1 else 0:=by
 unfold HA;rw[dZ,List.find?_append];cases e:Du.find? (λp=>p.isPrefixOf (B.drop a)) with
 |some p=>rfl
 |none=>exact TV Kj B a (by decide)
theorem ja(b:Wk h pW fl L a vd sp q)(c:L.length≤1000000)(d:a≤L.length){v:U}(f:Rd 1 h v (JX Du)){g:KV}:∀(n i:Nat),29-i<n→i≤29→g (.int .i64 (vJ (match(Du.drop i).find? (λp=>p.isPrefixOf ((AA L).drop a)) with
    |some p=>p.length
    |none=>if bt (AA L) a∈Kj then 1 else 0))) h→(Pz W1 g n).a1 (.ptr pW 0) v (vJ 29) (vJ i) h
  |0,_,j,_,_=>absurd j (vH _)
  |n+1,i,j,hi,k=>by
    refine Aki ?_;unfold QH;rw[show Ba (vJ i) (vJ 29)=decide (i<29) from Cr _ _];have l:Du.length=29:=by decide
    refine Bp (λe=>?_) (λe=>?_)
    · have m:i<29:=of_decide_eq_true e;have e:i<Du.length:=by rw[l];exact m
      have r:i<(JX Du).length:=by rw[Fc];exact e
      have s:(Du[i]'e).length≤4:=by
        have:∀t∈Du,t.length≤4:=by decide
        exact this _ (List.getElem_mem e)
      refine Cy (f.elem r λq o _ _ u=>?_);rw[KW e] at u;refine u.Z (j:=0) (by show 0<1;decide) ?_;show Bv (S (Du[i]'e)) _;rw[CR];refine YJ b (by omega) (by omega) (by omega) ?_;rw[AL];rw[List.drop_eq_getElem_cons e,yw] at k;refine Bp (λp=>?_) (λp=>?_)
      · rw[p] at k;exact k
      · rw[p] at k;exact Bx (by omega) (ja b c d f n (i+1) (by omega) (by omega) k)
    · have e:i=29:=by have:=of_decide_eq_false e;omega
      subst e;rw[show Du.drop 29=[] by decide] at k;have k:g (.int .i64 (vJ (if bt (AA L) a∈Kj then 1 else 0))) h:=k;refine pk b (by omega) ?_;show AM (λtv=>gate true (Bm (AN (vJ (bt (AA L) a).toNat) (vJ 0))) _ _) _;rw[show AN (vJ (bt (AA L) a).toNat) (vJ 0)=decide (bt (AA L) a=0) from H4 _ 0 (by decide),FL];refine DR (b:=decide (bt (AA L) a∈Kj)) (λw x=>?_) ?_
      · refine Ex (Aer Kj (bt (AA L) a)) ?_;rw[AG,Ux];exact x
      have y:(!decide (bt (AA L) a=0)&&decide (bt (AA L) a∈Kj))=decide (bt (AA L) a∈Kj):=by
        by_cases j:bt (AA L) a=0
        · rw[j];decide
        · rw[decide_eq_false j];rfl
      rw[y];refine Bp (λj=>?_) (λj=>?_)
      · rw[if_pos (of_decide_eq_true j)] at k;exact k
      · rw[if_neg (of_decide_eq_false j)] at k;exact k
theorem Bbk(b:Wk h pW fl L a vd sp q)(c:L.length≤1000000)(d:a≤L.length){f:KV}(g:∀i,AP h i→f (.int .i64 (vJ (HA ((AA L).drop a)))) i):W1 (.func 178) [.ptr pW 0] h f:=by refine Alu (n:=31) AJ (Bez ?_);unfold QU;rw[Att,Ad];have j:AP h (h.new (.row (Ai (Du.map S) 0 gP) 29 0 9 true)):=.new;have k:Rd 1 (h.new (.row (Ai (Du.map S) 0 gP) 29 0 9 true)) (.slice h.next 0 29 1 true) (JX Du):=fx (by decide);generalize h.new (.row (Ai (Du.map S) 0 gP) 29 0 9 true)=h1 at j k ⊢;rw[k.len,Fc];refine ja (b.ext j) c d k 30 0 (by decide) (by decide) ?_;rw[List.drop_zero,←oO];exact g h1 j
theorem Ain{a:List UInt8}{j:Nat}(h:(BZ (bt a j)||isDigit (bt a j))=true):IP (a.drop j)=IP (a.drop (j+1))+1:=by
 have b:j<a.length:=by
  rcases vG j a.length with c|c
  · exact c
  · rw[GL c] at h;exact absurd h (by decide)
 unfold IP;rw[drop_cons b,yD,if_pos (by rw[DF b] at h;exact h),List.length_cons]
theorem Afh{a:List UInt8}{j:Nat}(h:(BZ (bt a j)||isDigit (bt a j))=false):IP (a.drop j)=0:=by
 rcases vG j a.length with b|b
 · unfold IP;rw[drop_cons b,yD,if_neg (by rw[DF b] at h;rw[show(Go.Lx.BZ a[j]||Go.Lx.isDigit a[j])=false from h];decide)];rfl
 · rw[s8 b];rfl
theorem jl(b:Wk h pW fl L a vd sp q)(c:L.length≤1000000){d:KV}:∀(n f:Nat),L.length+1-(a+f)<n→a+f≤L.length→d (.tuple [.int .i64 (vJ 1),.int .i64 (vJ (f+IP ((AA L).drop (a+f))))]) h→(Py W1 d n).a1 (.ptr pW 0) (vJ f) h
 |0,_,g,_,_=>absurd g (vH _)
 |n+1,f,g,hi,i=>by
  refine Ajj ?_;unfold Qs;refine pk b (by omega) ?_;refine Ex (rj _) ?_;rw[AL];refine G8 (b:=isDigit (bt (AA L) (a+f))) (λj k=>pk b (by omega) (Ex (pj _) (by rw[AL];exact k))) ?_;refine Bp (λl=>?_) (λl=>?_)
  · have m:a+f<L.length:=by
     rcases vG (a+f) L.length with o|o
     · exact o
     · rw[LO o] at l;exact absurd l (by decide)
    rw[Ain l] at i;refine Bx (by omega) (jl b c n (f+1) (by omega) (by omega) ?_);rw[show f+1+IP ((AA L).drop (a+(f+1)))=f+(IP ((AA L).drop (a+f+1))+1) by rw[show a+(f+1)=a+f+1 from rfl];omega];exact i
  · rw[Afh l,Nat.add_zero] at i;exact i
theorem Bav(r:List UInt8):Ey (34::r)=(6,1,false):=by kernel_rfl
theorem Bad(r:List UInt8):Ey (39::r)=(6,1,false):=by kernel_rfl
theorem Abk{s:List UInt8}(h:Cs s 0=34∨Cs s 0=39):Ey s=(6,1,false):=by
 cases s with
 |nil=>rcases h with h|h<;>exact absurd h (by decide)
 |cons x r=>
  have h:x=34∨x=39:=h;rcases h with rfl|rfl
  · exact Bav r
  · exact Bad r
theorem fg{s:List UInt8}(h:0<(Li s).2):(Go.Lx.B7 s).1=(Li s).1∧(Go.Lx.B7 s).2.1=(Li s).2:=by
 unfold Li at h ⊢;unfold Go.Lx.B7;cases a:EG s with
 |none=>rw[a] at h;exact absurd h (yd 0)
 |some b=>
  rw[a] at h;simp only[] at h ⊢;cases c:Dp (Cs s b) (s.drop (b+1)) with
  |none=>rw[c] at h;exact absurd h (yd 0)
  |some n=>exact⟨rfl,rfl⟩
theorem ko{s:List UInt8}(h:(Li s).2=0):(Go.Lx.B7 s).1=(Ey s).1∧(Go.Lx.B7 s).2.1=(Ey s).2.1:=by
 unfold Li at h;unfold Go.Lx.B7;cases a:EG s with
 |none=>exact⟨rfl,rfl⟩
 |some b=>
  rw[a] at h;simp only[] at h ⊢;cases c:Dp (Cs s b) (s.drop (b+1)) with
  |some n=>rw[c] at h;simp only[] at h;omega
  |none=>
   simp only[];by_cases d:b=0
   · rw[if_pos d];subst d;have:Cs s 0=34∨Cs s 0=39:=by
      unfold EG at a;split at a
      · assumption
      · split at a
        · cases a
        · split at a<;>cases a
     rw[Abk this];exact⟨rfl,rfl⟩
   · rw[if_neg d];exact⟨rfl,rfl⟩
end
section
variable{h:H}{pW:P}{fl:List UInt8}{L:List Rn}{a:Nat}{D:List (List U)}{sp:Bool}{q:Int}
theorem Anj(s:Wd h pW fl L a D sp q)(b:L.length≤1000000)(c:a<L.length)(d:D.length+1≤2*a+2){g:KV}(i:∀j D' k,Ee CC (pW.nat+1) pW h j→Wd j pW fl L a D' sp k→(N8 ((AA L).drop a)=false→D'=D∧k=q)→D'.length≤D.length+1→g (.tuple [.int .i64 (vJ (Go.Lx.B7 ((AA L).drop a)).1),.int .i64 (vJ (Go.Lx.B7 ((AA L).drop a)).2.1)]) j):W1 (.func 126) [.ptr pW 0] h g:=by
 refine Ald (n:=L.length+3) AJ (Azk ?_);unfold QK;refine Bdb s b c d λl D1 m n o p r=>?_;rw[Dw,AG,Dt,AG,show Ba (vJ 0) (vJ (Li ((AA L).drop a)).2)=decide (0<(Li ((AA L).drop a)).2) from Cr _ _];refine Bp (λt=>?_) (λt=>?_)
 · have t:=fg (of_decide_eq_true t);have:=i l D1 m n o p r;rw[t.1,t.2] at this;exact this
 have t:=ko (s:=(AA L).drop a) (by have:=of_decide_eq_false t;omega);obtain⟨u,v,w⟩:=o.w;have x:Cs ((AA L).drop a) 0=bt (AA L) a:=FJ;have fin:=i;rw[t.1,t.2] at fin;unfold Ey at fin;rw[x,jy] at fin;refine pk v (by omega) ?_;refine Ex (rj (bt (AA L) a)) ?_;rw[AL];refine Bp (λy=>?_) (λy=>?_)
 · have:=fin l D1 m n o p r;rw[if_pos y,yC] at this;exact jl v b _ 1 (by omega) (by omega) this
 refine Bge v b c ?_;rw[AG,show Ba (vJ 0) (vJ (Gg ((AA L).drop a)))=decide (0<Gg ((AA L).drop a)) from Cr _ _];refine Bp (λe=>?_) (λe=>?_)
 · have:=fin l D1 m n o p r;rw[if_neg (by rw[y];decide),if_pos (of_decide_eq_true e)] at this;exact this
 refine Bbk v b (by omega) λg j=>?_;have:=fin g D1 m (n.trans j.Gd) (o.ext j) p r;rw[if_neg (by rw[y];decide),if_neg (of_decide_eq_false e)] at this;rw[AG,show Ba (vJ 0) (vJ (HA ((AA L).drop a)))=decide (0<HA ((AA L).drop a)) from Cr _ _];refine Bp (λf=>?_) (λf=>?_)
 · rw[if_pos (of_decide_eq_true f)] at this;exact this
 · rw[if_neg (of_decide_eq_false f)] at this;exact this
end
end Go.Den
