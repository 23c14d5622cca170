/-
 Proof.
-/
import Derived.Test.YtheajahjkmfeaaaGreatDoorLpc
noncomputable section
namespace Go.Den
open Go.RowKit
set_option maxRecDepth 100000
open Go.Lx (Rn bts Bt Er Ke toR Fy Gz Ls Rh Kz Iz Nh idL Qt at0)
def Ye(B:List UInt8)(j:Nat):Nat:=j+Gz (B.drop j)
def isE(x:UInt8):Bool:=decide (x=101)||decide (x=69)||decide (x=112)||decide (x=80)
def Ab8(x:UInt8):Bool:=decide (x=43)||decide (x=45)
def isW(x:UInt8):Bool:=El x||isDigit x||decide (x=46)
theorem A7k{x y:UInt8}{r:List UInt8}:Gz (x::y::r)=if(x=101∨x=69∨x=112∨x=80)∧(y=43∨y=45) then 2+Gz r else if Go.Lx.El x||Go.Lx.isDigit x||x==46 then 1+Gz (y::r) else 0:=by rw[Gz]
theorem A7l{x:UInt8}:Gz [x]=if Go.Lx.El x||Go.Lx.isDigit x||x==46 then 1 else 0:=by rw[Gz]
theorem Aup:Gz []=0:=by rw[Gz]
theorem Avd(x:UInt8):(Go.Lx.El x||Go.Lx.isDigit x||x==46)=isW x:=by
 unfold isW
 have:(x==46)=decide (x=46):=rfl
 rw[this];rfl
theorem Afr{x:UInt8}:isE x=true↔(x=101∨x=69∨x=112∨x=80):=by
 unfold isE;simp only[Bool.or_eq_true,decide_eq_true_eq];exact⟨fun h=>by rcases h with((h|h)|h)|h<;>simp[h],fun h=>by rcases h with h|h|h|h<;>simp[h]⟩
theorem Aio{x:UInt8}:Ab8 x=true↔(x=43∨x=45):=by unfold Ab8;simp
theorem Api{B:List UInt8}{j:Nat}:Ye B j=if(isE (bt B j)&&Ab8 (bt B (j+1)))=true then Ye B (j+2) else if isW (bt B j)=true then Ye B (j+1) else j:=by
 rcases Nat.lt_or_ge j B.length with h|h
 · rw[Jk h]
   rcases Nat.lt_or_ge (j+1) B.length with h1|h1
   · rw[Jk h1]
     unfold Ye
     rw[drop_cons h,drop_cons h1,A7k,Avd,show j+1+1=j+2 from rfl]
     by_cases a:(isE B[j]&&Ab8 B[j+1])=true
     · rw[if_pos a]
       simp only[Bool.and_eq_true] at a
       rw[if_pos ⟨Afr.1 a.1,Aio.1 a.2⟩]
       omega
     · rw[if_neg a,if_neg (fun e=>a (by simp only[Bool.and_eq_true];exact⟨Afr.2 e.1,Aio.2 e.2⟩))]
       split<;>omega
   · rw[Qb h1]
     unfold Ye
     rw[drop_cons h,List.drop_eq_nil_of_le h1,A7l,Avd,Aup]
     rw[show Ab8 0=false by decide,Bool.and_false,if_neg (show¬(false=true) by decide)]
     split<;>rfl
 · rw[Qb h]
   unfold Ye
   rw[List.drop_eq_nil_of_le h,Aup,show isE 0=false by decide,Bool.false_and,if_neg (show¬(false=true) by decide),show isW 0=false by decide,if_neg (show¬(false=true) by decide)];rfl
theorem Apr(x:UInt8):Go.Lx.isDigit x=isDigit x:=rfl
theorem Auy(x:UInt8):Go.Lx.El x=El x:=rfl
theorem Ahz(M:List UInt8)(x:UInt8):Ef (Int.ofNat 0) (Uo M x)=decide (x∈M):=by
 rw[Mn]
 have:=Aab M x
 refine decide_eq_decide.2 ⟨fun h=>?_,fun h=>?_⟩
 · by_cases c:x∈M
   · exact c
   · have:=this.2 c
     exact absurd h (by show¬((0:Nat):Int)≤Uo M x;omega)
 · by_cases c:Uo M x<0
   · exact absurd h (this.1 c)
   · show((0:Nat):Int)≤Uo M x;omega
section
variable{h:H}{pW:P}{fl:List UInt8}{L:List Rn}{a:Nat}{vd:AV}{sp:Bool}{q:Int}
theorem pk(w:Wk h pW fl L a vd sp q){n:Nat}(hn:a+n≤1000000000){K:Int→H→Prop}(hk:K (Int.ofNat (bt (bts L) (a+n)).toNat) h):W1 (.func 167) [.ptr pW 0,.int .i64 (Int.ofNat n)] h fun v h2=>asI .u8 v fun n=>K n h2:=by
 refine Ar6 w hn ?_
 unfold ub
 rw[Bj];exact hk
theorem A04(x:UInt8):decide (x∈[101,69,112,80])=isE x:=by
 unfold isE
 rw[Bool.eq_iff_iff]
 simp only[decide_eq_true_eq,Bool.or_eq_true,List.mem_cons,List.not_mem_nil,or_false]
 constructor
 · rintro(h|h|h|h)<;>simp[h]
 · rintro(((h|h)|h)|h)<;>simp[h]
theorem Axo(w:Wk h pW fl L a vd sp q)(hl:L.length≤1000000){k:KV}:∀(n j:Nat),2*(L.length+2-(a+j))+1<n→a+j≤L.length+1→k (.int .i64 (Int.ofNat (Ye (bts L) (a+j)-a))) h→(Ul W1 k n).a1 (.ptr pW 0) (Int.ofNat j) h
 |0,_,hh,_,_=>absurd hh (Nat.not_lt_zero _)
 |n+1,j,hh,hj,hk=>by
  refine A78 ?_
  unfold Aeo
  rw[Api] at hk
  obtain⟨m,rfl⟩:∃m,n=m+1:=⟨n-1,by omega⟩
  have next:∀i,j≤i→a+i+1≤L.length+1→k (.int .i64 (Int.ofNat (Ye (bts L) (a+(i+1))-a))) h→(Ul W1 k (m+1)).a2 (.ptr pW 0) (Int.ofNat i) h:=fun i hij hi hk'=>by
   refine A77 ?_
   unfold Aen
   exact Bw (by omega) (Axo w hl m (i+1) (by omega) (by omega) hk')
  refine pk w (by omega) (Bw (by omega) (pk w (by omega) ?_))
  refine Lj (Baz [101,69,112,80] (bt (bts L) (a+j))) ?_
  rw[Bj,Ahz,A04]
  refine Mc (b:=Ab8 (bt (bts L) (a+(j+1)))) (fun k' hk'=>Bd6 ?_) ?_
  · rw[show Bx (Int.ofNat (bt (bts L) (a+(j+1))).toNat) (Int.ofNat 43)=decide (bt (bts L) (a+(j+1))=43) from Tp _ 43 (by decide),show Bx (Int.ofNat (bt (bts L) (a+(j+1))).toNat) (Int.ofNat 45)=decide (bt (bts L) (a+(j+1))=45) from Tp _ 45 (by decide)]
    exact hk'
  refine Br (fun c=>?_) (fun c=>?_)
  · rw[if_pos (show(isE (bt (bts L) (a+j))&&Ab8 (bt (bts L) (a+j+1)))=true from c)] at hk
    have hlt:a+j+1<L.length:=by
     rcases Nat.lt_or_ge (a+j+1) L.length with h1|h1
     · exact h1
     · rw[show a+(j+1)=a+j+1 from rfl,Xe h1,show Ab8 0=false by decide,Bool.and_false] at c;cases c
    exact Bw (by omega) (next (j+1) (by omega) (by omega) hk)
  · rw[if_neg (show¬(isE (bt (bts L) (a+j))&&Ab8 (bt (bts L) (a+j+1)))=true by rw[show(isE (bt (bts L) (a+j))&&Ab8 (bt (bts L) (a+j+1)))=false from c];decide)] at hk
    refine Lj (Ba1 _) ?_
    rw[Bn,Gv]
    refine Mc (b:=!isDigit (bt (bts L) (a+j))) (fun k' hk'=>Lj (Ba0 _) (by rw[Bn,Gv];exact hk')) ?_
    refine Adx ?_
    rw[show Bx (Int.ofNat (bt (bts L) (a+j)).toNat) (Int.ofNat 46)=decide (bt (bts L) (a+j)=46) from Tp _ 46 (by decide),Gv]
    have ew:((!El (bt (bts L) (a+j))&&!isDigit (bt (bts L) (a+j)))&&!decide (bt (bts L) (a+j)=46))=!isW (bt (bts L) (a+j)):=by
     unfold isW
     rw[Bool.not_or,Bool.not_or]
    rw[ew]
    refine Br (fun d=>?_) (fun d=>?_)
    · rw[if_neg (by rw[show isW (bt (bts L) (a+j))=false by simpa using d];decide),Nat.add_sub_cancel_left] at hk
      exact hk
    · have d:isW (bt (bts L) (a+j))=true:=by simpa using d
      rw[if_pos d] at hk
      have hlt:a+j<L.length:=by
       rcases Nat.lt_or_ge (a+j) L.length with h1|h1
       · exact h1
       · rw[Xe h1] at d;exact absurd d (by decide)
      exact next j (Nat.le_refl _) (by omega) hk
theorem Bo0(w:Wk h pW fl L a vd sp q)(hl:L.length≤1000000)(ha:a<L.length){k:KV}(hk:k (.int .i64 (Int.ofNat (Ls ((bts L).drop a)))) h):W1 (.func 169) [.ptr pW 0] h k:=by
 refine Bb9 (n:=2*L.length+10) Bg (Bnk ?_)
 unfold Aep
 unfold Ls at hk
 rw[show at0 ((bts L).drop a) 0=bt (bts L) a from Jg,show at0 ((bts L).drop a) 1=bt (bts L) (a+1) from Jg,Apr,Apr,List.drop_drop,show(bt (bts L) a==46)=decide (bt (bts L) a=46) from rfl] at hk
 have go:∀i,i≤1→(isDigit (bt (bts L) (a+i))=false→k (.int .i64 (Int.ofNat 0)) h)→(isDigit (bt (bts L) (a+i))=true→a+i<L.length→k (.int .i64 (Int.ofNat (Ye (bts L) (a+(i+1))-a))) h)→(Ul W1 k (2*L.length+9)).a3 (.ptr pW 0) (Int.ofNat i) h:=fun i hi k0 k1=>by
  refine A76 ?_
  unfold Aem
  refine pk w (by omega) ?_
  refine Lj (Ba0 _) ?_
  rw[Bn,Gv]
  refine Br (fun c=>k0 (by simpa using c)) (fun c=>?_)
  have c:isDigit (bt (bts L) (a+i))=true:=by simpa using c
  have hlt:a+i<L.length:=by
   rcases Nat.lt_or_ge (a+i) L.length with h1|h1
   · exact h1
   · rw[Xe h1] at c;exact absurd c (by decide)
  exact Bw (by omega) (Axo w hl _ (i+1) (by omega) (by omega) (k1 c hlt))
 refine pk w (by omega) ?_
 show cnd (Bx (Int.ofNat (bt (bts L) a).toNat) (Int.ofNat 46)) _ _
 rw[show Bx (Int.ofNat (bt (bts L) a).toNat) (Int.ofNat 46)=decide (bt (bts L) a=46) from Tp _ 46 (by decide)]
 refine Br (fun c=>?_) (fun c=>?_)
 · have c:=of_decide_eq_true c
   have nd:isDigit (bt (bts L) a)=false:=by rw[c];decide
   rw[nd,decide_eq_true c,Bool.false_or,Bool.true_and] at hk
   refine Bw (by omega) (go 1 (Nat.le_refl _) (fun d=>?_) (fun d hlt=>?_))
   · rw[if_neg (by rw[d];decide)] at hk;exact hk
   · rw[if_pos d] at hk
     have e1:Gz ((bts L).drop (a+1))=1+Gz ((bts L).drop (a+2)):=by
      have h1:a+1<(bts L).length:=by rw[Cl];exact hlt
      have key:=Api (B:=bts L) (j:=a+1)
      have nE:isE (bt (bts L) (a+1))=false:=by
       cases e:isE (bt (bts L) (a+1)) with
       |false=>rfl
       |true=>rcases Afr.1 e with e|e|e|e<;>(rw[e] at d;exact absurd d (by decide))
      rw[nE,Bool.false_and,if_neg (by decide),if_pos (by unfold isW;rw[d,Bool.or_true];rfl)] at key
      unfold Ye at key
      have key:a+1+Gz ((bts L).drop (a+1))=a+2+Gz ((bts L).drop (a+2)):=key
      omega
     unfold Ye
     rw[e1] at hk
     have:a+(1+1)+Gz ((bts L).drop (a+(1+1)))-a=1+(1+Gz ((bts L).drop (a+2))):=by
      show a+2+Gz ((bts L).drop (a+2))-a=_
      omega
     rw[this];exact hk
 · have c:=of_decide_eq_false c
   rw[decide_eq_false c,Bool.false_and,Bool.or_false] at hk
   refine go 0 (Nat.zero_le _) (fun d=>?_) (fun d hlt=>?_)
   · have d:isDigit (bt (bts L) a)=false:=d
     rw[if_neg (by rw[d];decide)] at hk;exact hk
   · have d:isDigit (bt (bts L) a)=true:=d
     rw[if_pos d] at hk
     unfold Ye
     have:a+(0+1)+Gz ((bts L).drop (a+(0+1)))-a=1+Gz ((bts L).drop (a+1)):=by
      show a+1+Gz ((bts L).drop (a+1))-a=_
      omega
     rw[this];exact hk
def Fk:List (List UInt8):=Go.Lx.Aaa.take 29
def Ui:List UInt8:=[91,93,40,41,123,125,46,38,42,43,45,126,33,47,37,60,62,94,124,63,58,59,61,44,35]
theorem Arm:Go.Lx.Aaa=Fk++Ui.map fun c=>[c]:=by decide
def A2k:Tm:=Aj (List.replicate 29 (.str 0 0)) 0 .e
theorem Beg(h:H):Ap env 32 (fun e ei=>Ak 29 [(0,(.str 4 975518245)),(1,(.str 3 3026478)),(2,(.str 3 4013116)),(3,(.str 3 4013630)),(4,(.str 2 15917)),(5,(.str 2 11051)),(6,(.str 2 11565)),(7,(.str 2 15420)),(8,(.str 2 15934)),(9,(.str 2 15676)),(10,(.str 2 15678)),(11,(.str 2 15677)),(12,(.str 2 15649)),(13,(.str 2 9766)),(14,(.str 2 31868)),(15,(.str 2 15658)),(16,(.str 2 15663)),(17,(.str 2 15653)),(18,(.str 2 15659)),(19,(.str 2 15661)),(20,(.str 2 15654)),(21,(.str 2 15710)),(22,(.str 2 15740)),(23,(.str 2 8995)),(24,(.str 2 14908)),(25,(.str 2 15930)),(26,(.str 2 9532)),(27,(.str 2 15909)),(28,(.str 2 14885))] h e ei)=some (.slice h.next 0 29 1 true,h.new (.row (Aj (Fk.map S) 0 A2k) 29 0 9 true)):=by kernel_rfl
theorem Ad7(M B:List UInt8)(a:Nat)(h0:0∉M):(match(M.map fun c=>[c]).find? (fun p=>p.isPrefixOf (B.drop a)) with
 |some p=>p.length
 |none=>0)=if bt B a∈M then 1 else 0:=by
 induction M with
 |nil=>rfl
 |cons x M ih=>
  have hx:x≠0:=fun e=>h0 (by simp[e])
  have p1:List.isPrefixOf [x] (B.drop a)=decide (bt B a=x):=by
   rcases Nat.lt_or_ge a B.length with h|h
   · rw[drop_cons h,Ii,Jk h,show List.isPrefixOf [] (B.drop (a+1))=true by cases B.drop (a+1)<;>rfl,Bool.and_true]
     exact decide_eq_decide.2 eq_comm
   · rw[List.drop_eq_nil_of_le h,Qb h,decide_eq_false (fun e=>hx e.symm)];rfl
  rw[List.map_cons,List.find?_cons,p1]
  by_cases c:bt B a=x
  · rw[decide_eq_true c,if_pos (by simp[c])];rfl
  · rw[decide_eq_false c]
    simp only[]
    rw[ih fun e=>h0 (List.mem_cons_of_mem _ e)]
    by_cases d:bt B a∈M
    · rw[if_pos d,if_pos (List.mem_cons_of_mem _ d)]
    · rw[if_neg d,if_neg fun e=>(List.mem_cons.1 e).elim c d]
theorem A0e(B:List UInt8)(a:Nat):Qt (B.drop a)=match Fk.find? (fun p=>p.isPrefixOf (B.drop a)) with
 |some p=>p.length
 |none=>if bt B a∈Ui then 1 else 0:=by
 unfold Qt
 rw[Arm,List.find?_append]
 cases e:Fk.find? (fun p=>p.isPrefixOf (B.drop a)) with
 |some p=>rfl
 |none=>exact Ad7 Ui B a (by decide)
theorem Axn (w : Wk h pW fl L a vd sp q) (hl : L.length ≤ 1000000) (ha : a ≤ L.length) {v : AV} (hv : Rd 1 h v (scs Fk)) {k : KV} : ∀ (n i : Nat), 29 - i < n → i ≤ 29 → k (.int .i64 (Int.ofNat (match (Fk.drop i).find? (fun p => p.isPrefixOf ((bts L).drop a)) with
    | some p => p.length
    | none => if bt (bts L) a ∈ Ui then 1 else 0))) h → (Ahu W1 k n).a1 (.ptr pW 0) v (Int.ofNat 29) (Int.ofNat i) h
  | 0, _, hh, _, _ => absurd hh (Nat.not_lt_zero _)
  | n + 1, i, hh, hi, hk => by
    refine A75 ?_
    unfold Aek
    rw [show Ca (Int.ofNat i) (Int.ofNat 29) = decide (i < 29) from ilt _ _]
    have l29 : Fk.length = 29 := by decide
    refine Br (fun e => ?_) (fun e => ?_)
    · have e5 : i < 29 := of_decide_eq_true e
      have e : i < Fk.length := by rw [l29]; exact e5
      have e' : i < (scs Fk).length := by rw [Fc]; exact e
      have hs : (Fk[i]'e).length ≤ 4 := by
        have : ∀ s ∈ Fk, s.length ≤ 4 := by decide
        exact this _ (List.getElem_mem e)
      refine Dg (hv.elem e' fun q o _ _ hq => ?_)
      rw [Of e] at hq
      refine hq.ld1 (j := 0) (by show 0 < 1; decide) ?_
      show asS (S (Fk[i]'e)) _
      rw [Eg]
      refine Axq w (by omega) (by omega) (by omega) ?_
      rw [Bn]
      rw [List.drop_eq_getElem_cons e, List.find?_cons] at hk
      refine Br (fun p => ?_) (fun p => ?_)
      · rw [p] at hk; exact hk
      · rw [p] at hk
        exact Bw (by omega) (Axn w hl ha hv n (i + 1) (by omega) (by omega) hk)
    · have e : i = 29 := by have := of_decide_eq_false e; omega
      subst e
      rw [show Fk.drop 29 = [] by decide] at hk
      have hk : k (.int .i64 (Int.ofNat (if bt (bts L) a ∈ Ui then 1 else 0))) h := hk
      refine pk w (by omega) ?_
      show Ay (fun k16 => gate true (Ci (Bx (Int.ofNat (bt (bts L) a).toNat) (Int.ofNat 0))) _ _) _
      rw [show Bx (Int.ofNat (bt (bts L) a).toNat) (Int.ofNat 0) = decide (bt (bts L) a = 0) from Tp _ 0 (by decide), Gv]
      refine Mc (b := decide (bt (bts L) a ∈ Ui)) (fun k' hk' => ?_) ?_
      · refine Lj (Baz Ui (bt (bts L) a)) ?_
        rw [Bj, Ahz]; exact hk'
      have e0 : (!decide (bt (bts L) a = 0) && decide (bt (bts L) a ∈ Ui)) = decide (bt (bts L) a ∈ Ui) := by
        by_cases c : bt (bts L) a = 0
        · rw [c]; decide
        · rw [decide_eq_false c]; rfl
      rw [e0]
      refine Br (fun c => ?_) (fun c => ?_)
      · rw [if_pos (of_decide_eq_true c)] at hk; exact hk
      · rw [if_neg (of_decide_eq_false c)] at hk; exact hk
theorem Boz(w:Wk h pW fl L a vd sp q)(hl:L.length≤1000000)(ha:a≤L.length){k:KV}(hk:∀h',Exh h h'→k (.int .i64 (Int.ofNat (Qt ((bts L).drop a)))) h'):W1 (.func 170) [.ptr pW 0] h k:=by
 refine Bb8 (n:=31) Bg (Bnj ?_)
 unfold Ael
 rw[Beg,Ad]
 have x1:Exh h (h.new (.row (Aj (Fk.map S) 0 A2k) 29 0 9 true)):=.new
 have r1:Rd 1 (h.new (.row (Aj (Fk.map S) 0 A2k) 29 0 9 true)) (.slice h.next 0 29 1 true) (scs Fk):=Atr (by decide)
 generalize h.new (.row (Aj (Fk.map S) 0 A2k) 29 0 9 true)=h1 at x1 r1 ⊢
 rw[r1.len,Fc]
 refine Axn (w.ext x1) hl ha r1 30 0 (by decide) (by decide) ?_
 rw[List.drop_zero,←A0e]
 exact hk h1 x1
theorem A8o{B:List UInt8}{j:Nat}(h:(El (bt B j)||isDigit (bt B j))=true):idL (B.drop j)=idL (B.drop (j+1))+1:=by
 have hj:j<B.length:=by
  rcases Nat.lt_or_ge j B.length with h1|h1
  · exact h1
  · rw[Qb h1] at h;exact absurd h (by decide)
 unfold idL
 rw[drop_cons hj,List.takeWhile_cons,if_pos (by rw[Jk hj] at h;exact h),List.length_cons]
theorem A8m{B:List UInt8}{j:Nat}(h:(El (bt B j)||isDigit (bt B j))=false):idL (B.drop j)=0:=by
 rcases Nat.lt_or_ge j B.length with hj|hj
 · unfold idL
   rw[drop_cons hj,List.takeWhile_cons,if_neg (by rw[Jk hj] at h;rw[show(Go.Lx.El B[j]||Go.Lx.isDigit B[j])=false from h];decide)];rfl
 · rw[List.drop_eq_nil_of_le hj];rfl
theorem Axr(w:Wk h pW fl L a vd sp q)(hl:L.length≤1000000){k:KV}:∀(n i:Nat),L.length+1-(a+i)<n→a+i≤L.length→k (.tuple [.int .i64 (Int.ofNat 1),.int .i64 (Int.ofNat (i+idL ((bts L).drop (a+i))))]) h→(Ahw W1 k n).a1 (.ptr pW 0) (Int.ofNat i) h
 |0,_,hh,_,_=>absurd hh (Nat.not_lt_zero _)
 |n+1,i,hh,hi,hk=>by
  refine A8c ?_
  unfold Ae3
  refine pk w (by omega) ?_
  refine Lj (Ba1 _) ?_
  rw[Bn]
  refine Aae (b:=isDigit (bt (bts L) (a+i))) (fun k' hk'=>pk w (by omega) (Lj (Ba0 _) (by rw[Bn];exact hk'))) ?_
  refine Br (fun c=>?_) (fun c=>?_)
  · have hlt:a+i<L.length:=by
     rcases Nat.lt_or_ge (a+i) L.length with h1|h1
     · exact h1
     · rw[Xe h1] at c;exact absurd c (by decide)
    rw[A8o c] at hk
    refine Bw (by omega) (Axr w hl n (i+1) (by omega) (by omega) ?_)
    rw[show i+1+idL ((bts L).drop (a+(i+1)))=i+(idL ((bts L).drop (a+i+1))+1) by rw[show a+(i+1)=a+i+1 from rfl];omega]
    exact hk
  · rw[A8m c,Nat.add_zero] at hk
    exact hk
theorem Bmn(r:List UInt8):Iz (34::r)=(6,1,false):=by kernel_rfl
theorem Bmm(r:List UInt8):Iz (39::r)=(6,1,false):=by kernel_rfl
theorem Az7{s:List UInt8}(h:at0 s 0=34∨at0 s 0=39):Iz s=(6,1,false):=by
 cases s with
 |nil=>rcases h with h|h<;>exact absurd h (by decide)
 |cons x r=>
  have h:x=34∨x=39:=h
  rcases h with rfl|rfl
  · exact Bmn r
  · exact Bmm r
theorem Aro{s:List UInt8}(h:0<(Abd s).2):(Go.Lx.Ds s).1=(Abd s).1∧(Go.Lx.Ds s).2.1=(Abd s).2:=by
 unfold Abd at h ⊢
 unfold Go.Lx.Ds
 cases hL:Nh s with
 |none=>rw[hL] at h;exact absurd h (Nat.lt_irrefl 0)
 |some k=>
  rw[hL] at h
  simp only[] at h ⊢
  cases hq:Fy (at0 s k) (s.drop (k+1)) with
  |none=>rw[hq] at h;exact absurd h (Nat.lt_irrefl 0)
  |some n=>exact⟨rfl,rfl⟩
theorem Aus{s:List UInt8}(h:(Abd s).2=0):(Go.Lx.Ds s).1=(Iz s).1∧(Go.Lx.Ds s).2.1=(Iz s).2.1:=by
 unfold Abd at h
 unfold Go.Lx.Ds
 cases hL:Nh s with
 |none=>exact⟨rfl,rfl⟩
 |some k=>
  rw[hL] at h
  simp only[] at h ⊢
  cases hq:Fy (at0 s k) (s.drop (k+1)) with
  |some n=>rw[hq] at h;simp only[] at h;omega
  |none=>
   simp only[]
   by_cases k0:k=0
   · rw[if_pos k0]
     subst k0
     have:at0 s 0=34∨at0 s 0=39:=by
      unfold Nh at hL
      split at hL
      · assumption
      · split at hL
        · cases hL
        · split at hL<;>cases hL
     rw[Az7 this];exact⟨rfl,rfl⟩
   · rw[if_neg k0];exact⟨rfl,rfl⟩
end
section
variable{h:H}{pW:P}{fl:List UInt8}{L:List Rn}{a:Nat}{D:List (List AV)}{sp:Bool}{q:Int}
theorem Bjo(s:Wd h pW fl L a D sp q)(hl:L.length≤1000000)(ha:a<L.length)(hD:D.length+1≤2*a+2){k:KV}(hk:∀h' D' q',FrE TDg (pW.nat+1) pW h h'→Wd h' pW fl L a D' sp q'→(Asd ((bts L).drop a)=false→D'=D∧q'=q)→D'.length≤D.length+1→k (.tuple [.int .i64 (Int.ofNat (Go.Lx.Ds ((bts L).drop a)).1),.int .i64 (Int.ofNat (Go.Lx.Ds ((bts L).drop a)).2.1)]) h'):W1 (.func 120) [.ptr pW 0] h k:=by
 refine Bcl (n:=L.length+3) Bg (Bnw ?_)
 unfold Ae4
 refine Bo1 s hl ha hD fun h1 D1 q1 x1 s1 o1 o2=>?_
 rw[Hu,Bj,Ht,Bj,show Ca (Int.ofNat 0) (Int.ofNat (Abd ((bts L).drop a)).2)=decide (0<(Abd ((bts L).drop a)).2) from ilt _ _]
 refine Br (fun c=>?_) (fun c=>?_)
 · have c:=Aro (of_decide_eq_true c)
   have:=hk h1 D1 q1 x1 s1 o1 o2
   rw[c.1,c.2] at this
   exact this
 have c:=Aus (s:=(bts L).drop a) (by have:=of_decide_eq_false c;omega)
 obtain⟨vd,w,hb⟩:=s1.w
 have e0:at0 ((bts L).drop a) 0=bt (bts L) a:=Jg
 have fin:=hk
 rw[c.1,c.2] at fin
 unfold Iz at fin
 rw[e0,Auy] at fin
 refine pk w (by omega) ?_
 refine Lj (Ba1 (bt (bts L) a)) ?_
 rw[Bn]
 refine Br (fun d=>?_) (fun d=>?_)
 · have:=fin h1 D1 q1 x1 s1 o1 o2
   rw[if_pos d,List.drop_drop] at this
   exact Axr w hl _ 1 (by omega) (by omega) this
 refine Bo0 w hl ha ?_
 rw[Bj,show Ca (Int.ofNat 0) (Int.ofNat (Ls ((bts L).drop a)))=decide (0<Ls ((bts L).drop a)) from ilt _ _]
 refine Br (fun e=>?_) (fun e=>?_)
 · have:=fin h1 D1 q1 x1 s1 o1 o2
   rw[if_neg (by rw[d];decide),if_pos (of_decide_eq_true e)] at this
   exact this
 refine Boz w hl (by omega) fun h2 x2=>?_
 have:=fin h2 D1 q1 (x1.trans x2.fre) (s1.ext x2) o1 o2
 rw[if_neg (by rw[d];decide),if_neg (of_decide_eq_false e)] at this
 rw[Bj,show Ca (Int.ofNat 0) (Int.ofNat (Qt ((bts L).drop a)))=decide (0<Qt ((bts L).drop a)) from ilt _ _]
 refine Br (fun f=>?_) (fun f=>?_)
 · rw[if_pos (of_decide_eq_true f)] at this
   exact this
 · rw[if_neg (of_decide_eq_false f)] at this
   exact this
end
end Go.Den
