/-
 Proof.
-/
import Derived.Test.YtheajahjkmfeaaaGreatDoorMak
namespace Go.Lx
abbrev B8:=List UInt8
def El(x:UInt8):Bool:=(decide (97≤x.toNat)&&decide (x.toNat≤122))||(decide (65≤x.toNat)&&decide (x.toNat≤90))||decide (x.toNat=95)
def isDigit(x:UInt8):Bool:=decide (48≤x.toNat)&&decide (x.toNat≤57)
def at0(s:B8)(i:Nat):UInt8:=s.getD i 0
def Nh(s:B8):Option Nat:=
 if at0 s 0=34∨at0 s 0=39 then some 0
 else if at0 s 0=117∧at0 s 1=56∧at0 s 2=34 then some 2
 else if(at0 s 0=76∨at0 s 0=117∨at0 s 0=85)∧(at0 s 1=34∨at0 s 1=39) then some 1
 else none
def Fy(q:UInt8):B8→Option Nat
 |[]=>none
 |[x]=>if x=10 then none else if x=q then some 1 else none
 |x::y::r=>if x=10 then none
  else if x=92∧y≠10 then(Fy q r).map (·+2)
  else if x=q then some 1
  else(Fy q (y::r)).map (·+1)
def Gz:B8→Nat
 |[]=>0
 |[x]=>if El x||isDigit x||x==46 then 1 else 0
 |x::y::r=>if(x=101∨x=69∨x=112∨x=80)∧(y=43∨y=45) then 2+Gz r
  else if El x||isDigit x||x==46 then 1+Gz (y::r) else 0
def Ls(s:B8):Nat:=if isDigit (at0 s 0)||(at0 s 0==46&&isDigit (at0 s 1)) then 1+Gz (s.drop 1) else 0
def idL(s:B8):Nat:=(s.takeWhile fun x=>El x||isDigit x).length
def Aaa:List B8:=[[37,58,37,58],[46,46,46],[60,60,61],[62,62,61],[45,62],[43,43],[45,45],[60,60],[62,62],[60,61],[62,61],[61,61],[33,61],[38,38],[124,124],[42,61],[47,61],[37,61],[43,61],[45,61],[38,61],[94,61],[124,61],[35,35],[60,58],[58,62],[60,37],[37,62],[37,58],
 [91],[93],[40],[41],[123],[125],[46],[38],[42],[43],[45],[126],[33],[47],[37],[60],[62],[94],[124],[63],[58],[59],[61],[44],[35]]
def Qt(s:B8):Nat:=match Aaa.find? (fun p=>p.isPrefixOf s) with
 |some p=>p.length
 |none=>0
def Iz(s:B8):Nat×Nat×Bool:=
 if El (at0 s 0) then(1,1+idL (s.drop 1),false)
 else if 0<Ls s then(2,Ls s,false)
 else if 0<Qt s then(5,Qt s,false)
 else(6,1,false)
def Ds(s:B8):Nat×Nat×Bool:=match Nh s with
 |some k=>match Fy (at0 s k) (s.drop (k+1)) with
  |some n=>(if at0 s k=34 then 4 else 3,k+1+n,false)
  |none=>if k=0 then(6,1,true) else Iz s
 |none=>Iz s
def Kz:B8→Option Nat
 |[]=>none
 |[_]=>none
 |x::y::r=>if x=42∧y=47 then some 2 else(Kz (y::r)).map (·+1)
def Rh(s:B8):Option (Nat×Bool):=
 if at0 s 0≠47 then none
 else if at0 s 1=47 then some ((s.takeWhile (·≠10)).length,false)
 else if at0 s 1≠42 then none
 else match Kz (s.drop 2) with
  |some n=>some (n+2,false)
  |none=>some (s.length,true)
theorem Afb{q:UInt8}:∀{s:B8}{n:Nat},Fy q s=some n→0<n∧n≤s.length
 |[],n,h=>by simp[Fy] at h
 |[x],n,h=>by
  unfold Fy at h
  split at h
  · cases h
  · split at h
    · cases h;simp
    · cases h
 |x::y::r,n,h=>by
  unfold Fy at h
  split at h
  · cases h
  · split at h
    · cases e:Fy q r with
      |none=>rw[e] at h;cases h
      |some m=>
       rw[e] at h;cases h
       have:=Afb e
       simp only[List.length_cons];omega
    · split at h
      · cases h;simp
      · cases e:Fy q (y::r) with
        |none=>rw[e] at h;cases h
        |some m=>
         rw[e] at h;cases h
         have:=Afb e
         simp only[List.length_cons] at this ⊢;omega
theorem Afk:∀s:B8,Gz s≤s.length
 |[]=>Nat.le_refl _
 |[x]=>by unfold Gz;split<;>simp
 |x::y::r=>by
  have h1:=Afk r
  have h2:=Afk (y::r)
  unfold Gz
  simp only[List.length_cons] at h2 ⊢
  split
  · omega
  · split<;>omega
theorem A8n(s:B8):idL s≤s.length:=by
 unfold idL
 induction s with
 |nil=>exact Nat.le_refl _
 |cons x s ih=>
  rw[List.takeWhile_cons]
  split
  · simp only[List.length_cons];omega
  · simp
theorem A0d(s:B8):Qt s≤s.length:=by
 unfold Qt
 split
 · rename_i p h
   have:=List.find?_some h
   obtain⟨t,e⟩:=List.isPrefixOf_iff_prefix.1 this
   rw[←e,List.length_append];omega
 · exact Nat.zero_le _
theorem Aqu:∀{s:B8}{n:Nat},Kz s=some n→0<n∧n≤s.length
 |[],_,h=>by simp[Kz] at h
 |[_],_,h=>by simp[Kz] at h
 |x::y::r,n,h=>by
  unfold Kz at h
  split at h
  · cases h;simp
  · cases e:Kz (y::r) with
    |none=>rw[e] at h;cases h
    |some m=>
     rw[e] at h;cases h
     have:=Aqu e
     simp only[List.length_cons] at this ⊢;omega
theorem Ah7{s:B8}(h:s≠[]):0<(Iz s).2.1∧(Iz s).2.1≤s.length:=by
 have hl:0<s.length:=List.length_pos_iff.2 h
 have hd:(s.drop 1).length=s.length-1:=by simp
 unfold Iz
 split
 · have:=A8n (s.drop 1)
   simp only[];omega
 · split
   · rename_i h1
     refine⟨h1,?_⟩
     simp only[] at h1 ⊢
     unfold Ls at h1 ⊢
     split
     · have:=Afk (s.drop 1);omega
     · exact Nat.zero_le _
   · split
     · rename_i h1;exact⟨h1,A0d s⟩
     · simp only[];omega
theorem Lt{s:B8}(h:s≠[]):0<(Ds s).2.1∧(Ds s).2.1≤s.length:=by
 have hl:0<s.length:=List.length_pos_iff.2 h
 unfold Ds
 split
 · rename_i k hk
   split
   · rename_i n hn
     have:=Afb hn
     have hd:(s.drop (k+1)).length=s.length-(k+1):=by simp
     simp only[];omega
   · split
     · simp only[];omega
     · exact Ah7 h
 · exact Ah7 h
end Go.Lx
namespace Go.Lx
abbrev Rn:=UInt8×Nat×Nat
def bts(l:List Rn):B8:=l.map (·.1)
def Ll:B8:=[61,47,39,40,41,33,60,62,45]
def Yd:B8:=[35,92,94,91,93,124,123,125,126]
def tri(c:UInt8):Option UInt8:=(Ll.zip Yd).find? (fun p=>p.1==c) |>.map (·.2)
def Bt:Nat→B8→List Rn
 |_,[]=>[]
 |i,[a]=>[(a,i,i+1)]
 |i,[a,b]=>[(a,i,i+1),(b,i+1,i+2)]
 |i,a::b::c::r=>if a=63∧b=63 then(match tri c with
  |some d=>(d,i,i+3)::Bt (i+3) r
  |none=>(a,i,i+1)::Bt (i+1) (b::c::r))
  else(a,i,i+1)::Bt (i+1) (b::c::r)
def Er:List Rn→List Rn
 |[]=>[]
 |[x]=>[x]
 |x::y::r=>if x.1=92∧y.1=10 then Er r else x::Er (y::r)
def Au(s:B8):List Rn:=
 if s≠[]∧((Er (Bt 0 s)).getLast?.map (·.1))≠some 10 then Er (Bt 0 s)++[(10,s.length,s.length)] else Er (Bt 0 s)
def Ke(l:List Rn)(i:Nat):Nat:=(l.getD i (0,0,0)).2.1
def toR(l:List Rn)(i:Nat):Nat:=(l.getD i (0,0,0)).2.2
end Go.Lx
noncomputable section
namespace Go.Den
open Go.RowKit
set_option maxRecDepth 100000
open Go.Lx (Rn Er Bt tri Ll Yd)
theorem Wr{s:List UInt8}{i:Nat}(h:i<s.length)(hn:∀h2:i+2<s.length,s[i]=63→s[i+1]=63→tri s[i+2]=none):Bt i (s.drop i)=(s[i],i,i+1)::Bt (i+1) (s.drop (i+1)):=by
 rw[List.drop_eq_getElem_cons h]
 rcases Nat.lt_or_ge (i+1) s.length with h1|h1
 · rw[List.drop_eq_getElem_cons h1]
   rcases Nat.lt_or_ge (i+2) s.length with h2|h2
   · rw[List.drop_eq_getElem_cons h2,Bt]
     by_cases e:s[i]=63∧s[i+1]=63
     · rw[if_pos e,hn h2 e.1 e.2]
     · rw[if_neg e]
   · rw[List.drop_eq_nil_of_le (by omega),Bt,Bt]
 · rw[List.drop_eq_nil_of_le h1,Bt,Bt]
theorem Ti{s:List UInt8}{i:Nat}(h2:i+2<s.length)(e1:s[i]=63)(e2:s[i+1]=63){d:UInt8}(e3:tri s[i+2]=some d):Bt i (s.drop i)=(d,i,i+3)::Bt (i+3) (s.drop (i+3)):=by
 rw[List.drop_eq_getElem_cons (show i<s.length by omega),List.drop_eq_getElem_cons (show i+1<s.length by omega),List.drop_eq_getElem_cons h2,Bt,if_pos ⟨e1,e2⟩,e3]
theorem A53{x d:UInt8}(h:tri x=some d):d≠10:=by
 unfold tri at h
 cases e:(Ll.zip Yd).find? (fun p=>p.1==x) with
 |none=>rw[e] at h;cases h
 |some p=>
  rw[e] at h
  cases h
  have hm:=List.mem_of_find?_eq_some e
  have:∀p∈Ll.zip Yd,p.2≠10:=by decide
  exact this p hm
theorem Ac4{s:List UInt8}{i:Nat}(h:i<s.length):∃x l,Bt i (s.drop i)=x::l∧(x.1=10↔s[i]=10)∧(s[i]=10→l=Bt (i+1) (s.drop (i+1))):=by
 by_cases ht:∃h2:i+2<s.length,s[i]=63∧s[i+1]=63∧tri s[i+2]≠none
 · obtain⟨h2,e1,e2,e3⟩:=ht
   cases e:tri s[i+2] with
   |none=>exact absurd e e3
   |some d=>
    refine⟨_,_,Ti h2 e1 e2 e,⟨fun q=>absurd q (A53 e),fun q=>?_⟩,fun q=>?_⟩
    · rw[e1] at q;exact absurd q (by decide)
    · rw[e1] at q;exact absurd q (by decide)
 · refine⟨_,_,Wr h fun h2 e1 e2=>?_,Iff.rfl,fun _=>rfl⟩
   exact Classical.byContradiction fun e=>ht ⟨h2,e1,e2,e⟩
theorem Zo{x y:Rn}{r:List Rn}:Er (x::y::r)=if x.1=92∧y.1=10 then Er r else x::Er (y::r):=by rw[Er]
theorem Azm{s:List UInt8}{r:Rn}(h1:r.1=92)(h:r.2.2<s.length)(h2:s[r.2.2]=10):Er (r::Bt r.2.2 (s.drop r.2.2))=Er (Bt (r.2.2+1) (s.drop (r.2.2+1))):=by
 obtain⟨x,l,e,hx,hl⟩:=Ac4 h
 rw[e,Zo,if_pos ⟨h1,hx.2 h2⟩,hl h2]
theorem Azk{s:List UInt8}{r:Rn}(h:¬(r.1=92∧∃h:r.2.2<s.length,s[r.2.2]=10)):Er (r::Bt r.2.2 (s.drop r.2.2))=r::Er (Bt r.2.2 (s.drop r.2.2)):=by
 rcases Nat.lt_or_ge r.2.2 s.length with h1|h1
 · obtain⟨x,l,e,hx,_⟩:=Ac4 h1
   rw[e,Zo,if_neg fun q=>h ⟨q.1,h1,hx.1 q.2⟩]
 · rw[List.drop_eq_nil_of_le h1,Bt,Er,Er]
def Dw(s:List UInt8):List Rn:=Er (Bt 0 s)
def Abh(r:Rn):List AV:=[ub r.1,.int .i64 (.ofNat r.2.1),.int .i64 (.ofNat r.2.2)]
def cel(l:List Rn):List (List AV):=l.map Abh
theorem Dh(l:List Rn):(cel l).length=l.length:=by unfold cel;rw[List.length_map]
theorem Hs{l:List Rn}{i:Nat}(h:i<l.length)(h':i<(cel l).length):(cel l)[i]=Abh l[i]:=List.getElem_map ..
theorem Ajf(l:List Rn)(r:Rn):cel (l++[r])=cel l++[[ub r.1,.int .i64 (.ofNat r.2.1),.int .i64 (.ofNat r.2.2)]]:=by unfold cel;rw[List.map_append];rfl
def A55(o:Option UInt8):AV:=match o with|some d=>.tuple [ub d,.bool true]|none=>.tuple [.int .u8 (.ofNat 0),.bool false]
theorem Asw{x:UInt8}(h:x∉Ll):tri x=none:=by
 unfold tri
 rw[List.find?_eq_none.2]
 · rfl
 · intro p hp e
   have hm:=(List.of_mem_zip hp).1
   rw[beq_iff_eq.1 e] at hm
   exact h hm
theorem Asv{x:UInt8}(h:x∈Ll):∃i,∃hi:i<Ll.length,Ll[i]=x:=by
 obtain⟨i,hi,e⟩:=List.getElem_of_mem h
 exact⟨i,hi,e⟩
theorem Bo4(x:UInt8):Pure PP G h0 142 [ub x] (A55 (tri x)):=by
 by_cases hx:x∈Ll
 · obtain⟨i,hi,rfl⟩:=Asv hx
   match i,hi with
   |0,_|1,_|2,_|3,_|4,_|5,_|6,_|7,_|8,_=>exact pure_run (by kernel_rfl)
 · rw[Asw hx]
   refine Bch (n:=1) Bg (Bns ?_)
   unfold Aez
   refine Lj (Baz Ll x) ?_
   rw[Bj]
   refine Dp ?_ rfl
   rw[Jv]
   exact decide_eq_true ((Aab Ll x).2 hx)
def Bpd:Tm:=Aj [.int .u8 (.ofNat 0),.int .i64 (.ofNat 0),.int .i64 (.ofNat 0)] 0 .e
theorem Ba8(a b c:AV)(h:H):Ap env 160 (fun e ei=>Ak 1 [(0,.agg [a,b,c])] h e ei)=some (.slice h.next 0 1 3 true,h.new (.row (Aj [a,b,c] 0 Bpd) 3 0 165 true)):=by kernel_rfl
theorem Bbi(x y:AV)(h:H):Ar env .append [160,160] [x,y] h=Co (some false) x y h 165 (Hz 165):=by kernel_rfl
theorem Ak7(a b c:Int)(h:H):Ax env (env.ty 165) [(0,.int .u8 a),(1,.int .i64 b),(2,.int .i64 c)] h=some (.agg [.int .u8 a,.int .i64 b,.int .i64 c],h):=by kernel_rfl
theorem Bdb:(Hz 165).size=3:=by kernel_rfl
theorem A1f{n:Nat}(hn:n≤1099511627776):Bv (Hz 165) n=true:=Lv (by kernel_rfl) (by kernel_rfl) hn
theorem Aym{lo:Nat}{h:H}{v:AV}{L:List (List AV)}{a b c:AV}(hb:Cb 165 3 lo h v L)(hl:L.length+1≤1099511627776)(hlo:lo≤h.next.nat){k:KV}(hk:∀v' h',Cb 165 3 lo h' v' (L++[[a,b,c]])→Kp 165 lo h h'→k v' h'):
 oK (Ap env 160 (fun e ei=>Ak 1 [(0,.agg [a,b,c])] h e ei)) fun x h'=>oK (Ar env .append [160,160] [v,x] h') k:=by
 rw[Ba8,Ad,Bbi]
 exact Zg hb rfl Bdb (A1f hl) hlo hk
section
variable{s:List UInt8}(hl:s.length≤1000000)
include hl
theorem c95{i:Nat}(hi:i<s.length){h:H}{k:KV}(hk:∀h' (r:Rn),Exh h h'→Bt i (s.drop i)=r::Bt r.2.2 (s.drop r.2.2)→i<r.2.2→r.2.2≤s.length→k (.agg (Abh r)) h'):W1 (.func 95) [S s,.int .i64 (Int.ofNat i)] h k:=by
 refine w95 (n:=2) Bg (g95 ?_)
 unfold Aml
 refine Cy (Gu (Alc (by omega) ?_))
 have fin:(∀h2:i+2<s.length,s[i]=63→s[i+1]=63→tri s[i+2]=none)→(r95 W1 k 1).a1 s.length (enc s) (Int.ofNat i) (.ptr h.next 0) (h.new Ut):=fun hno=>by
  refine Ben ?_
  unfold Amk
  refine Gu (Fz hi (Bw (by omega) ?_))
  rw[Ak7,Ad]
  unfold Ut
  refine Ko rfl rfl (by decide) fun h' x hn ha=>?_
  refine ha.ldn rfl ?_
  exact hk h' (s[i],i,i+1) x (Wr hi hno) (Nat.lt_succ_self i) hi
 refine Lj (Bo5 (s.drop i) [63,63]) ?_
 rw[Bn]
 refine Mc (b:=decide (i+2<s.length)) (fun k' hk'=>Bw (by omega) (by rw[ilt];exact hk')) ?_
 refine Br (fun e=>?_) (fun e=>?_)
 · rw[Bool.and_eq_true,decide_eq_true_eq,decide_eq_true_eq] at e
   have h2:=e.2
   have e1:=e.1
   rw[List.drop_eq_getElem_cons hi,List.drop_eq_getElem_cons (show i+1<s.length by omega)] at e1
   have e1':[s[i],s[i+1]]=[63,63]:=e1
   have ea:s[i]=63:=(List.cons.inj e1').1
   have eb':s[i+1]=63:=(List.cons.inj (List.cons.inj e1').2).1
   refine Bw (by omega) (Gu (Fz h2 ?_))
   refine Lj (Bo4 s[i+2]) ?_ rfl (by cases tri s[i+2]<;>rfl)
   cases ht:tri s[i+2] with
   |none=>
    rw[show A55 none=.tuple [.int .u8 (.ofNat 0),.bool false] from rfl,Hu,Bj,Ht,Bn]
    exact Cp rfl (fin fun _ _ _=>ht)
   |some d=>
    rw[show A55 (some d)=.tuple [.int .u8 (Int.ofNat d.toNat),.bool true] from rfl,Hu]
    rw[Bj,Ht,Bn]
    refine Dp rfl (Bw (by omega) ?_)
    rw[Ak7,Ad]
    unfold Ut
    refine Ko rfl rfl (by decide) fun h' x hn ha=>?_
    refine ha.ldn rfl ?_
    exact hk h' (d,i,i+3) x (Ti h2 ea eb' ht) (by show i<i+3;omega) (by show i+3≤s.length;omega)
 · refine fin fun h2 h1 h3=>?_
   exfalso
   rw[decide_eq_true h2,Bool.and_true,decide_eq_false_iff_not] at e
   apply e
   rw[List.drop_eq_getElem_cons hi,List.drop_eq_getElem_cons (show i+1<s.length by omega),h1,h3]
   rfl
theorem Axi {hE : H} {k : KV} : ∀ (n i : Nat) (acc : List Rn) {h : H} {v : AV}, s.length - i < n → i ≤ s.length → acc.length ≤ i → Exh hE h → Cb 165 3 hE.next.nat h v (cel acc) →
    (∀ h' v', Exh hE h' → Cb 165 3 hE.next.nat h' v' (cel (acc ++ Er (Bt i (s.drop i)))) → k v' h') → Acu W1 k (r67 W1 k n) s.length (enc s) v (Int.ofNat i) h
  | 0, _, _, _, _, hn, _, _, _, _, _ => absurd hn (Nat.not_lt_zero _)
  | n + 1, i, acc, h, v, hn, hi, ha, hx, hb, hk => by
    unfold Acu
    rw [ile]
    refine Br (fun e => ?_) (fun e => ?_)
    · have e : s.length ≤ i := of_decide_eq_true e
      rw [List.drop_eq_nil_of_le e, show Bt i [] = [] by rw [Bt], show Er [] = [] by rw [Er], List.append_nil] at hk
      exact hk _ _ hx hb
    · have e : ¬ s.length ≤ i := of_decide_eq_false e
      refine c95 hl (by omega) fun h1 r x1 hr hlt hle => ?_
      refine Cy ?_
      unfold Ut
      refine Ko rfl rfl (by decide) fun h2 x2 hn2 ha2 => ?_
      have x12 : Exh h h2 := x1.trans x2
      have hb2 := hb.ext x12
      have hx2 := hx.trans x12
      rw [Ae]
      refine ha2.ld1 (j := 2) (by show 2 < 3; decide) ?_
      show asI .i64 (.int .i64 (.ofNat r.2.2)) _
      rw [Bj, Ae]
      refine ha2.ld1 (j := 0) (by show 0 < 3; decide) ?_
      show asI .u8 (.int .u8 (Int.ofNat r.1.toNat)) _
      rw [Bj, Ww _ 92 (by decide)]
      refine Mc (b := decide (r.2.2 < s.length)) (fun k' hk' => by rw [show Int.ofNat r.2.2 = Int.ofNat r.2.2 from rfl, ilt]; exact hk') ?_
      have go : ¬ (r.1 = 92 ∧ ∃ h : r.2.2 < s.length, s[r.2.2] = 10) → ldn 3 (.ptr h1.next 0) h2 fun v46 =>
          oK (Ap env 160 (fun e ei => Ak 1 [(0, v46)] h2 e ei)) fun v47 h48 =>
          oK (Ar env .append [160, 160] [v, v47] h48) fun v49 h50 =>
          (r67 W1 k (n + 1)).a1 s.length (enc s) v49 (Int.ofNat r.2.2) h50 := fun hno => by
        refine ha2.ldn rfl ?_
        unfold Abh
        refine Aym hb2 (by rw [Dh]; omega) hx2.1 fun v' h' hb' hk' => ?_
        refine A3c ?_
        refine Axi n r.2.2 (acc ++ [r]) (by omega) hle (by rw [List.length_append, List.length_singleton]; omega) (hx2.kp (Nat.le_refl _) hk') (by rw [Ajf]; exact hb') fun h3 v3 a b => hk h3 v3 a ?_
        rw [hr, Azk hno]
        rw [List.append_assoc] at b; exact b
      refine Fa (fun e2 => ?_) (fun e2 => ?_)
      · rw [Bool.and_eq_true, decide_eq_true_eq, decide_eq_true_eq] at e2
        refine Gu (Fz e2.2 ?_)
        rw [Ww _ 10 (by decide)]
        refine Br (fun e3 => ?_) (fun e3 => ?_)
        · have e3 : s[r.2.2] = 10 := of_decide_eq_true e3
          refine Bw (by omega) ?_
          refine A3c ?_
          refine Axi n (r.2.2 + 1) acc (by omega) e2.2 (by omega) hx2 hb2 fun h3 v3 a b => hk h3 v3 a ?_
          rw [hr, Azm e2.1 e2.2 e3]; exact b
        · refine go fun q => ?_
          obtain ⟨_, q1, q2⟩ := q
          exact absurd q2 (of_decide_eq_false e3)
      · refine Cp rfl (go fun q => ?_)
        obtain ⟨q0, q1, _⟩ := q
        have q0 : r.1 = UInt8.ofNat 92 := q0
        rw [decide_eq_true q0, decide_eq_true q1] at e2; cases e2
theorem c67{h:H}{k:KV}(hk:∀h' v',Exh h h'→Cb 165 3 h.next.nat h' v' (cel (Dw s))→k v' h'):W1 (.func 67) [S s] h k:=by
 refine w67 (n:=s.length+2) Bg (g67 ?_)
 show Acu W1 k (r67 W1 k (s.length+1)) s.length (enc s) .Ai (Int.ofNat 0) h
 exact Axi hl _ 0 [] (by omega) (Nat.zero_le _) (Nat.le_refl _) .refl (.inl ⟨rfl,rfl⟩) fun h' v' a b=>hk h' v' a b
end
end Go.Den
