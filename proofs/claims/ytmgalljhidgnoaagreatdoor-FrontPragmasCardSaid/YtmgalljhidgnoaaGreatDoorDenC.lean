/-
 Proof.
-/
import Derived.Test.YtmgalljhidgnoaaGreatDoorDenB
import Derived.Lib.UnsafeStr
import Derived.CallsIn
import Derived.TacticsIn
open Option renaming some → wU, rec → wz, map_some → wV, getD_some → wW
open Nat renaming add_zero → wX, zero_add → wJ, ble → vU, add → vN, ble_eq_true_of_le → wY, beq → vS, beq_refl → wZ, mul_le_mul_right → xb, mul → vO, min → xe, min_le_left → xh, min_zero → xj, le_refl → vE, add_mul → xk, zero_mul → xl
open Bool renaming rec → wg, false_eq_true → wO, and_eq_true → vK, noConfusion → xm
open List renaming getElem?_toArray → xo, getElem?_cons_zero → xp, getElem?_cons_succ → xq, all_eq_true → wm, take_length → xu, length_append → o7, getElem?_eq_getElem → wq, getD_eq_getElem?_getD → vM, getElem_mem → wu, getElem?_append_left → xw, eq_nil_of_length_eq_zero → xz, findIdx?_cons → xA
noncomputable section
namespace Go.Den
open Go.RowKit
section
variable{T:Type}{P:Program}{w:World}{μ:Mu}{h:Hp T}
theorem CM.of_run{b t:Sem Value}{a:U}{c:Hp T}(d:b.run P w=t.run P w)(f:CM P μ h w t a c):CM P μ h w b a c:=by obtain⟨v,g,i,j,k⟩:=f;exact⟨v,g,i,d.trans j,k⟩
theorem Ez.length{μ:Mu}:∀{a:Es}{b:List MapEntry},Ez μ a b→b.length=a.length
 |[],_,r=>by rw[show _=[] from r];rfl
 |_::_,_,⟨x,c,e,_,_,_,h⟩=>by subst e;simp[Ez.length h]
theorem De{r:Nat}{o:Obj}(a:w.heap[r]? =some o)(b:∀c e f,o≠.cells c e f):(getObj r).run P w=.ok o w:=by unfold getObj;cases o<;>first|exact absurd rfl (b _ _ _)|simp only[Sem.run,a]
theorem YW{r:Nat}{o:Obj}(x:Obj)(a:w.heap[r]? =some o)(b:∀c e f,o≠.cells c e f):
 ∃d,(setObj r x).run P w=.ok () d∧d.heap.size=w.heap.size∧(∀g,g≠r→d.heap[g]? =w.heap[g]?)∧d.heap[r]? =some x∧d.os=w.os∧d.tape=w.tape∧d.output=w.output:=by
 refine⟨{ w with heap:=w.heap.setIfInBounds r x },?_,?_,?_,?_,rfl,rfl,rfl⟩
 · unfold setObj;cases o<;>first|exact absurd rfl (b _ _ _)|simp only[Sem.run,a]
 · simp
 · intro g h;simp only[Array.getElem?_setIfInBounds];rw[if_neg (λe=>h e.symm)]
 · have:r<w.heap.size:=(Array.getElem?_eq_some_iff.1 a).1;simp[this]
theorem Bc.putObj{Pr:Program}(a:Bc μ h w){b:Go.Den.P}{l:Loc}{c:Obj}(d:(h.at b).own=true)(g:μ b=some l)(i:w.heap[l.blk]? =some c)(j:∀k e f,c≠.cells k e f)(x:Obj)(o:Ob T)
 (m:∀n:World,n.heap[l.blk]? =some x→Ke μ n l o):∃n,(setObj l.blk x).run Pr w=.ok () n∧Bc μ (h.put b o) n∧BF μ h w μ (h.put b o) n:=by
 obtain⟨n,p,q,r,s,t,u,v⟩:=YW (P:=Pr) x i j;exact⟨n,p,a.put d g o n q r (m n s) t u v⟩
theorem bH{a:ByteArray}{pos b:Nat}(h:a[pos]? =some (UInt8.ofNat b))(c:b<128):Utf8.decode a pos=(b,1):=by
 have d:pos<a.size:=by
  rcases Nat.lt_or_ge pos a.size with f|f
  · exact f
  · rw[getElem?_neg a pos (by omega)] at h;cases h
 have g:(a.get! pos).toNat=b:=by
  rw[getElem?_pos a pos d] at h;have e:a.get! pos=a[pos]:=by show a.data[pos]! =a.data[pos];rw[getElem!_pos]
  rw[e,wU.inj h];simp;omega
 unfold Utf8.decode;simp only[wX,g];rw[if_pos c]
theorem ud(b:Bc μ h w){a:U}{c:Bool}{ty:TypeId}{r:U×Hp T}(d:QQ a c h=some r){f:Value}(g:VR μ a f):CM P μ h w (Instr.next f c ty) r.1 r.2:=by
 cases a<;>simp only[QQ] at d<;>try cases d
 rename_i p o;cases i:h.at p<;>rw[i] at d<;>simp only at d<;>try cases d
 rename_i l j pos;obtain⟨k,d⟩:=AK d;obtain⟨m,n⟩:=Ao k;obtain rfl:=m;obtain rfl:=Bh n;obtain⟨q,s,rfl⟩:=g;have t:=b.ob p q (by rw[i];simp) s;rw[i] at t;obtain⟨str,u,v,x⟩:=t;unfold bJ at d;unfold Instr.next;simp only[x,wJ];refine CM.of_run (Aa (De u (by intros;simp))) ?_;simp only;by_cases y:pos<str.size
 · have:vU (vN pos 1) l=true:=wY (by rw[v.1];exact y);rw[this] at d;obtain⟨c,d⟩:=Ki (show(wg (some (.tuple [.bool true,.int .i64 (.ofNat pos),.int .i32 (.ofNat (DD j pos))],h.put p (.iter l j (vN pos 1)))) none (vU 128 (DD j pos)):Option (U×Hp T))=some r from d);cases d;obtain⟨f,_⟩:=v.get (show pos<l by rw[v.1];exact y);have k:DD j pos<128:=by rw[HI] at c;simpa using c
   rw[if_pos y,bH f k];obtain⟨m,n,g,t⟩:=b.putObj (Pr:=P) (by rw[i];rfl) s u (by intros;simp) (.stringIter str (pos+1)) (.iter l j (vN pos 1)) λm n=>⟨str,n,v,x⟩;refine⟨.tuple #[.bool true,goInt pos,.int .i32 (DD j pos:Nat)],m,μ,?_,g,t,_,rfl,_,_,rfl,rfl,_,_,rfl,rfl,_,_,rfl,rfl,rfl⟩;simp only;rw[Aa n];rfl
 · have:vU (vN pos 1) l=false:=by rw[HI,v.1];simp;show str.size<pos+1;omega
   rw[this] at d;cases d;rw[if_neg y];exact .here b (v:=.tuple #[.bool false]) rfl ⟨_,rfl,_,_,rfl,rfl,rfl⟩
theorem Ve:∀(l:List Nat),dC l=l.getLast?
 |[]=>rfl
 |[x]=>rfl
 |x::y::l=>by show dC (y::l)=_;rw[Ve (y::l),List.getLast?_cons_cons]
theorem Vd{μ:Mu}(n:Nat):∀{b:List (U×U×Nat)}{c:List MapEntry},Ez μ b c→∀{e},dx n b=some e→∃x,c.find? (·.born==n)=some x∧VR μ e.1 x.key∧VR μ e.2.1 x.val
 |[],_,_,e,h=>by cases h
 |a::b,_,⟨x,c,rfl,d,f,g,i⟩,e,h=>by
  have h:(wg (dx n b) (some a) (vS a.2.2 n):Option _)=some e:=h;rw[List.find?_cons,←g];cases j:vS a.2.2 n with
  |true=>rw[j] at h;cases h;have:=Bh j;refine⟨x,?_,d,f⟩;rw[show(a.2.2==n)=true from by simpa using this]
  |false=>
   rw[j] at h;have k:¬a.2.2=n:=λe=>by rw[e,wZ] at j;cases j
   rw[show(a.2.2==n)=false from by simpa using k];exact Vd n i h
theorem lg(b:Bc μ h w){a:U}{r:U×Hp T}(c:NS a h=some r){d:Value}(f:VR μ a d):CM P μ h w (Instr.entry d) r.1 r.2:=by
 cases a<;>simp only[NS] at c<;>try cases c
 rename_i p o;cases g:h.at p<;>rw[g] at c<;>simp only at c<;>try cases c
 rename_i i j k m;obtain⟨s,c⟩:=AK c;obtain rfl:=Bh s;obtain⟨q,t,c⟩:=Ah (show Ue (EJ (h.at i)) k m h=some r from c);obtain⟨u,c⟩:=AK c;obtain⟨n,v,c⟩:=Ah c;obtain⟨e,y,c⟩:=Ah c;cases c;obtain⟨l,d,rfl⟩:=f;have j:=b.ob p l (by rw[g];simp) d;rw[g] at j;obtain⟨s,m,c,d⟩:=j;have j:h.at i=.map q.1 q.2:=by cases g:h.at i<;>rw[g] at t<;>simp only[EJ] at t<;>cases t;rfl
 have g:=b.ob i s (by rw[j];simp) m;rw[j] at g;obtain⟨t,i,s⟩:=g;obtain⟨x,f,m,j⟩:=Vd n s y;refine .here b (v:=.tuple #[x.key,x.val]) ?_ ⟨_,rfl,_,_,rfl,m,_,_,rfl,j,rfl⟩;unfold Instr.entry;simp only[d,wJ];rw[Aa (De c (by intros;simp))];simp only;have g:k.toArray.back? =some n:=by rw[←Array.getLast?_toList];rw[←Ve];exact v
 rw[g];simp only;rw[Aa (De i (by intros;simp))];simp only;have u:=Bh u;rw[if_neg (by simp[u])];have s:t.find? (·.born==n)=some x:=by rw[←Array.find?_toList];exact f
 rw[s];rfl
theorem kM{b:Env}(c:Bt P b)(d:Bc μ h w){f:Array TypeId}{ty:TypeId}{x:U}{r:U×Hp T}(g:Hr b f.toList x h=some r){i:Value}(j:VR μ x i):CM P μ h w (Builtin.len_ f ty #[i]) r.1 r.2:=by
 obtain⟨t,k,m⟩:=Ah g;clear g;obtain⟨o,q,s⟩:=Ah m;clear m;obtain⟨_,_,u⟩:=c.ty _ _ q;have y:=u.HB;have k:f[0]? =some t:=by rw[←Array.getElem?_toList,←CU];exact k
 have b:∀(v:Value)(z:Int),((do
  match o.desc,i with
  |.string,.string d=>pure (goInt d.size)
  |.array n _,_=>pure (goInt n)
  |.pointer g,_=>
   let .array n _ ← underlying g | stuck "len: pointer to array expected"
   pure (goInt n)
  |.slice _,.slice _ n _=>pure (goInt n)
  |.map _ _,.map none|.chan _ _,.chan none=>pure (goInt 0)
  |.map _ _,.map (some r)=>
   let .map entries _ ← getObj r | stuck "len: map expected"
   pure (goInt entries.size)
  |.chan _ _,.chan (some r)=>
   let .chan _ buf _ _ _ m ← getObj r | stuck "len: channel expected"
   pure (goInt (if m then 0 else buf.size))
  | _, _ => stuck "len: string, array, pointer to array, slice, map or channel expected" : Sem Value)).run P w = .ok v w → (Builtin.len_ f ty #[i]).run P w = .ok v w := λv z q => by
  unfold Builtin.len_;simp only[k,xo,xp];rw[Aa (AZ y)];exact q
 cases u:o.desc<;>rw[u] at s b<;>simp only[ZB] at s<;>try cases s
 case string=>cases x<;>simp only at s<;>cases s;obtain⟨str,rfl,g⟩:=j;refine .here d (b (goInt str.size) 0 rfl) ?_;rw[g.1];exact rfl
 case slice e=>
  cases x<;>simp only at s<;>cases s
  · cases j;exact .here d (b (goInt 0) 0 rfl) rfl
  · obtain⟨_,_,rfl,_⟩:=j;exact .here d (b _ 0 rfl) rfl
 case map m e=>
  cases x<;>simp only at s<;>try cases s
  · cases j;exact .here d (b (goInt 0) 0 rfl) rfl
  · rename_i f;obtain⟨p,i,s⟩:=Ah s;cases s;obtain⟨l,k,rfl⟩:=j;have y:h.at f=.map p.1 p.2:=by cases y:h.at f<;>rw[y] at i<;>simp only[EJ] at i<;>cases i;rfl
    have q:=d.ob f l (by rw[y];simp) k;rw[y] at q;obtain⟨o,u,g⟩:=q;refine .here d (b (goInt o.size) 0 ?_) ?_
    · simp only;rw[Aa (De u (by intros;simp))];rfl
    · rw[BU,←Ez.length g];exact rfl
 case array n e=>exact .here d (b (goInt n) 0 rfl) rfl
 case pointer a=>obtain⟨p,i,s⟩:=Ah s;cases s;refine .here d (b (goInt p.1) 0 ?_) rfl;simp only;rw[Aa (AZ (Kb c i))];rfl
end
end Go.Den
namespace Go.Den
open Go.RowKit
section
variable{T:Type}{P:Program}{w:World}{μ:Mu}{h:Hp T}
theorem jE{b:Env}(c:Bt P b)(d:Bc μ h w){f:Array TypeId}{ty:TypeId}{x:U}{r:U×Hp T}(g:Aeg b f.toList x h=some r){i:Value}(j:VR μ x i):CM P μ h w (Builtin.cap_ f ty #[i]) r.1 r.2:=by
 obtain⟨k,l⟩:=AK g;clear g;unfold Abz at k;cases m:Cj f.toList 0 with
 |none=>rw[m] at k;cases k
 |some t=>
  rw[m] at k;have k:(wz false (λ_=>true) (Jb b t):Bool)=true:=k;cases p:Jb b t with
  |none=>rw[p] at k;cases k
  |some e=>
   have m:f[0]? =some t:=by rw[←Array.getElem?_toList,←CU];exact m
   obtain⟨q,s,p⟩:=Ah p;obtain⟨_,_,u⟩:=c.ty _ _ s;have v:=u.HB;cases y:q.desc<;>rw[y] at p v<;>simp only at p<;>cases p;cases x<;>simp only[gm] at l<;>try cases l
   · cases j;refine .here d (v:=goInt 0) ?_ rfl;unfold Builtin.cap_;simp only[m,xo,xp];rw[Aa (AZ v)];rfl
   · rename_i i o n sz g;cases g<;>simp only at l<;>cases l;obtain⟨a,b,rfl,_,k,_⟩:=j;refine .here d (v:=goInt n) ?_ rfl;unfold Builtin.cap_;simp only[m,xo,xp];rw[Aa (AZ v),k.1 rfl];rfl
theorem Ahu(b:Bc μ h w){c:Array TypeId}{ty:TypeId}{x d:U}{r:U×Hp T}(f:C3 h (max2 x d)=some r){g i:Value}(j:VR μ x g)(k:VR μ d i):CM P μ h w (Builtin.max_ c ty #[g,i]) r.1 r.2:=by
 obtain⟨l,m⟩:=Fj f;clear f;rw[m];cases x<;>simp only[max2] at l<;>try cases l
 cases d<;>simp only at l<;>try cases l
 rename_i n a o p;cases j;cases k;have e:=l;refine .here b (v:=.int n (if p>a then p else a)) ?_ ?_
 · rfl
 · have:r.1=.int n (wg a p (Ba a p)):=(wU.inj e).symm;rw[this,Ge];show Value.int n _=Value.int n _;by_cases q:a<p<;>simp[q]
theorem Ahg(b:Bc μ h w){c:Array TypeId}{ty:TypeId}{x d:U}{r:U×Hp T}(f:C3 h (min2 x d)=some r){g i:Value}(j:VR μ x g)(k:VR μ d i):CM P μ h w (Builtin.min_ c ty #[g,i]) r.1 r.2:=by
 obtain⟨l,m⟩:=Fj f;clear f;rw[m];cases x<;>simp only[min2] at l<;>try cases l
 cases d<;>simp only at l<;>try cases l
 rename_i n a o p;cases j;cases k;have e:=l;refine .here b (v:=.int n (if p<a then p else a)) ?_ ?_
 · rfl
 · have:r.1=.int n (wg a p (Ba p a)):=(wU.inj e).symm;rw[this,Ge];show Value.int n _=Value.int n _;by_cases q:p<a<;>simp[q]
theorem TY(b:Bc μ h w){c:Array TypeId}{ty:TypeId}{x:U}{r:U×Hp T}(d:EK x h=some r){f:Value}(g:VR μ x f):CM P μ h w (Builtin.unsafeSliceData_ c ty #[f]) r.1 r.2:=by
 cases x<;>simp only[EK] at d<;>try cases d
 · cases g;exact .here b (v:=.pointer none) rfl rfl
 · rename_i i o n sz j;cases n<;>simp only at d<;>cases d;obtain⟨a,k,rfl,l,_,m⟩:=g;obtain⟨q,p,rfl,_⟩:=m.resolve_left (by omega);obtain⟨s,rfl⟩:∃s,k=s+1:=⟨k-1,by omega⟩;exact .here b (v:=.pointer (some ⟨q.blk,q.off+o,none⟩)) rfl ⟨q,p,rfl⟩
theorem XO(s:ByteArray)(n:Nat):((s.extract 0 n).data.map λb=>Value.int .u8 b.toNat).toList=(s.data.toList.map λb=>Value.int .u8 b.toNat).take n:=by rw[ByteArray.data_extract];simp
theorem Gt{_E:Env}(c:Bc μ h w){sz:Nat}{x:U}{p:Nat×List U}(d:BH h sz x=some p){vx:Value}(f:VR μ x vx):
 (Builtin.lenOf vx).run P w=.ok p.1 w∧p.2.length=p.1*sz∧p.2.all U.one=true∧∀n,n≤p.1→∃cs,(Builtin.firstCells sz n vx).run P w=.ok cs w∧BN μ (p.2.take (n*sz)) cs.toList:=by
 cases x<;>simp only[BH] at d<;>try cases d
 case Af=>cases f;refine⟨rfl,by simp,rfl,λn _=>⟨#[],rfl,?_⟩⟩;rw[List.take_nil];exact(rfl:([]:List Value)=[])
 case str l g=>obtain⟨i,d⟩:=AK d;cases d;obtain rfl:=Bh i;obtain⟨str,rfl,rfl,rfl⟩:=f;refine⟨rfl,by rw[Ix];simp,Kr _ _,λn _=>⟨_,rfl,?_⟩⟩;rw[XO,Nat.mul_one];exact(MA μ str).take n
 case slice b o n z j=>
  obtain⟨i,d⟩:=AK d;obtain⟨cs,k,d⟩:=Ah d;cases d;obtain rfl:=Bh i;obtain⟨a,m,rfl,r,⟨_,_,s⟩,t⟩:=f;obtain⟨u,v,y,g,j,d,i,_,r,f,a0,a1,a2⟩:=c.read (good:=λo=>o=some cs) (bad:=none) (λe=>nomatch e) (k:=some) s k;cases a2;refine⟨rfl,a1,a0,λg j=>?_⟩;have y:g*z≤n*z:=xb _ j;by_cases h0:g*z=0
  · refine⟨#[],?_,?_⟩
    · show(loadCells a (g*z)).run P w=_;rw[h0];rfl
    · rw[h0,List.take_zero];exact(rfl:([]:List Value)=[])
  · have:m≠0:=λe=>by
     have:n=0:=by omega
     subst this;have:g=0:=by omega
     subst this;exact h0 (by simp)
    obtain⟨q,c,rfl,_⟩:=t.resolve_left this;obtain rfl:q=u:=by rw[c] at d;exact wU.inj d
    have r:q.off+o+n*z≤v.size:=r;refine⟨_,run_loadCells i (g*z) (by omega),?_⟩;have:=f.take (g*z);simp only[Array.toList_extract,List.extract_eq_take_drop] at this ⊢;rw[List.take_take] at this;rw[show q.off+o+g*z-(q.off+o)=g*z from by omega];rw[show min (g*z) (q.off+o+vO n z-(q.off+o))=g*z from by have:vO n z=n*z:=rfl;omega] at this;exact this
theorem sV {a2 : Env} (b5 : Bt P a2) (a8 : Bc μ h w) {g : Array TypeId} {ty : TypeId} {x b8 : U} {r : U × Hp T} (b1 : GM a2 (Cj g.toList 0) (λe v => gD x b8 h e v) = some r) {a1 m : Value} (a0 : VR μ x a1) (d4 : VR μ b8 m) :
    CM P μ h w (Builtin.copy_ g ty #[a1, m]) r.1 r.2 := by
  obtain ⟨t, a6, b2⟩ := Ah b1;clear b1;have a6 : g[0]? = some t := by rw [← Array.getElem?_toList, ← CU]; exact a6
  obtain ⟨e, v, d2, c2, b3⟩ := GX b5 b2;clear b2;obtain ⟨_, _, k⟩ := b5.ty _ _ c2;obtain ⟨p, c9, b⟩ := Ah b3;clear b3;obtain ⟨c5, d0, c7, a9⟩ := Gt (P := P) (_E := a2) a8 c9 d4;have b6 : ∀ (base : Option Addr) (u f : Nat), a1 = .slice base u f → ∀ (cs : Array Value), (Builtin.firstCells v.size (xe p.1 u) m).run P w = .ok cs w →
      (Builtin.copy_ g ty #[a1, m]).run P w = (do if let some a := base then storeCells a cs.toList
                                                     pure (goInt (xe p.1 u)) : Sem Value).run P w := by
    intro base u f c0 cs i;subst c0;unfold Builtin.copy_;simp only [a6, xo, xp, xq];rw [Aa (AZ d2)];simp only;rw [Aa c5, Aa k.rsize, Aa i];cases base <;> rfl
  cases x <;> simp only at b <;> try cases b
  case Af =>cases a0;obtain ⟨cs, i, _⟩ := a9 (xe p.1 0) (xh _ _);refine .here a8 (v := goInt 0) ?_ rfl;rw [b6 none 0 0 rfl cs i, show xe p.1 0 = 0 from xj _];rfl
  case slice b9 o n z d9 =>
    obtain ⟨b4, b⟩ := AK b;have b4 := Bh b4;obtain ⟨a, f, rfl, d8, ⟨_, _, a5⟩, c4⟩ := a0
    -- how many, and the write
    have fin : ∀ (d : Nat) (s : List U), xe p.1 n = d → s = p.2.take (d * v.size) → nC d (h.write b9 o s) = some r → CM P μ h w (Builtin.copy_ g ty #[.slice (some a) n f, m]) r.1 r.2 := by
      intro d s y a4 b;obtain ⟨a3, d3, b⟩ := Ah b;cases b;obtain ⟨cs, i, a7⟩ := a9 d (by rw [← y]; exact xh _ _);rw [← a4] at a7;have c8 : s.all U.one = true := by rw [a4, wm];intro x a0;exact (wm.1 c7) x (List.mem_of_mem_take a0)
      obtain ⟨l, b7, d7, b0, j, d5, d6, c3⟩ := a8.write (Pr := P) (good := λo => o = some a3) (bad := none) (λe => nomatch e) (k := some) a5 d3 a7 c8;cases c3;refine ⟨goInt d, b7, μ, ?_, d5, d6, rfl⟩;rw [b6 (some a) n f rfl cs (by rw [y]; exact i), y];by_cases h0 : f = 0
      · -- nothing is stored
        subst h0;have c6 : n = 0 := by omega
        subst c6;have a5 : d = 0 := by rw [← y]; exact xj _
        subst a5;have c1 : cs.toList = [] := by have := a7.length;rw [a4] at this;simpa using this
        rw [c1] at j ⊢;have j : (Result.ok () w : Result Unit) = .ok () b7 := j;cases j;rfl
      · obtain ⟨q, d1, rfl, _⟩ := c4.resolve_left h0;rw [d1] at b0; cases b0;simp only;rw [Aa j]; rfl
    cases c : vU p.1 n with
    | true =>rw [c] at b;have c := Bq c;refine fin p.1 p.2 (Nat.min_eq_left c) ?_ b;rw [← d0, xu]
    | false =>
      rw [c] at b;have c : ¬ p.1 ≤ n := λa3 => by rw [wY a3] at c; cases c
      refine fin n _ (Nat.min_eq_right (by omega)) ?_ b;rw [Uk]; rfl
end
end Go.Den
namespace Go.Den
open Go.RowKit
section
variable{T:Type}{P:Program}{w:World}{μ:Mu}{h:Hp T}
theorem Zb{a:Env}(b:Bt P a){c:Array TypeId}{d:Bool}(f:Yc a (Cj c.toList 1)=some d):∃t g,c[1]? =some t∧P.underlying t=some g∧HF g=d:=by obtain⟨t,h,f⟩:=Ah f;obtain⟨i,j,f⟩:=Ah f;obtain⟨_,_,k⟩:=b.ty _ _ j;cases f;exact⟨t,i.desc,by rw[←Array.getElem?_toList,←CU];exact h,k.HB,rfl⟩
def HY(a:Nat)(e:TypeId)(b:Bool)(n:Nat)(c:Value):Sem (Array Value):=
 if !b then Builtin.firstCells a n c
 else if n*a=0 then pure #[]
 else do pure (Builtin.zeroCells (←zeroValue e).cells n)
theorem br{b:Array TypeId}{ty t c e:TypeId}{d:TypeDesc}(f:b[0]? =some t)(g:b[1]? =some c)(i:P.underlying t=some (.slice e))(j:P.underlying c=some d)
 {l:TypeInfo} (m:P.info? e=some l) {base:Option Addr} {sLen sCap:Nat} {vx:Value} {k:Nat}
 (n:(HF d=false∧(Builtin.lenOf vx).run P w=.ok k w)∨(HF d=true∧(∃o,vx=.int o (k:Int))∧k≤1099511627776∧k*l.bytes≤281474976710656))
 (p:sLen+k≤1099511627776) (q:(sLen+k)*l.bytes≤140737488355328):
 (Builtin.append_ b ty #[.slice base sLen sCap,vx]).run P w=
  if sLen+k≤sCap then(do
   let new ←HY l.size e (HF d) k vx
   if let some a:=base then storeCells (a.add (sLen*l.size)) new.toList
   pure (.slice base (sLen+k) sCap):Sem Value).run P w
  else(do
   let old ←Builtin.firstCells l.size sLen (.slice base sLen sCap);let new ←HY l.size e (HF d) k vx;let r:=Builtin.zeroCells (←zeroValue e).cells (grownCap w (sLen+k) sCap e-(sLen+k))
   pure (.slice (some (←newRow e (old++new++r))) (sLen+k) (grownCap w (sLen+k) sCap e)):Sem Value).run P w.drew:=by
 have s:(sizeOf e).run P w=.ok l.size w:=by unfold sizeOf;rw[Aa (FZ m)];rfl
 have hi:(typeInfo e).run P w=.ok l w:=FZ m;unfold Builtin.append_;simp only[f,g,xo,xp,xq];rw[Aa (AZ i)];simp only;rw[Aa s];rw[Aa (AZ j)];refine Eq.trans (Aa (a:=HF d) (w':=w) ?_) ?_
 · clear n j;cases d<;>rfl
 have u:∀z:Prop,¬(((sLen+k:Nat):Int)>IntKind.i64.max∧(z∨l.bytes=0)):=by rintro z ⟨h,_⟩;have:IntKind.i64.max=9223372036854775807:=rfl;rw[this] at h;omega
 have v:(typeInfo e).run P w.drew=.ok l w.drew:=FZ m;have x:(choose (.appendCap (sLen+k) sCap e)).run P w=.ok (grownCap w (sLen+k) sCap e) w.drew:=by rw[run_choose_drew];rfl
 have y:¬sLen+k≤sCap→¬(Builtin.nextslicecap (sLen+k) sCap*l.bytes>2^48):=by intro c;have p:=nextslicecap_le (need:=sLen+k) (old:=sCap) (by omega);have:Builtin.nextslicecap (sLen+k) sCap*l.bytes≤2*(sLen+k)*l.bytes:=xb _ p;rw[Nat.mul_assoc] at this;omega
 rcases n with⟨q,b⟩|⟨q,⟨o,rfl⟩,b,r⟩
 · rw[q,if_neg (by simp),Aa b];by_cases c:sLen+k≤sCap
   · rw[if_pos c,if_pos c];cases base<;>rfl
   · rw[if_neg c,if_neg c];rw[Aa hi,if_neg (u _),Aa hi,if_neg (y c)];rw[Aa x,Aa v,Aa (run_askRoom _)];rfl
 · rw[q,if_pos rfl];rw[Aa (show(asInt (.int o (k:Int))).run P w=.ok (k:Int) w from rfl)];simp only[Oz (show k≤9223372036854775807 by omega)];rw[if_neg (by omega),Aa hi,if_neg (by
    have:((k*l.bytes:Nat):Int)≤281474976710656:=by omega
    rw[Int.natCast_mul] at this;omega)]
   rw[Int.toNat_natCast,Aa run_pure];by_cases c:sLen+k≤sCap
   · rw[if_pos c,if_pos c];cases base<;>rfl
   · rw[if_neg c,if_neg c];rw[Aa hi,if_neg (u _),Aa hi,if_neg (y c)];rw[Aa x,Aa v,Aa (run_askRoom _)];rfl
end
end Go.Den
namespace Go.Den
open Go.RowKit
section
variable{T:Type}{P:Program}{w:World}{μ:Mu}{h:Hp T}
theorem Cf.Aji{a:List U}{pre b:List Value}{c:Array Value}(h:BN μ a pre)(d:a.all U.one=true)(g:Nat)(f:c.toList=pre++b):Cf μ (AD (Ai a 0 .e)) a.length ⟨g,0,c.size⟩ c:=by
 have i:=h.length;have j:c.size=pre.length+b.length:=by rw[←Array.length_toList,f,o7]
 refine⟨rfl,by simp;omega,λk hi=>?_⟩;have l:a[k]? =some a[k]:=wq hi;obtain⟨v,m,n⟩:=h.get _ _ l;rw[Am,if_pos (by omega),vM,Nat.sub_zero,l];refine⟨v,?_,n,(wm.1 d) _ (wu _)⟩;rw[wJ,←Array.getElem?_toList,f,xw (by omega)];exact m
theorem TZ(a:Array Value)(n:Nat):Builtin.zeroCells a n=Lb a (n*a.size):=rfl
theorem WE{a:TI}{b:U}{p:Nat×List U}(c:Sf a b=some p):∃d n,b=.int d (.ofNat n)∧p=(n,H7 a.zero n):=by
 cases b with
 |int d n=>
  cases n with
  |ofNat n=>obtain⟨_,c⟩:=AK c;cases c;exact⟨d,n,rfl,rfl⟩
  |negSucc n=>cases c
 |_=>cases c
theorem VO{a:Env}(b:Bt P a)(c:Bc μ h w){e:TypeId}{d:TI}(f:a.ty e=some d){g:Bool}{i:U}{p:Nat×List U}(j:OI (some g) h d i=some p)(l:d.zero.length=d.size){m:Value}(o:VR μ i m):
 p.2.length=p.1*d.size∧p.2.all U.one=true∧(∀q,Bc μ h q→∃cs,(HY d.size e g p.1 m).run P q=.ok cs q∧BN μ p.2 cs.toList)∧
 ((g=false∧∀q,Bc μ h q→(Builtin.lenOf m).run P q=.ok p.1 q)∨(g=true∧(∃r,m=.int r (p.1:Int)))):=by
 obtain⟨_,z,k⟩:=b.ty _ _ f;cases g with
 |false=>have j:BH h d.size i=some p:=j;have s:=λ(q:World)(t:Bc μ h q)=>Gt (P:=P) (_E:=a) t j o;obtain⟨_,u,v,_⟩:=s w c;refine⟨u,v,λq t=>?_,.inl ⟨rfl,λq t=>(s q t).1⟩⟩;obtain⟨_,x,_,y⟩:=s q t;obtain⟨cs,m,b⟩:=y p.1 (vE _);rw[←x,xu] at b;exact⟨cs,m,b⟩
 |true=>
  obtain⟨r,n,rfl,f⟩:=WE (show Sf d i=some p from j);subst f;cases o;have g:=(k.cells μ).length;simp only[Array.length_toList] at g;refine⟨by rw[Fz,l],Kk k.Mr n,λq t=>?_,.inr ⟨rfl,r,rfl⟩⟩;unfold HY;simp only[Bool.not_true,wO,if_false];have a:=Oc (k.cells μ) n;by_cases h0:n*d.size=0
  · rw[if_pos h0];refine⟨#[],rfl,?_⟩;have:H7 d.zero n=[]:=xz (by rw[Fz,l,h0]);rw[this];exact(rfl:([]:List Value)=[])
  · rw[if_neg h0,Aa k.JB];exact⟨_,rfl,a⟩
theorem kN {μ : Mu} {a : Env} (b : Bt P a) {e : TypeId} {d : TI} (f : a.ty e = some d) (g : d.zero.length = d.size) {base : Option Addr} {n h i : Nat} {j : Bool} {k : Value} {l new : List U} {m o : Array Value}
    (p : (Builtin.firstCells d.size n (.slice base n h)).run P w.drew = .ok m w.drew) (q : BN μ l m.toList) (r : l.length = n * d.size)
    (s : (HY d.size e j i k).run P w.drew = .ok o w.drew) (t : BN μ new o.toList) (u : new.length = i * d.size) :
    ∃ (v : Array Value) (c : Nat) (x : List Value), (do
          let l ← Builtin.firstCells d.size n (.slice base n h);let new ← HY d.size e j i k;let x := Builtin.zeroCells (← zeroValue e).cells (grownCap w (n + i) h e - (n + i))
          pure (.slice (some (← newRow e (l ++ new ++ x))) (n + i) (grownCap w (n + i) h e)) : Sem Value).run P w.drew = .ok (.slice (some ⟨w.heap.size, 0, none⟩) (n + i) c) (w.drew.alloc (.cells v e)) ∧
      v.toList = (m.toList ++ o.toList) ++ x ∧ n + i ≤ c ∧ v.size = c * d.size := by
  obtain ⟨_, z, y⟩ := b.ty _ _ f;have a := grownCap_ge w (n + i) h e;have j := (y.cells μ).length;simp only [Array.length_toList] at j;have k := q.length;have l := t.length;simp only [Array.length_toList] at k l;refine ⟨m ++ o ++ Builtin.zeroCells z.cells (grownCap w (n + i) h e - (n + i)), grownCap w (n + i) h e, (Builtin.zeroCells z.cells (grownCap w (n + i) h e - (n + i))).toList, ?_, by simp, a, ?_⟩
  · rw [Aa p, Aa s, Aa y.JB];rfl
  · simp only [Array.size_append, k, l, r, u, TZ];have : (Lb z.cells ((grownCap w (n + i) h e - (n + i)) * z.cells.size)).size = (grownCap w (n + i) h e - (n + i)) * d.size := by simp [Lb, j, g]
    rw [this, ← xk, ← xk];congr 1; omega
theorem dW{E:Env}(ok:Bt P E)(s:Bc μ h w){ats:Array TypeId}{ty:TypeId}{x y:U}{r:U×Hp T}(hr0:GM E (Cj ats.toList 0) (fun e ei=>BK (Yc E (Cj ats.toList 1)) x y h e ei)=some r){vx vy:Value}(hx:VR μ x vx)(hy:VR μ y vy):
 CM P μ h w (Builtin.append_ ats ty #[vx,vy]) r.1 r.2:=by
 obtain⟨t,ht,hr1⟩:=Ah hr0
 clear hr0
 have ht:ats[0]? =some t:=by rw[←Array.getElem?_toList,←CU];exact ht
 obtain⟨e,ei,hu,he,hr2⟩:=GX ok hr1
 clear hr1
 obtain⟨ti,z,k⟩:=ok.ty _ _ he
 obtain⟨p,hp,hr3⟩:=Ah hr2
 clear hr2
 obtain⟨hg,hr⟩:=AK hr3
 clear hr3
 obtain⟨hsl,hg⟩:=Ao hg
 obtain⟨hg1,hg2⟩:=Ao hg
 obtain⟨hg3,hg4⟩:=Ao hg1
 obtain⟨hg5,hg6⟩:=Ao hg2
 have hzs:ei.zero.length=ei.size:=by have:=Bh hg3;rwa [BU] at this
 have hpos:=Bq hg4
 have hneed:C7 x+p.1≤1099511627776:=Bq hg5
 have hby:(C7 x+p.1)*ei.bytes≤140737488355328:=Bq hg6
 clear hg hg1 hg2 hg3 hg4 hg5 hg6
 obtain⟨zf,hzf,hp'⟩:=Ah hp
 obtain⟨t1,d1,ht1,hu1,hd1⟩:=Zb ok hzf
 obtain⟨hnl,hno,hnew,hkind⟩:=VO (P:=P) ok s he (show OI (some zf) h ei y=some p from hp') hzs hy
 -- the model's two ways
 have sd:Bc μ h w.drew:=s.heap rfl
 have hrun:=fun(base:Option Addr)(sLen sCap:Nat)(e1:C7 x=sLen)=>br (P:=P) (w:=w) (ty:=ty) ht ht1 hu hu1 k.info (base:=base) (sLen:=sLen) (sCap:=sCap) (vx:=vy) (k:=p.1)
  (by
   rw[hd1]
   rcases hkind with⟨a,b⟩|⟨a,b⟩
   · exact .inl ⟨a,b w s⟩
   · refine .inr ⟨a,b,by omega,?_⟩
     rw[k.bytes]
     have:=xb ei.bytes (Nat.le_add_left p.1 (C7 x))
     omega) (by rw[←e1];exact hneed) (by rw[←e1,k.bytes];exact hby)
 simp only[k.size,hd1] at hrun
 obtain⟨cn,hcn,hvn⟩:=hnew w s
 obtain⟨cd,hcd,hvd⟩:=hnew w.drew sd
 -- a new row
 have grows:∀(base:Option Addr)(n cap:Nat)(old:List U)(co:Array Value),vx=.slice base n cap→C7 x=n→cap<n+p.1→(Builtin.firstCells ei.size n (.slice base n cap)).run P w.drew=.ok co w.drew→BN μ old co.toList→old.length=n*ei.size→
  ∃(vs:Array Value)(c:Nat)(rest:List Value),(Builtin.append_ ats ty #[vx,vy]).run P w=.ok (.slice (some ⟨w.heap.size,0,none⟩) (n+p.1) c) (w.drew.alloc (.cells vs e))∧
   vs.toList=(co.toList++cd.toList)++rest∧n+p.1≤c∧vs.size=c*ei.size:=by
  intro base n cap old co e1 e2 e3 e4 e5 e6
  obtain⟨vs,c,rest,h1,h2,h3,h4⟩:=kN ok he hzs e4 e5 e6 hcd hvd hnl
  refine⟨vs,c,rest,?_,h2,h3,h4⟩
  rw[e1,hrun base n cap e2,if_neg (by omega)]
  exact h1
 have fresh:∀(old:List U)(co vs:Array Value)(n c:Nat)(rest:List Value),BN μ old co.toList→old.all U.one=true→old.length=n*ei.size→vs.toList=(co.toList++cd.toList)++rest→n+p.1≤c→vs.size=c*ei.size→
  (Builtin.append_ ats ty #[vx,vy]).run P w=.ok (.slice (some ⟨w.heap.size,0,none⟩) (n+p.1) c) (w.drew.alloc (.cells vs e))→
  LF e ei.size (n+p.1) (old++p.2) h=some r→CM P μ h w (Builtin.append_ ats ty #[vx,vy]) r.1 r.2:=by
  intro old co vs n c rest e1 e2 e3 e4 e5 e6 e7 e8
  cases e8
  have hl:(old++p.2).length=vO (n+p.1) ei.size:=by
   rw[o7,e3,hnl];exact(xk _ _ _).symm
  obtain⟨μ',s',x',hm⟩:=sd.newRow e (Ai (old++p.2) 0 .e) (vO (n+p.1) ei.size) false vs (fun μ' hle=>by
   have:=Cf.Aji (g:=w.drew.heap.size) ((e1.append hvd).mono hle) (by rw[List.all_append,e2,hno];rfl) e4
   rwa [hl] at this) (fun e=>nomatch e)
  refine⟨_,_,μ',e7,s',(BF.heap μ h rfl rfl rfl rfl:BF μ h w μ h w.drew).trans x',JO (g:=w.heap.size) (c:=c) (by rw[hm,e6];rfl) e5 (fun e=>nomatch e)⟩
 cases hk:vS p.1 0 with
 |true=>
  rw[hk] at hr
  have hr:some (x,h)=some r:=hr
  cases hr
  have hk:=Bh hk
  have hcn0:cn.toList=[]:=by
   have h1:=hvn.length
   rw[hnl,hk,xl] at h1
   exact xz h1
  have go:∀(base:Option Addr)(n cap:Nat),vx=.slice base n cap→C7 x=n→n≤cap→(Builtin.append_ ats ty #[vx,vy]).run P w=.ok vx w:=by
   intro base n cap e1 e2 e3
   rw[e1,hrun base n cap e2,if_pos (by omega),Aa hcn,hcn0,hk]
   cases base<;>rfl
  cases x<;>simp only[Da,wO] at hsl
  case Af=>have hx':=hx;cases hx;exact .here s (go none 0 0 rfl rfl (vE _)) hx'
  case slice b o n sz tg=>
   have hx':=hx
   obtain⟨a,cap,rfl,hn,_⟩:=hx
   exact .here s (go (some a) n cap rfl rfl hn) hx'
 |false=>
  rw[hk] at hr
  replace hr:Dx e ei.size x p.1 p.2 h=some r:=hr
  have hk:p.1≠0:=fun e=>by rw[e] at hk;cases hk
  cases x<;>simp only[Da,wO] at hsl
  case Af=>
   cases hx
   obtain⟨vs,c,rest,h1,h2,h3,h4⟩:=grows none 0 0 [] #[] rfl rfl (by omega) rfl (show([]:List Value)=[] from rfl) (by simp)
   exact fresh [] #[] vs 0 c rest (show([]:List Value)=[] from rfl) rfl (by simp) h2 h3 h4 h1 (by rw[wJ,List.nil_append];exact hr)
  case slice b o n sz tg=>
   obtain⟨hz,hr2⟩:=AK (show(wg none (wg (JU e b o n p.1 ei.size p.2 h (CG (h.at b))) (wz none (fun old=>LF e ei.size (vN n p.1) (Eh old p.2) h) (h.read b o (vO n ei.size))) tg) (vS sz ei.size):Option (U×Hp T))=some r from hr)
   obtain rfl:=Bh hz
   obtain⟨a,cap,rfl,hn,htg,hl⟩:=hx
   cases tg with
   |true=>
    obtain⟨old,hold,hr⟩:=Ah (show(wz none (fun old=>LF e ei.size (vN n p.1) (Eh old p.2) h) (h.read b o (vO n ei.size)):Option (U×Hp T))=some r from hr2)
    rw[If] at hr
    have hc:=Gt (P:=P) (_E:=E) sd (sz:=ei.size) (x:=.slice b o n ei.size true) (p:=(n,old)) (by
     show(wg none (wz none (fun cs=>some (n,cs)) (h.read b o (vO n ei.size))) (vS ei.size ei.size):Option (Nat×List U))=_
     rw[hold,wZ]) (vx:=.slice (some a) n cap) ⟨a,cap,rfl,hn,htg,hl⟩
    obtain⟨_,c2,c3,c4⟩:=hc
    obtain⟨co,c5,c6⟩:=c4 n (vE _)
    have c2:old.length=n*ei.size:=c2
    have c6:BN μ old co.toList:=by rw[←c2] at c6;simpa using c6
    obtain⟨vs,c,rest,h1,h2,h3,h4⟩:=grows (some a) n cap old co rfl rfl (by have:=htg.1 rfl;omega) c5 c6 c2
    exact fresh old co vs n c rest c6 c3 c2 h2 h3 h4 h1 hr
   |false=>
    replace hr:JU e b o n p.1 ei.size p.2 h (CG (h.at b))=some r:=hr2
    clear hr2
    have hrow:=s.rowOf (b:=b) htg.2.choose_spec rfl
    cases hro:CG (h.at b) with
    |no=>rw[hro] at hr;cases hr
    |ext c m=>rw[hro] at hr;cases hr
    |row t' m z' e' whole=>
     rw[hro] at hr
     obtain⟨hb,hr⟩:=AK (show(wg none (some (.slice h.next o (vN n p.1) ei.size false,
      (h.put b .dead).new (.row (Ai p.2 (vN o (vO n ei.size)) t') (vN o (vO (vN n p.1) ei.size)) z' e' false)))
       (An (An (vS e e') (vS o 0)) (An (vU (vN o (vO n ei.size)) m) (vU z' (vN o (vO n ei.size))))):Option (U×Hp T))=some r from hr)
     obtain⟨hb1,hb2⟩:=Ao hb
     obtain⟨hb3,hb4⟩:=Ao hb1
     obtain⟨hb5,hb6⟩:=Ao hb2
     obtain rfl:=Bh hb3
     obtain rfl:=Bh hb4
     have hb5:0+n*ei.size≤m:=Bq hb5
     have hb6:z'≤0+n*ei.size:=Bq hb6
     obtain⟨hat,l,cs,fz,hlb,hblk,hc,hw,hf⟩:=hrow.1 _ _ _ _ _ hro
     have hown:(h.at b).own=true:=by rw[hat];rfl
     cases hr
     have e0:vN 0 (vO n ei.size)=n*ei.size:=wJ _
     have e1:vN 0 (vO (vN n p.1) ei.size)=n*ei.size+p.1*ei.size:=(wJ _).trans (xk _ _ _)
     rw[e0,e1]
     have hsz:=hc.1
     have hsz2:=hc.2.1
     have hvnl:=hvn.length
     rw[hnl] at hvnl
     have hcells:∀(μ':Mu)(l':Loc)(cs':Array Value)(as:List Value),Mu.le μ μ'→BN μ' p.2 as→l'.size=cs'.size→l'.off+n*ei.size+p.1*ei.size≤cs'.size→
      (∀i,i<n*ei.size→cs'[l'.off+i]? =cs[l.off+i]?)→(∀i,i<p.1*ei.size→cs'[l'.off+n*ei.size+i]? =as[i]?)→
      Cf μ' (AD (Ai p.2 (n*ei.size) t')) (n*ei.size+p.1*ei.size) l' cs':=by
      intro μ' l' cs' as hle hv h1 h2 h3 h4
      refine⟨h1,by omega,fun i hi=>?_⟩
      rw[Am]
      by_cases hin:n*ei.size≤i∧i<n*ei.size+p.2.length
      · rw[if_pos hin]
        have ha:p.2[i-n*ei.size]? =some (p.2[i-n*ei.size]'(by omega)):=wq (by omega)
        obtain⟨v,hv',hr⟩:=hv.get _ _ ha
        rw[vM,ha]
        refine⟨v,?_,hr,(wm.1 hno) _ (wu _)⟩
        have:=h4 (i-n*ei.size) (by omega)
        rw[show l'.off+n*ei.size+(i-n*ei.size)=l'.off+i from by omega] at this
        rw[this,hv']
      · rw[if_neg hin]
        obtain⟨v,hv',hr,ho⟩:=hc.2.2 i (by omega)
        exact⟨v,by rw[h3 i (by omega),hv'],VR.mono hle _ _ hr,ho⟩
     by_cases hle:n+p.1≤cap
     · -- in place
       have hc0:cap≠0:=by omega
       obtain⟨q,hq,rfl,hqs⟩:=hl.resolve_left hc0
       rw[hlb] at hq;cases hq
       have hmul:(n+p.1)*ei.size≤cap*ei.size:=xb _ hle
       rw[xk] at hmul
       have hones:∀v∈cn.toList,v.oneCell'=true:=by
        intro v hvm
        obtain⟨i,hi,rfl⟩:=List.getElem_of_mem hvm
        have ha:p.2[i]? =some (p.2[i]'(by omega)):=wq (by omega)
        obtain⟨v,hv',hr'⟩:=hvn.get _ _ ha
        rw[wq hi] at hv';cases hv'
        exact hr'.az ((wm.1 hno) _ (wu _))
       obtain⟨w',hw',rs⟩:=Jv (P:=P) (off:=l.off+n*ei.size) cn.toList 0 cs w hblk (by omega) (fun j h1 h2=>hf (by omega) j (by omega) (by omega)) hones
       rw[wX] at rs
       have hget:=fun j=>Pw cn.toList cs (l.off+n*ei.size) j (by omega)
       obtain⟨s',x'⟩:=s.renew hown hlb (.row (Ai p.2 (n*ei.size) t') (n*ei.size+p.1*ei.size) z' e false) w' rs.size rs.other (fun μ' hle'=>
        ⟨_,fz,rs.here,hcells μ' l _ cn.toList hle' (hvn.mono hle') (by simpa using hsz) (by simp;omega)
         (fun i hi=>by rw[hget,if_neg (by omega)]) (fun i hi=>by rw[hget,if_pos (by omega)];congr 1;omega),(fun e=>nomatch e),
         fun h1 i h2 h3=>hf (by omega) i h2 (by simpa using h3)⟩) rs.os rs.tape rs.output
       refine⟨.slice (some ⟨l.blk,l.off+0,none⟩) (n+p.1) cap,w',_,?_,s',x',⟨_,cap,rfl,hle,⟨(fun e=>nomatch e),_,Mu.BD _ _ _⟩,.inr ⟨l,Mu.BD _ _ _,rfl,hqs⟩⟩⟩
       rw[hrun _ n cap rfl,if_pos hle,Aa hcn]
       simp only[E1,wX]
       rw[Aa hw'];rfl
     · -- a new row
       have hc:=Gt (P:=P) (_E:=E) sd (sz:=ei.size) (x:=.slice b 0 n ei.size false) (p:=(n,BY (AD t') (n*ei.size) 0)) (by
        show(wg none (wz none (fun cs=>some (n,cs)) (h.read b 0 (vO n ei.size))) (vS ei.size ei.size):Option (Nat×List U))=_
        have:h.read b 0 (vO n ei.size)=some (BY (AD t') (n*ei.size) 0):=by
         unfold Hp.read Hp.ES
         rw[hro]
         show GJ 0 (n*ei.size) none some t' m=_
         unfold GJ
         rw[show vU (vN 0 (n*ei.size)) m=true from wY hb5,←GY]
        rw[this,wZ]) (vx:=.slice (some a) n cap) ⟨a,cap,rfl,hn,htg,hl⟩
       obtain⟨_,c2,c3,c4⟩:=hc
       obtain⟨co,c5,c6⟩:=c4 n (vE _)
       have c2:(BY (AD t') (n*ei.size) 0).length=n*ei.size:=c2
       have c6:BN μ (BY (AD t') (n*ei.size) 0) co.toList:=by
        have:List.take (n*ei.size) (BY (AD t') (n*ei.size) 0)=BY (AD t') (n*ei.size) 0:=by
         rw[List.take_of_length_le (by omega)]
        rw[←this];exact c6
       obtain⟨vs,c,rest,h1,h2,h3,h4⟩:=grows (some a) n cap _ co rfl rfl (by omega) c5 c6 c2
       obtain⟨s1,x1⟩:=sd.put (o:=.dead) hown hlb w.drew rfl (fun _ _=>rfl) trivial rfl rfl rfl
       have col:=c6.length
       rw[c2] at col
       have cdl:=hvd.length
       rw[hnl] at cdl
       obtain⟨μ',s',x',hm⟩:∃μ',Bc μ' ((h.put b .dead).new (.row (Ai p.2 (n*ei.size) t') (n*ei.size+p.1*ei.size) z' e false)) (w.drew.alloc (.cells vs e))∧
        BF μ (h.put b .dead) w.drew μ' ((h.put b .dead).new (.row (Ai p.2 (n*ei.size) t') (n*ei.size+p.1*ei.size) z' e false)) (w.drew.alloc (.cells vs e))∧μ' h.next=some ⟨w.heap.size,0,vs.size⟩:=by
        have hvl:vs.size=(co.toList++cd.toList++rest).length:=by rw[←h2,Array.length_toList]
        simp only[o7] at hvl
        obtain⟨a1,a2⟩:=s1.alloc (.row (Ai p.2 (n*ei.size) t') (n*ei.size+p.1*ei.size) z' e false) (.cells vs e) vs.size 0 fun μ' hle'=>
         ⟨vs,(0,0),DW _ _,(by
          refine⟨rfl,by simp;omega,fun i hi=>?_⟩
          rw[Am]
          by_cases hin:n*ei.size≤i∧i<n*ei.size+p.2.length
          · rw[if_pos hin]
            have ha:p.2[i-n*ei.size]? =some (p.2[i-n*ei.size]'(by omega)):=wq (by omega)
            obtain⟨v,hv',hr⟩:=(hvd.mono hle').get _ _ ha
            rw[vM,ha]
            refine⟨v,?_,hr,(wm.1 hno) _ (wu _)⟩
            rw[wJ,←Array.getElem?_toList,h2,xw (by simp only[o7];omega),List.getElem?_append_right (by omega),col]
            exact hv'
          · rw[if_neg hin]
            have hi':i<n*ei.size:=by omega
            have ha:(BY (AD t') (n*ei.size) 0)[i]? =some ((BY (AD t') (n*ei.size) 0)[i]'(by omega)):=wq (by omega)
            obtain⟨v,hv',hr⟩:=(c6.mono hle').get _ _ ha
            have hg:=Im (AD t') (n*ei.size) 0 i hi'
            rw[vM,ha,wJ] at hg
            have hg:(BY (AD t') (n*ei.size) 0)[i]'(by omega)=AD t' i:=hg
            rw[hg] at hr
            refine⟨v,?_,hr,?_⟩
            · rw[wJ,←Array.getElem?_toList,h2,xw (by simp only[o7];omega),xw (by omega)]
              exact hv'
            · have:=(wm.1 c3) _ (wu (l:=BY (AD t') (n*ei.size) 0) (n:=i) (by omega))
              rwa [hg] at this),(fun e=>nomatch e),fun _ i _ _=>by simp⟩
        exact⟨_,a1,a2,Mu.BD _ _ _⟩
       refine⟨_,_,μ',h1,s',((BF.heap μ h rfl rfl rfl rfl:BF μ h w μ h w.drew).trans x1).trans x',JO (g:=w.heap.size) (c:=c) (by rw[hm,h4]) h3 (fun e=>nomatch e)⟩
end
end Go.Den
namespace Go.Den
open Go.RowKit
section
variable{T:Type}{P:Program}{w:World}{μ:Mu}{h:Hp T}
theorem V7{e a:TypeId}(b:P.cellsOf e=1)(c:P.underlying a=some (.int .u8))(d:P.underlying e=some (.int .u8))(count f n:Nat)(g:f+n≤count):liesAt P P.depth e count f a n=true:=by
 have h:P.depth=(2*(P.types.size+Made.depth)+1)+1:=rfl;rw[h];simp only[liesAt,Bool.or_eq_true];left;rw[h];have i:∀j,sameLayout P (j+1) e a=true:=λj=>by unfold sameLayout;rw[d,c];simp
 unfold rowAt;simp only[b,Nat.one_ne_zero,if_false,Nat.div_one,Nat.mod_one,beq_self_eq_true,Bool.true_and,decide_eq_true g,i,Bool.true_or]
theorem run_freeze{a off n:Nat}{cs:Array Value}{e:TypeId}{b:Nat×Nat}(c:w.heap[a]? =some (.cells cs e b)):
 ∃d f,(freeze ⟨a,off,none⟩ n).run P w=.ok () d∧HO w d a cs e f:=by
 refine⟨w.freeze ⟨a,off,none⟩ n,?_⟩;unfold World.freeze;obtain⟨lo,hi⟩:=b;by_cases h0:n=0
 · subst h0;exact⟨(lo,hi),by simp[freeze,Sem.run,World.freeze],by rw[if_pos rfl];exact .self c⟩
 · rw[if_neg h0];refine⟨(if lo==hi then(off,off+n) else(min lo off,max hi (off+n))),by simp[freeze,Sem.run,World.freeze,h0],⟨?_,by simp,?_,rfl,rfl,rfl⟩⟩
   · simp only[Array.getElem?_modify,c,if_true,wV]
   · intro g h;simp only[Array.getElem?_modify];rw[if_neg (λe=>h e.symm)]
theorem RS{a b:Nat}{cs:Array Value}{e:TypeId}{c:Nat×Nat}(d:w.heap[a]? =some (.cells cs e c))(f:List UInt8)(g:∀j,j<f.length→cs[b+j]? =(f.map λx=>Value.int .u8 x.toNat)[j]?):
 (loadBytes ⟨a,b,none⟩ .empty f.length).run P w=.ok ⟨⟨f⟩⟩ w:=by
 rw[Lib.run_loadBytes w f ⟨a,b,none⟩ .empty (λj x h=>by have i:j<f.length:=(List.getElem?_eq_some_iff.1 h).1;rw[E1,GQ d,g j i];simp[h])];congr 1;apply ByteArray.ext;apply Array.ext';simp
theorem RV {a : Env} (b : Bt P a) {c : Array TypeId} (d : JH a (Cj c.toList 0) = true) : ∃ t f, c[0]? = some t ∧ P.underlying t = some (.pointer f) ∧ P.underlying f = some (.int .u8) := by
  unfold JH at d;cases g : Cj c.toList 0 with
  | none => rw [g] at d; cases d
  | some t =>
    rw [g] at d;have h : c[0]? = some t := by rw [← Array.getElem?_toList, ← CU]; exact g
    cases i : a.ty t with
    | none => have d : (wz false (λj => match j.desc with
        | .pointer e => isByte a e
        | _ => false) (a.ty t) : Bool) = true := d
              rw [i] at d; cases d
    | some j =>
      have d : (wz false (λj => match j.desc with
        | .pointer e => isByte a e
        | _ => false) (a.ty t) : Bool) = true := d
      rw [i] at d;obtain ⟨_, _, k⟩ := b.ty _ _ i;have l := k.HB;have d : (match j.desc with
        | .pointer e => isByte a e
        | _ => false : Bool) = true := d
      cases m : j.desc <;> rw [m] at d l <;> simp only [wO] at d;exact ⟨t, _, h, l, Hj b d⟩
theorem OH{E:Env}(ok:Bt P E)(s:Bc μ h w){ats:Array TypeId}{ty:TypeId}{x y:U}{r:U×Hp T}(hr0:(wg none (I9 E x (Bf y) h) (JH E (Cj ats.toList 0)):Option (U×Hp T))=some r){vx vy:Value}(hx:VR μ x vx)(hy:VR μ y vy):
 CM P μ h w (Builtin.unsafeString_ ats ty #[vx,vy]) r.1 r.2:=by
 obtain⟨hp,hr1⟩:=AK hr0
 clear hr0
 obtain⟨t,u,ht,hut,huu⟩:=RV ok hp
 obtain⟨n,hn,hr⟩:=Ah hr1
 clear hr1
 obtain⟨kk,rfl⟩:=FP hn hy
 have hrun:∀(v:Option Addr),n≤9223372036854775807→(Builtin.unsafeString_ ats ty #[.pointer v,.int kk (n:Int)]).run P w=((match v with
  | none => if (n : Int) = 0 then pure (.string .empty) else runtimePanic (.error "unsafe.String: ptr is nil and len is not zero")
  |some a=>if(n:Int)=0 then pure (.string .empty) else do
   if ←variablesAt a (←elemOf t) (n:Int).toNat then do
    let s ←loadBytes a .empty (n:Int).toNat
    freeze a (n:Int).toNat
    pure (.string s)
   else unsupported (.unsafePointer "String: not so many bytes at ptr") : Sem Value)).run P w := by
  intro v hv
  have hdef:Builtin.unsafeString_ ats ty #[.pointer v,.int kk (n:Int)]=(do
   let n ←asInt (.int kk (n:Int))
   let some pt := ats[0]? | stuck "unsafe.String: no argument types"
   if n < 0 then runtimePanic (.error "unsafe.String: len out of range")
   if n > IntKind.i64.max then unsupported (.unsafePointer "String: a length above the largest int")
   match v with
   |none=>
    if n=0 then pure (.string .empty)
    else runtimePanic (.error "unsafe.String: ptr is nil and len is not zero")
   |some a=>
    if n=0 then pure (.string .empty)
    else if ←variablesAt a (←elemOf pt) n.toNat then do
     let s ←loadBytes a .empty n.toNat
     freeze a n.toNat
     pure (.string s)
    else unsupported (.unsafePointer "String: not so many bytes at ptr")) := rfl
  rw[hdef]
  rw[Aa (show(asInt (.int kk (n:Int))).run P w=.ok (n:Int) w from rfl)]
  have hmax:IntKind.i64.max=9223372036854775807:=rfl
  simp only[ht]
  rw[if_neg (by omega),if_neg (by rw[hmax];omega)]
 cases x<;>simp only at hr<;>try cases hr
 case Bn=>
  obtain⟨h0,hr⟩:=AK hr
  cases hr
  obtain rfl:=Bh h0
  cases hx
  exact .here s (v:=.string .empty) (hrun none (by omega)) ⟨_,rfl,Dk.empty⟩
 case ptr b o=>
  obtain⟨l,hl,rfl⟩:=hx
  cases h0:vS n 0 with
  |true=>
   rw[h0] at hr
   have hr:some (U.str 0 0,h)=some r:=hr
   cases hr
   obtain rfl:=Bh h0
   exact .here s (v:=.string .empty) (hrun (some _) (by omega)) ⟨_,rfl,Dk.empty⟩
  |false=>
   rw[h0] at hr
   have hn0:n≠0:=fun e=>by subst e;cases h0
   replace hr:VG E b o n h (CG (h.at b))=some r:=hr
   unfold VG at hr
   have hrow:=s.rowOf (b:=b) hl rfl
   cases hro:CG (h.at b) with
   |no=>rw[hro] at hr;cases hr
   |ext c m=>rw[hro] at hr;cases hr
   |row t' m z e whole=>
    rw[hro] at hr
    obtain⟨hb,hr2⟩:=AK (show(wg none (LL (h.put b (.row t' m (vN m 1) e whole)) (Ei (Cp t' n o))) (An (isByte E e) (An (vU (vN o n) m) (vU n (intMax .i64)))):Option (U×Hp T))=some r from hr)
    obtain⟨hb1,hb2⟩:=Ao hb
    obtain⟨hb2,hb3⟩:=Ao hb2
    have hb2:o+n≤m:=Bq hb2
    have hb3:n≤9223372036854775807:=Bq hb3
    have heb:=Hj ok hb1
    obtain⟨bl,hbl,hr3⟩:=Ah hr2
    cases hr3
    rw[GY] at hbl
    obtain⟨hat,l',cs,fz,hl',hblk,hc,hw,hf⟩:=hrow.1 _ _ _ _ _ hro
    rw[hl] at hl';cases hl'
    have hex:=hc.extract o n hb2
    obtain⟨bs,rfl,hbs⟩:=IU hbl hex
    have hbsl:bs.length=n:=by
     have:=hex.length
     rw[hbs] at this
     simpa using this
    obtain⟨w',fz',hfr,rs⟩:=run_freeze (P:=P) (off:=l.off+o) (n:=n) hblk
    obtain⟨s',x'⟩:=s.put (o:=.row t' m (vN m 1) e whole) (by rw[hat];rfl) hl w' rs.size rs.other ⟨cs,fz',rs.here,hc,hw,fun h=>absurd h (by show¬m+1≤m;omega)⟩ rs.os rs.tape rs.output
    refine⟨.string ⟨⟨bs⟩⟩,w',μ,?_,s',x',OV μ bs⟩
    rw[hrun _ hb3]
    simp only
    rw[if_neg (by omega)]
    have he1:P.cellsOf e=1:=T0 ok hb1
    have hvar:(variablesAt ⟨l.blk,l.off+o,none⟩ u n).run P w=.ok true w:=by
     have hsh:w.shape? l.blk=some (e,cs.size):=by simp[World.shape?,hblk]
     have h1:(shape l.blk).run P w=.ok (some (e,cs.size)) w:=by simp[shape,Sem.run,hsh]
     unfold variablesAt
     rw[Aa (show program.run P w=.ok P w from rfl),Aa h1]
     simp only[he1,Nat.div_one]
     have:=hc.2.1
     rw[V7 he1 huu heb cs.size (l.off+o) n (by omega)];rfl
    have hel:(elemOf t).run P w=.ok u w:=by unfold elemOf;rw[Aa (AZ hut)];rfl
    rw[Int.toNat_natCast,Aa hel,Aa hvar]
    simp only[if_true]
    have hload:(loadBytes ⟨l.blk,l.off+o,none⟩ .empty n).run P w=.ok ⟨⟨bs⟩⟩ w:=by
     rw[←hbsl]
     refine RS hblk bs fun j hj=>?_
     rw[←hbs,Array.getElem?_toList,Array.getElem?_extract,if_pos (by have:=hc.2.1;omega)]
    rw[Aa hload,Aa hfr];rfl
end
end Go.Den
namespace Go.Den
open Go.RowKit
section
variable{T:Type}{P:Program}{w:World}{μ:Mu}{h:Hp T}
theorem Ez.set:∀{a:Es}{b:List MapEntry}{n:Nat}{e:U×U×Nat}{f:MapEntry→MapEntry},Ez μ a b→(∀x,b[n]? =some x→VR μ e.1 (f x).key∧VR μ e.2.1 (f x).val∧e.2.2=(f x).born)→Ez μ (setAt e n a) (b.modify n f)
 |[],b,n,e,f,h,_=>by cases(show b=[] from h);cases n<;>exact(rfl:([]:List MapEntry)=[])
 |c::cs,_,0,e,f,⟨x,b,d,g,i,j,k⟩,l=>by subst d;obtain⟨m,o,p⟩:=l x rfl;exact⟨f x,b,rfl,m,o,p,k⟩
 |c::cs,_,n+1,e,f,⟨x,b,d,g,i,j,k⟩,l=>by subst d;exact⟨x,b.modify n f,rfl,g,i,j,Ez.set k λq r=>l q (by simpa using r)⟩
theorem Ez.del:∀{a:Es}{b:List MapEntry}(n:Nat),Ez μ a b→Ez μ (cI n a) (b.eraseIdx n)
 |[],b,n,h=>by cases(show b=[] from h);cases n<;>exact(rfl:([]:List MapEntry)=[])
 |c::cs,_,0,⟨x,b,d,f,g,i,j⟩=>by subst d;exact j
 |c::cs,_,n+1,⟨x,b,d,f,g,i,j⟩=>by subst d;exact⟨x,b.eraseIdx n,rfl,f,g,i,Ez.del n j⟩
theorem Ez.push:∀{a:Es}{b:List MapEntry}{e:U×U×Nat}{x:MapEntry},Ez μ a b→VR μ e.1 x.key→VR μ e.2.1 x.val→e.2.2=x.born→Ez μ (a++[e]) (b++[x])
 |[],b,e,x,h,c,d,f=>by cases(show b=[] from h);exact⟨x,[],rfl,c,d,f,rfl⟩
 |g::cs,_,e,x,⟨i,j,k,l,m,n,o⟩,c,d,f=>by subst k;exact⟨i,j++[x],rfl,l,m,n,Ez.push o c d f⟩
theorem U7(a b:ByteArray):(a==b)=(a.toList==b.toList):=beq_toListBytes a b
theorem bh{b:TypeDesc}{c d:U}{f g:Value}{i:Bool}(j:DX b c=true)(h:Iw c d=some i)(k:VR μ c f)(m:VR μ d g):Instr.sameNow b f g=some i∧(i=true→Instr.sameBits 10000 g f=true):=by
 cases c with
 |bool a=>
  cases b<;>simp only[DX] at j<;>try cases j
  cases d<;>simp only[Iw,mX] at h<;>cases h;cases k;cases m;rw[Yw];refine⟨rfl,λe=>?_⟩;show(_==_)=true;simp at e ⊢;exact e.symm
 |int c a=>
  cases b<;>simp only[DX] at j<;>try cases j
  cases d<;>simp only[Iw,eZ] at h<;>try cases h
  cases k;cases m;split at h
  · rename_i e;subst e;cases h;rw[Fi];refine⟨by simp[Instr.sameNow],λe=>?_⟩;show(_==_&&_==_)=true;simp at e ⊢;exact e.symm
  · cases h
 |str l n=>
  cases b<;>simp only[DX] at j<;>try cases j
  cases d<;>simp only[Iw,eqStr] at h<;>cases h;obtain⟨o,rfl,p⟩:=k;obtain⟨q,rfl,r⟩:=m;have s:=p.eq r;rw[←DY,←DY,←GC,←U7] at s;refine⟨congrArg some s,λe=>?_⟩;rw[←s] at e;show(q==o)=true;rw[U7] at e ⊢;simp at e ⊢;exact e.symm
 |_=>simp[DX] at j
def Aos(μ:Mu)(_es:Es)(a:List MapEntry)(b:Value)(c:Nat)(r:MW)(d:Option (Nat×Value)):Prop:=match r,d with
 |none,none=>True
 |some (v,f,j),some (g,h)=>j=g∧∃n x,j=c+n∧a[n]? =some x∧x.val=h∧VR μ v h∧x.born=f∧Instr.sameBits 10000 x.key b=true
 |_,_=>False
theorem Uy{a:TypeDesc}{b:U}{c:Value}(d:DX a b=true)(f:VR μ b c):∀{g:Es}{i:List MapEntry}(k:Nat){r:MW},Cb b g k=some r→Ez μ g i→∃l,Instr.findNow a c i k=some l∧Aos μ g i c k r l
 |[],i,k,r,h,m=>by cases h;cases(show i=[] from m);exact⟨none,rfl,trivial⟩
 |e::g,_,k,r,h,⟨x,i,o,p,s,u,w⟩=>by
  subst o;obtain⟨t,y,h⟩:=Ah (show(wz none (λt=>wg (Cb b g (vN k 1)) (some (some (e.2.1,e.2.2,k))) t) (Iw b e.1):Option MW)=some r from h);obtain⟨a,c⟩:=bh d y f p;unfold Instr.findNow;rw[a];cases t with
  |true=>cases h;exact⟨some (k,x.val),rfl,rfl,0,x,rfl,rfl,rfl,s,u.symm,c rfl⟩
  |false=>
   obtain⟨l,m,i⟩:=Uy d f (k+1) (show Cb b g (k+1)=some r from h) w;refine⟨l,m,?_⟩;cases r with
   |none=>cases l with
    |none=>trivial
    |some=>exact i.elim
   |some q=>
    obtain⟨v,o,j⟩:=q;cases l with
    |none=>exact i.elim
    |some p=>obtain⟨y,a⟩:=p;obtain⟨c,n,s,u,b,d⟩:=i;exact⟨c,n+1,s,by omega,by simpa using b,d⟩
theorem Mf{a:Env}(b:Bt P a){c:TypeId}{d:U}{f:Value}(g:VR μ d f){i:Es}{j:List MapEntry}{r:MW}(h:RQ a c d i=some r)(k:Ez μ i j):
 ∃l,(Instr.findKey c f j).run P w=.ok l w∧Aos μ i j f 0 r l∧∀m n,(Instr.checkKey m (n+1) c f).run P w=.ok () w:=by
 obtain⟨o,hi,h⟩:=Ah h;obtain⟨_,_,ty⟩:=b.ty _ _ hi;obtain⟨p,h⟩:=AK h;obtain⟨l,q,s⟩:=Uy p g 0 h k;refine⟨l,?_,s,λm n=>?_⟩
 · unfold Instr.findKey;rw[Aa ty.Pm,q];rfl
 · unfold Instr.checkKey;rw[Aa ty.Pm];cases d<;>simp only[DX] at p<;>(try cases p)<;>cases t:o.desc<;>rw[t] at p<;>simp only[wO] at p
   · cases g;rfl
   · cases g;rfl
   · obtain⟨_,rfl,_⟩:=g;rfl
theorem HQ{a:Env}(b:Bt P a){t:TypeId}{c:TypeId→TypeId→Option (U×Hp T)}{r:U×Hp T}(h:Ju a t c=some r):∃d e,P.underlying t=some (.map d e)∧c d e=some r:=by
 obtain⟨f,g,h⟩:=Ah h;obtain⟨_,_,ty⟩:=b.ty _ _ g;have i:=ty.HB;cases j:f.desc<;>rw[j] at h i<;>simp only at h<;>try cases h
 exact⟨_,_,i,h⟩
theorem GS{o:Ob T}{p:Es×Nat}(h:EJ o=some p):o=.map p.1 p.2:=by cases o<;>simp only[EJ] at h<;>cases h;rfl
theorem Bc.Pa(a:Bc μ h w){b:Go.Den.P}{c:Loc}(d:μ b=some c){f:Es}{g:Nat}(i:h.at b=.map f g):∃l j,μ b=some l∧w.heap[l.blk]? =some (.map j g)∧Ez μ f j.toList:=by have k:=a.ob b c (by rw[i];simp) d;rw[i] at k;obtain⟨j,m,n⟩:=k;exact⟨c,j,d,m,n⟩
theorem Sy{a:Env}(b:Bt P a){e:TypeId}{c:TI}(d:a.ty e=some c){z:U}(f:zeroOf c=some z):∃v,(zeroValue e).run P w=.ok v w∧VR μ z v:=by obtain⟨_,v,ty⟩:=b.ty _ _ d;exact⟨v,ty.JB,ty.Bfb μ z f⟩
theorem PF{a:Bool}{v:U}{x:Value}{t:Bool}(b:VR μ v x):VR μ (I7 a v t) (if a then .tuple #[x,.bool t] else x):=by
 cases a
 · exact b
 · exact⟨_,rfl,_,_,rfl,b,_,_,rfl,rfl,rfl⟩
theorem cm{a:Env}(b:Bt P a)(c:Bc μ h w){t:TypeId}{d f:U}{g:Bool}{r:U×Hp T}(i:BO a t d f g h=some r){k m:Value}(o:VR μ d k)(s:VR μ f m):CM P μ h w (Instr.lookup t k m g) r.1 r.2:=by
 obtain⟨u,e,y,a⟩:=HQ b i;clear i;obtain⟨p,f,i⟩:=Ah a;clear a;have:∃a:Array MapEntry,Ez μ p.1 a.toList∧(Instr.lookup t k m g).run P w=(do
  Instr.checkKey a.isEmpty 10000 u m
  let (v,b) ←match ←Instr.findKey u m a.toList with
   |some (_,v)=>pure (v,true)
   |none=>pure (←zeroValue e,false)
  pure (if g then .tuple #[v,.bool b] else v):Sem Value).run P w:=by
  cases d<;>simp only[sN] at f<;>try cases f
  · cases o;refine⟨#[],(rfl:([]:List MapEntry)=[]),?_⟩;unfold Instr.lookup;rw[Aa (AZ y)];rfl
  · obtain⟨l,a,k,m,u⟩:=c.Pa o.choose_spec.1 (GS f);obtain⟨g,d,rfl⟩:=o;rw[k] at d;cases d;refine⟨a,u,?_⟩;unfold Instr.lookup;rw[Aa (AZ y)];simp only;rw[Aa (De m (by intros;simp))];rfl
 obtain⟨a,u,f⟩:=this;obtain⟨g,o,i⟩:=Ah i;obtain⟨k,d,y,m⟩:=Mf (w:=w) b s o u;refine CM.of_run f ?_;refine CM.of_run (Aa (m _ 9999)) ?_;refine CM.of_run (Aa d) ?_;cases g with
 |none=>
  cases k with
  |some=>exact y.elim
  |none=>obtain⟨a,o,i⟩:=Ah i;obtain⟨z,s,i⟩:=Ah i;cases i;obtain⟨v,u,f⟩:=Sy (w:=w) (μ:=μ) b o s;refine .here c ?_ (PF f);simp only;rw[Aa u];rfl
 |some q=>
  cases k with
  |none=>exact y.elim
  |some m=>obtain⟨v,d,j⟩:=q;obtain⟨g,a⟩:=m;obtain⟨_,n,x,_,_,_,f,_⟩:=y;cases i;exact .here c rfl (PF f)
theorem Ui{a b:Value}(h:Instr.sameBits 10000 a b=true):(Instr.keyThatStays a b).run P w=.ok b w:=by unfold Instr.keyThatStays;rw[if_pos h];rfl
theorem toList_modify(a:Array MapEntry)(n:Nat)(f:MapEntry→MapEntry):(a.modify n f).toList=a.toList.modify n f:=by simp
theorem Mw{a6:Env}(b7:Bt P a6)(a4:Bc μ h w){t:TypeId}{a2 k x:U}{r:U×Hp T}(i:Cg a6 t a2 k x h=some r){b9 b d:Value}(b0:VR μ a2 b9)(a0:VR μ k b)(b3:VR μ x d):
 r.1=.undef∧∃a c0,(Instr.mapUpdate t b9 b d).run P w=.ok () a∧Bc c0 r.2 a∧BF μ h w c0 r.2 a:=by
 cases a2<;>simp only[Cg] at i<;>try cases i
 rename_i c1;obtain⟨d9,e,d0,b2⟩:=HQ b7 i;clear i;obtain⟨p,c8,g⟩:=Ah b2;clear b2;have a8:=GS c8;obtain⟨l,f,a1,s,u⟩:=a4.Pa b0.choose_spec.1 a8;obtain⟨d3,a9,rfl⟩:=b0;obtain rfl:l=d3:=by rw[a1] at a9;exact wU.inj a9
 obtain⟨d5,c9,g⟩:=Ah g;obtain⟨a3,c7,y,c6⟩:=Mf (w:=w) b7 a0 c9 u;have b1:(h.at c1).own=true:=by rw[a8];rfl
 have b8:∀(m:Sem Unit) a,(match a3 with
  |some (b6,_)=>do
   let key ←Instr.keyThatStays (((f[b6]?).map (·.key)).getD b) b
   setObj l.blk (.map (f.modify b6 λe=>{ e with key,val:=d }) p.2)
  |none=>setObj l.blk (.map (f.push { key:=b,val:=d,born:=p.2 }) (p.2+1)):Sem Unit).run P w=.ok () a→(Instr.mapUpdate t (.map (some l.blk)) b d).run P w=.ok () a:=by
  intro _ a c5;unfold Instr.mapUpdate;rw[Aa (AZ d0)];simp only;rw[Aa (De s (by intros;simp))];simp only;rw[Aa (c6 _ 9999),Aa c7];exact c5
 cases d5 with
 |none=>
  cases a3 with
  |some=>exact y.elim
  |none=>
   cases g;obtain⟨a,c,a5,m⟩:=a4.putObj (Pr:=P) b1 a1 s (by intros;simp) (.map (f.push { key:=b,val:=d,born:=p.2 }) (p.2+1)) (.map (Eh p.1 [(k,x,p.2)]) (vN p.2 1)) λa c=>
    ⟨_,c,by rw[If,Array.toList_push];exact u.push a0 b3 rfl⟩
   exact⟨rfl,a,μ,b8 (pure ()) a c,a5,m⟩
 |some q=>
  cases a3 with
  |none=>exact y.elim
  |some d4=>
   obtain⟨v,c2,j⟩:=q;obtain⟨d2,e0⟩:=d4;obtain⟨o,n,d6,a7,b4,d7,d8,c3,c4⟩:=y;have a7:j=n:=by omega
   subst a7;have o:j=d2:=o;subst o;have d1:f[j]? =some d6:=by rw[←Array.getElem?_toList];exact b4
   cases g;obtain⟨a,c,a5,m⟩:=a4.putObj (Pr:=P) b1 a1 s (by intros;simp) (.map (f.modify j λe=>{ e with key:=b,val:=d }) p.2) (.map (setAt (k,x,c2) j p.1) p.2) λa c=>
    ⟨_,c,by rw[toList_modify];refine u.set λz b5=>⟨a0,b3,?_⟩;rw[b4] at b5;cases b5;exact c3.symm⟩
   refine⟨rfl,a,μ,b8 (pure ()) a ?_,a5,m⟩;simp only[d1,wV,wW];rw[Aa (Ui c4)];exact c
theorem VP{a7:Env}(a3:Bt P a7)(a4:Bc μ h w){t:TypeId}{a2 k:U}{r:U×Hp T}(g:Iz a7 t a2 k h=some r){b8 b:Value}(b3:VR μ a2 b8)(y:VR μ k b):CM P μ h w (Instr.mapEntry t b8 b) r.1 r.2:=by
 cases a2<;>simp only[Iz] at g<;>try cases g
 rename_i c0;obtain⟨d9,e,c9,b5⟩:=HQ a3 g;clear g;obtain⟨p,c7,a⟩:=Ah b5;clear b5;have b1:=GS c7;obtain⟨l,d,a0,s,u⟩:=a4.Pa b3.choose_spec.1 b1;obtain⟨d3,b2,rfl⟩:=b3;obtain rfl:l=d3:=by rw[a0] at b2;exact wU.inj b2
 obtain⟨d5,c8,a⟩:=Ah a;obtain⟨m,c6,x,c4⟩:=Mf (w:=w) a3 y c8 u;have b4:(h.at c0).own=true:=by rw[b1];rfl
 have d6:(Instr.mapEntry t (.map (some l.blk)) b).run P w=((match m with
  |some (a1,v)=>do
   let key ←Instr.keyThatStays (((d[a1]?).map (·.key)).getD b) b
   setObj l.blk (.map (d.modify a1 λe=>{ e with key }) p.2)
   pure (.tuple #[v,goInt (((d[a1]?).map (·.born)).getD 0)])
  |none=>do
   let zero ←zeroValue e
   setObj l.blk (.map (d.push { key:=b,val:=zero,born:=p.2 }) (p.2+1))
   pure (.tuple #[zero,goInt p.2]):Sem Value)).run P w:=by
  unfold Instr.mapEntry;rw[Aa (AZ c9)];simp only;rw[Aa (De s (by intros;simp))];simp only;rw[Aa (c4 _ 9999),Aa c6];cases m<;>rfl
 refine CM.of_run d6 ?_;cases d5 with
 |none=>
  cases m with
  |some=>exact x.elim
  |none=>
   obtain⟨d8,c5,a⟩:=Ah a;obtain⟨z,i,a⟩:=Ah a;cases a;obtain⟨v,d0,b6⟩:=Sy (w:=w) (μ:=μ) a3 c5 i;obtain⟨f,c,a5,a6⟩:=a4.putObj (Pr:=P) b4 a0 s (by intros;simp) (.map (d.push { key:=b,val:=v,born:=p.2 }) (p.2+1)) (.map (Eh p.1 [(k,z,p.2)]) (vN p.2 1)) λf c=>
    ⟨_,c,by rw[If,Array.toList_push];exact u.push y b6 rfl⟩
   refine⟨.tuple #[v,goInt p.2],f,μ,?_,a5,a6,⟨_,rfl,_,_,rfl,b6,_,_,rfl,rfl,rfl⟩⟩;simp only;rw[Aa d0,Aa c];rfl
 |some q=>
  cases m with
  |none=>exact x.elim
  |some d4=>
   obtain⟨v,c1,j⟩:=q;obtain⟨d2,d7⟩:=d4;obtain⟨o,n,b9,a8,b7,c2,a9,b0,c3⟩:=x;have a8:j=n:=by omega
   subst a8;have o:j=d2:=o;subst o;have d1:d[j]? =some b9:=by rw[←Array.getElem?_toList];exact b7
   cases a;obtain⟨f,c,a5,a6⟩:=a4.putObj (Pr:=P) b4 a0 s (by intros;simp) (.map (d.modify j λe=>{ e with key:=b }) p.2) (.map (setAt (k,v,c1) j p.1) p.2) λf c=>
    ⟨_,c,by rw[toList_modify];refine u.set λz i=>?_;rw[b7] at i;cases i;exact⟨y,by rw[c2];exact a9,b0.symm⟩⟩
   refine⟨.tuple #[d7,goInt b9.born],f,μ,?_,a5,a6,⟨_,rfl,_,_,rfl,a9,_,_,rfl,by rw[b0];rfl,rfl⟩⟩;simp only[d1,wV,wW];rw[Aa (Ui c3),Aa c];rfl
theorem cU{a:Env}(b:Bt P a)(c:Bc μ h w){d:Array TypeId}{ty:TypeId}{f g:U}{r:U×Hp T}(i:O1 a (Cj d.toList 0) f g h=some r){k m:Value}(o:VR μ f k)(s:VR μ g m):CM P μ h w (Builtin.delete_ d ty #[k,m]) r.1 r.2:=by
 cases f<;>simp only[O1] at i<;>try cases i
 rename_i u;obtain⟨t,x,y⟩:=Ah i;clear i;have x:d[0]? =some t:=by rw[←Array.getElem?_toList,←CU];exact x
 obtain⟨a,e,g,k⟩:=HQ b y;clear y;obtain⟨p,f,i⟩:=Ah k;clear k;have a:=GS f;obtain⟨l,y,k,f,a0⟩:=c.Pa o.choose_spec.1 a;obtain⟨a1,a2,rfl⟩:=o;obtain rfl:l=a1:=by rw[k] at a2;exact wU.inj a2
 obtain⟨o,a1,i⟩:=Ah i;obtain⟨a2,a3,a4,a5⟩:=Mf (w:=w) b s a1 a0;have b:(h.at u).own=true:=by rw[a];rfl
 have s:∀u,(match a2 with
  |some (a,_)=>setObj l.blk (.map (y.eraseIdxIfInBounds a) p.2)
  |none=>setObj l.blk (.map y p.2):Sem Unit).run P w=.ok () u→(Builtin.delete_ d ty #[.map (some l.blk),m]).run P w=.ok (.tuple #[]) u:=by
  intro u a;unfold Builtin.delete_;simp only[x,xo,xp,xq];rw[Aa (AZ g)];simp only;rw[Aa (De f (by intros;simp))];simp only;rw[Aa (a5 _ 9999),Aa a3];cases a2<;>(rw[Aa a];rfl)
 cases o with
 |none=>
  cases a2 with
  |some=>exact a4.elim
  |none=>
   cases i;obtain⟨u,d,m,x⟩:=c.putObj (Pr:=P) b k f (by intros;simp) (.map y p.2) (.map p.1 p.2) λu d=>⟨_,d,a0⟩
   exact⟨_,u,μ,s u d,m,x,VR.undef μ⟩
 |some q=>
  cases a2 with
  |none=>exact a4.elim
  |some g=>
   obtain⟨v,a,j⟩:=q;obtain⟨o,a⟩:=g;obtain⟨a,n,g,a1,a3,a5,a2,a6,a7⟩:=a4;have a1:j=n:=by omega
   subst a1;have a:j=o:=a;subst a;cases i;obtain⟨u,d,m,x⟩:=c.putObj (Pr:=P) b k f (by intros;simp) (.map (y.eraseIdxIfInBounds j) p.2) (.map (cI j p.1) p.2) λu d=>
    ⟨_,d,by
     have:(y.eraseIdxIfInBounds j).toList=y.toList.eraseIdx j:=by simp
     rw[this];exact a0.del j⟩
   exact⟨_,u,μ,s u d,m,x,VR.undef μ⟩
theorem PE:∀{a:Es}{b:List MapEntry}{c:Nat},Lp c a=true→Ez μ a b→∀{v:U}{d:Value},VR μ v d→
    ∃f,b.findIdx? (λe=>(e.born:Int)==(c:Int))=some f∧Ez μ (ID c v a) (b.modify f λe=>{ e with val:=d })
  |[],_,_,h,_,_,_,_=>by cases h
  |e::a,_,c,h,⟨x,b,g,i,j,k,l⟩,v,d,m=>by
    subst g;cases n:vS e.2.2 c with
    |true=>
      have o:x.born=c:=by rw[←k];exact Bh n
      refine⟨0,by rw[xA,if_pos (by rw[o];simp)],?_⟩;have:ID c v (e::a)=(e.1,v,c)::a:=by show(wg (e::ID c v a) ((e.1,v,c)::a) (vS e.2.2 c):Es)=_;rw[n]
      rw[this];exact⟨{ x with val:=d },b,rfl,i,m,o.symm,l⟩
    |false=>
      have o:x.born≠c:=by rw[←k];intro p;rw[p,wZ] at n;cases n
      have q:Lp c a=true:=by have h:or (vS e.2.2 c) (Lp c a)=true:=h;rw[n] at h;exact h
      obtain⟨f,hi,r⟩:=PE q l m;refine⟨f+1,?_,?_⟩
      · rw[xA,hi];rw[if_neg (by intro p;exact o (Int.ofNat.inj (by simpa using p)))];rfl
      · have:ID c v (e::a)=e::ID c v a:=by show(wg (e::ID c v a) ((e.1,v,c)::a) (vS e.2.2 c):Es)=_;rw[n]
        rw[this];exact⟨x,_,rfl,i,j,k,r⟩
theorem Tg(a:Bc μ h w){t:TypeId}{b c x:U}{r:U×Hp T}(d:GU b (Bf c) x h=some r){f g i:Value}(j:VR μ b f)(k:VR μ c g)(m:VR μ x i):
 r.1=.undef∧∃n o,(Instr.entryStore t f g i).run P w=.ok () n∧Bc o r.2 n∧BF μ h w o r.2 n:=by
 cases b<;>simp only[GU] at d<;>try cases d
 rename_i q;obtain⟨s,u,v⟩:=Ah d;clear d;obtain⟨y,rfl⟩:=FP u k;obtain⟨p,c,f⟩:=Ah v;clear v;obtain⟨g,f⟩:=AK f;cases f;have o:=GS c;obtain⟨l,b,d,k,u⟩:=a.Pa j.choose_spec.1 o;obtain⟨v,f,rfl⟩:=j;obtain rfl:l=v:=by rw[d] at f;exact wU.inj f
 have c:(h.at q).own=true:=by rw[o];rfl
 obtain⟨j,hi,v⟩:=PE g u m;obtain⟨n,f,q,o⟩:=a.putObj (Pr:=P) c d k (by intros;simp) (.map (b.modify j λe=>{ e with val:=i }) p.2) (.map (ID s x p.1) p.2) λn f=>
  ⟨_,f,by rw[toList_modify];exact v⟩
 refine⟨rfl,n,μ,?_,q,o⟩;unfold Instr.entryStore;simp only;rw[Aa (De k (by intros;simp))];simp only;rw[Aa (show(asInt (.int y (s:Int))).run P w=.ok (s:Int) w from rfl)];have:b.findIdx? (λe=>(e.born:Int)==(s:Int))=some j:=by rw[←hi,←List.findIdx?_toArray]
 rw[this];exact f
theorem kX{j:Env}(a1:Bt P j)(a2:Bc μ h w){f:Array TypeId}{ty:TypeId}{x:U}{r:U×Hp T}(u:GM j (Cj f.toList 0) (λe m=>TC x h e m)=some r){a3:Value}(a0:VR μ x a3):CM P μ h w (Builtin.clear_ f ty #[a3]) r.1 r.2:=by
 obtain⟨t,d,v⟩:=Ah u;clear u;have d:f[0]? =some t:=by rw[←Array.getElem?_toList,←CU];exact d
 obtain⟨e,m,y,a6,b⟩:=GX a1 v;clear v;obtain⟨_,z,k⟩:=a1.ty _ _ a6;cases x<;>simp only[TC] at b<;>try cases b
 case Af=>cases a0;refine .here a2 (v:=.tuple #[]) ?_ (VR.undef μ);unfold Builtin.clear_;simp only[d,xo,xp];rw[Aa (AZ y)];rfl
 case slice b6 o n c1 c0=>
  obtain⟨a5,b⟩:=AK b;obtain⟨p,g⟩:=Ao a5;have p:=Bh p;have g:=Bh g;rw[BU] at g;obtain⟨a4,b2,b⟩:=Ah b;cases b;obtain⟨a,b7,rfl,b9,⟨_,_,a9⟩,a8⟩:=a0;have b3:=(k.cells μ).length;simp only[Array.length_toList] at b3;have b1:=Oc (k.cells μ) n;obtain⟨l,i,b8,s,c,b4,b5,a7⟩:=a2.write (Pr:=P) (good:=λo=>o=some a4) (bad:=none) (λe=>nomatch e) (k:=some) a9 b2 b1 (Kk k.Mr n);cases a7;refine⟨.tuple #[],i,μ,?_,b4,b5,VR.undef μ⟩;unfold Builtin.clear_;simp only[d,xo,xp];rw[Aa (AZ y)];cases n with
  |zero=>
   have:Lb z.cells (0*z.cells.size)=#[]:=by rw[xl];apply Array.ext';simp[Lb]
   rw[this] at c;have c:(Result.ok () w:Result Unit)=.ok () i:=c;cases c;rfl
  |succ n=>
   obtain⟨q,b0,rfl,_⟩:=a8.resolve_left (by omega);obtain rfl:q=l:=by rw[b0] at s;exact wU.inj s
   simp only;rw[Aa k.JB];rw[Aa (show(storeCells ⟨q.blk,q.off+o,none⟩ (Builtin.zeroCells z.cells (n+1)).toList).run P w=.ok () i from c)];rfl
end
end Go.Den
namespace Go.Den
open Go.RowKit
structure Bgl(I:FI):Prop where
 init:∀l t,I.get (I.init l) t=l.getD t .undef
 set:∀f t v u,I.get (I.set f t v) u=if u=t then v else I.get f u
 force:∀{α:Type}(f:I.T)(k:I.T→α),I.force f k=k f
theorem Kc(μ:Mu):∀(n:Nat)(v:Value),HR n v=true→VR μ (HS n v) v:=by
 intro n;induction n with
 |zero=>intro v b;cases b
 |succ n c=>
  have d:∀l:List Value,l.all (HR n)=true→BN μ (l.map (HS n)) l:=by
   intro l;induction l with
   |nil=>intro _;exact(rfl:([]:List Value)=[])
   |cons v l f=>intro b;rw[List.all_cons,vK] at b;exact⟨v,l,rfl,c v b.1,f b.2⟩
  intro v b;cases v<;>simp only[HR] at b<;>try (cases b;done)
  · exact rfl
  · exact rfl
  · exact Pp μ _
  · rename_i a;cases a<;>first|exact rfl|(simp only[wO] at b)
  · rename_i a l g;cases a with
    |some a=>simp only[wO] at b
    |none=>
     cases l with
     |succ l=>simp only[wO] at b
     |zero=>
      cases g with
      |succ g=>simp only[wO] at b
      |zero=>exact rfl
  · rename_i a;cases a<;>first|exact rfl|(simp only[wO] at b)
  · exact rfl
  · exact rfl
  · rw[vK] at b;exact⟨_,rfl,d _ b.1,b.2⟩
  · exact⟨_,rfl,d _ b⟩
def DE(μ:Mu)(G:Nat):Prop:=∀g,g<G→∃l,μ (CH g)=some l∧l.blk=g∧l.off=0
theorem DE.mono{μ c:Mu}{G:Nat}(h:Mu.le μ c)(g:DE μ G):DE c G:=λd hi=>let ⟨l,a,b⟩:=g d hi;⟨l,h _ _ a,b⟩
def CS(G:Nat)(o:Operand):Bool:=match o with
 |.tmp _=>true
 |.const v=>Ol v
 |.global g=>Nat.blt g G
 |.func _=>true
section
variable{α:Type}{P:Program}{μ:Mu}
theorem Ot{C:Cx α}{G:Nat}(b:DE μ G){o:Operand}(c:CS G o=true){f:C.I.T}{a:Act}(d:∀t,o=.tmp t→VR μ (C.I.get f t) (a.tmps.getD t undef)):VR μ (eval C o f) (a.eval o):=by
 cases o with
 |tmp t=>exact d t rfl
 |const v=>show VR μ (BB (ofValue v) (λv=>v)) v;rw[BI];exact Kc μ 3 v c
 |global g=>obtain⟨l,h,i,j⟩:=b g (by simpa[CS] using c);refine⟨l,h,?_⟩;show Value.pointer (some ⟨g,0,none⟩)=_;rw[i,j]
 |func fn=>exact⟨.func fn,#[],#[],rfl,rfl,(rfl:([]:List Value)=[]),(rfl:([]:List Value)=[]),trivial⟩
end
theorem Cd{a:Type}{C:Cx a}{good:a→Prop}(b:¬good C.bad){c:K a C.I.T}{o:Option (U×Hp C.I.T)}(d:good (B2 C c o)):∃v f,o=some (v,f)∧good (c v f):=by unfold B2 at d;obtain⟨p,g,d⟩:=H9 b d;obtain⟨v,⟨h,n⟩⟩:=p;refine⟨v,⟨h,n⟩,g,?_⟩;have d:good (BB v (λv=>FK h (λh=>c v ⟨h,n⟩))):=d;rwa [BI,FQ] at d
theorem JP{a:Type}{good:a→Prop}{b:a}(c:¬good b){v:U}{d:P→Nat→a}(f:good (Ko.rec b d (IX v))):∃g o,v=.ptr g o∧good (d g o):=by cases v<;>first|exact absurd f c|exact⟨_,_,rfl,f⟩
theorem Y2{a:Type}{b:a→Prop}{c:a}(d:¬b c){v:U}{f:Bool→a}(g:b (MJ.rec c f (I6 v))):∃h,v=.bool h∧b (f h):=by cases v<;>first|exact absurd g d|exact⟨_,rfl,g⟩
section
variable{α:Type}{C:Cx α}{P:Program}{μ:Mu}{h:Hp C.I.T}{w:World}{good:α→Prop}{o:Oper}{a:Act}
 {k:K α C.I.T} {next:Act→World→Prop} {Q:Exit→Act→World→Prop}
abbrev Fo(ro:Option Nat):Fence:={ Fence.wide with round:=ro }
theorem Tx{a:Option Nat}{n:Nat}{P:Program}{f:FuncId}{b:Array Value}{w:World}{c:Ending→World→Prop}(h:Calls P f b w c):CallsIn (Fo a) n P f b w c:=callsIn_wide.2 h
theorem Ff{b:Option Nat}{P:Program}{o:Oper}{a:Act}{w:World}{next:Act→World→Prop}{Q:Exit→Act→World→Prop}(c:∀d,o.op≠.defer d)(h:o.uponIn (Fo b) 0 P a next Q ((execOp a.eval o).run P w)):o.wpIn (Fo b) 0 P a w next Q:=
 ⟨λ_ _=>trivial,by rw[Oper.semAt_eq _ _ _ c];exact h⟩
def Pn(C:Cx α)(μ:Mu)(h:Hp C.I.T)(w:World)(good:α→Prop)(k:K α C.I.T)(a:Act)(b:Option Tmp)(next:Act→World→Prop):Prop:=
 ∀(c:Mu)(av:U)(d:Hp C.I.T)(v:Value)(f:World),Bc c d f→BF μ h w c d f→VR c av v→good (k av d)→next (a.put b v) f
theorem Pn.value{b:Option Nat}(c:Pn C μ h w good k a o.dst next){sm:Sem Value}{av:U}{d:Hp C.I.T}(f:execOp a.eval o=(do pure (.value (←sm))))(g:CM P μ h w sm av d)(i:good (k av d))(j:∀l,o.op≠.defer l:=by intro l h;cases h):o.wpIn (Fo b) 0 P a w next Q:=by obtain⟨v,m,n,p,q,x,r⟩:=g;refine Ff j ?_;rw[f,Aa p];exact c _ _ _ _ _ q x r i
theorem Pn.skip{b:Option Nat}(d:Pn C μ h w good k a o.dst next){f:Sem Unit}{g:Mu}{i:Hp C.I.T}{w':World}(j:execOp a.eval o=(do f;pure .skip))(l:f.run P w=.ok () w')(m:Bc g i w')(x:BF μ h w g i w')(n:good (k .undef i))(p:∀c,o.op≠.defer c:=by intro c h;cases h):o.wpIn (Fo b) 0 P a w next Q:=by refine Ff p ?_;rw[j,Aa l];exact d _ _ _ _ _ m x (VR.undef g) n
theorem Pn.here{b:Option Nat}(c:Pn C μ h w good k a o.dst next)(d:Bc μ h w){av:U}{v:Value}(f:(execOp a.eval o).run P w=.ok (.value v) w)(g:VR μ av v)(i:good (k av h))(hd:∀j,o.op≠.defer j:=by intro j h;cases h):o.wpIn (Fo b) 0 P a w next Q:=by refine Ff hd ?_;rw[f];exact c _ _ _ _ _ d (.refl _ _ _) g i
end
end Go.Den
namespace Go.Den
open Go.RowKit
section
variable{T:Type}{P:Program}{w:World}{μ:Mu}{h:Hp T}
theorem Za{a:Env}(b:Bt P a)(c:Bc μ h w){d:Builtin}{f:Array TypeId}{ty:TypeId}{cs:Array Bool}{g:List U}{r:U×Hp T}(i:AB a d f.toList g h=some r){j:Array Value}(k:BN μ g j.toList):
 ∃sm,builtin d f ty cs j=(do pure (.value (←sm)))∧CM P μ h w sm r.1 r.2:=by
 obtain⟨l⟩:=j
 match g,k with
 |[],k=>cases i
 |[x],k=>
  obtain⟨m,n,rfl,o,k⟩:=k;cases(show n=[] from k);have i:bi1 a d f.toList x h=some r:=i;cases d<;>simp only[bi1] at i<;>try (cases i;done)
  · exact⟨_,rfl,jE b c i o⟩
  · exact⟨_,rfl,kX b c i o⟩
  · exact⟨_,rfl,kM b c i o⟩
  · exact⟨_,rfl,TY c i o⟩
 |[x,p],k=>
  obtain⟨m,n,rfl,o,k⟩:=k;obtain⟨q,n,rfl,s,k⟩:=k;cases(show n=[] from k);have i:bi2 a d f.toList x p h=some r:=i;cases d<;>simp only[bi2] at i<;>try (cases i;done)
  · exact⟨_,rfl,dW b c i o s⟩
  · exact⟨_,rfl,sV b c i o s⟩
  · exact⟨_,rfl,cU b c i o s⟩
  · exact⟨_,rfl,Ahu c i o s⟩
  · exact⟨_,rfl,Ahg c i o s⟩
  · exact⟨_,rfl,OH b c i o s⟩
 |_::_::_::_,k=>cases i
end
def Aat(G:Nat)(l:List Operand):Bool:=l.all (CS G)
def RZ(fn:Fn):Bool:=match fn with
 |.yield _=>false
 |_=>true
def Lz(_P:Program)(a:Env)(G:Nat)(o:Op):Bool:=Aat G o.operands.toList&&match o with
 |.convert b _ _=>(a.ty b).isSome
 |.slice _ _ _ hi c=>!c.isSome||hi.isSome
 |.makeFunc fn _ _=>RZ fn
 |_=>true
section
variable{α:Type}
def fR(P:Program)(a:Array Value)(b:World)(c:Fn)(d:Ending→World→Prop):Prop:=∃l f g h i,c=.yield l∧(Instr.yield l a).run P b=.ok (.round l f g h i) b∧RoundIn (Fo none) 0 P l f g h i b d
theorem Aal{a:Option Nat}{P:Program}{l:Nat}{f:FuncId}{b:Array Value}{c d:Code}{g:World}{h:Ending→World→Prop}(i:RoundIn (Fo none) 0 P l f b c d g h):RoundIn (Fo a) 0 P l f b c d g h:=i
def C4(P:Program)(C:Cx α)(G:Nat)(good:α→Prop)(a:Oh α C.I.T):Prop:=
  ∀(μ:Mu)(b:Hp C.I.T)(c:World)(fn d:Fn)(g:List U)(h:Array Value)(i:K α C.I.T),Bc μ b c→DE μ G→LC μ fn d→BN μ g h.toList→good (a fn g b i)→
    (∃f,d=.func f∧
    ((∃v j k av l,(callFunc f h).run P c=.ok (.value v) j∧Bc k l j∧BF μ b c k l j∧VR k av v∧good (i av l))∨
     ((callFunc f h).run P c=.ok (.enter f h) c∧Calls P f h c λe j=>∃v k av l,e=.returned v∧Bc k l j∧BF μ b c k l j∧VR k av v∧good (i av l))))∨
    fR P h c d λe j=>∃v k av l,e=.returned v∧Bc k l j∧BF μ b c k l j∧VR k av v∧good (i av l)
theorem Ek{C:Cx α}{f:C.I.T}(l:List Operand):∀(a:List U→α),EO C f l a=a (l.map λx=>eval C x f):=by
 induction l with
 |nil=>intro a;rfl
 |cons x l b=>intro a;show BB (eval C x f) (λv=>EO C f l (λl=>a (v::l)))=_;rw[BI,b];rfl
theorem IV{C:Cx α}{f:C.I.T}(l:List (Nat×Operand)):Fe C f l=l.map λp=>(p.1,eval C p.2 f):=by
 induction l with
 |nil=>rfl
 |cons x l a=>show _::Fe C f l=_;rw[a];rfl
variable{C:Cx α}{P:Program}{μ:Mu}{h:Hp C.I.T}{w:World}{good:α→Prop}{o:Oper}{a:Act}
 {k:K α C.I.T} {next:Act→World→Prop} {Q:Exit→Act→World→Prop} {G:Nat} {f:C.I.T}
theorem BN.map{C:Cx α}{f:C.I.T}:∀{l:List Operand},(∀x∈l,VR μ (eval C x f) (a.eval x))→BN μ (l.map λx=>eval C x f) (l.map a.eval)
 |[],_=>(rfl:([]:List Value)=[])
 |x::l,b=>⟨_,_,rfl,b x (by simp),BN.map λc d=>b c (by simp[d])⟩
theorem ER.map{C:Cx α}{f:C.I.T}:∀{l:List (Nat×Operand)},(∀x∈l.map (·.2),VR μ (eval C x f) (a.eval x))→ER μ (l.map λp=>(p.1,eval C p.2 f)) (l.map λp=>(p.1,a.eval p.2))
 |[],_=>.nil
 |x::l,b=>.cons (b x.2 (by simp)) (ER.map λc d=>b c (by simp at d ⊢;exact .inr d))
theorem Uc{C:Cx α}{f:C.I.T}(x:Option Operand):Ip C f x=Ky (x.map λx=>eval C x f):=by cases x<;>rfl
theorem GG.of{C:Cx α}{f:C.I.T}{x:Option Operand}(b:∀c,x=some c→VR μ (eval C c f) (a.eval c)):GG μ (x.map λx=>eval C x f) (x.map a.eval):=by
 cases x with
 |none=>trivial
 |some c=>exact b c rfl
end
end Go.Den
namespace Go.Den
open Go.RowKit
section
variable{α:Type}{C:Cx α}{P:Program}{μ:Mu}{h:Hp C.I.T}{w:World}{good:α→Prop}{o:Oper}{a:Act}
 {k:K α C.I.T} {next:Act→World→Prop} {Q:Exit→Act→World→Prop} {G:Nat} {f:C.I.T}
theorem Zx{P:Program}{a:Env}(b:Bt P a){t:TypeId}{c:String}{d:FuncId}(g:Td a t c=some d){v:Value}{h:Array Value}{w:World}:
 (invoke (.fn (.method c) #[]) (#[.iface t v]++h)).run P w=(callFunc d (#[v]++h)).run P w:=by
 unfold Td at g;split at g
 · rename_i i hi;obtain⟨j,z,k⟩:=b.ty t i hi;split at g
   · rename_i l m;split at g
     · rename_i n;split at g
       · rename_i f o p;have q:j.methods.find? (λl=>l.name==c)=some l:=by rw[k.Avl] at m;simpa using m
         have r:l.path.toList=[]:=n;have s:(method (P.types.size+Made.depth) t v c).run P w=.ok (d,v) w:=by
          show(method ((P.types.size+99)+1) t v c).run P w=_;unfold method;rw[Aa (FZ k.info),q];simp only[r];rw[Aa (show(follow [] t (.val v)).run P w=.ok (t,.val v) w from rfl)];simp only[p];have u:=k.Pm (w:=w);cases o with
          |true=>
           have g:(wg none (some f) (Q7 i.desc):Option FuncId)=some d:=g;cases x:i.desc with
           |pointer e=>
            rw[x] at g u;cases g;refine Aa (a:=v) (w':=w) ?_ |>.trans rfl
            unfold receiverAt;rw[Aa u];rfl
           |_=>rw[x] at g;cases g
          |false=>
           have g:(wg none (some f) (not (Q7 i.desc)):Option FuncId)=some d:=g;cases x:i.desc<;>rw[x] at g u<;>first|(cases g;done)|skip
           all_goals
            cases g;refine Aa (a:=v) (w':=w) ?_ |>.trans rfl
            unfold receiverAt;rw[Aa u];rfl
         show(do
          let some y := (#[Value.iface t v] ++ h)[0]? | stuck "call: a method without a receiver"
          callMethod y c ((#[Value.iface t v]++h).extract 1 (#[Value.iface t v]++h).size)).run P w=_
         have a:(#[Value.iface t v]++h)[0]? =some (.iface t v):=by rw[Array.getElem?_append_left (show 0<(#[Value.iface t v]:Array Value).size from Nat.zero_lt_one)];rfl
         have b:(#[Value.iface t v]++h).extract 1 (#[Value.iface t v]++h).size=h:=by apply Array.ext';simp
         rw[a,b];show(callMethod (.iface t v) c h).run P w=_;unfold callMethod;rw[Aa (show program.run P w=.ok P w from rfl),Aa s]
       · cases g
     · cases g
   · cases g
 · cases g
theorem TT{g1:Option Nat}(j:¬good C.bad)(a1:Bt P C.E){call:Oh α C.I.T}(e7:C4 P C G good call)(b6:Lz P C.E G o.op=true)
 (d:∀x∈o.op.operands.toList,VR μ (eval C x f) (a.eval x)) (m:Bc μ h w) (e6:DE μ G) (b:good (exec o.op C call f h k)) (i:Pn C μ h w good k a o.dst next):o.wpIn (Fo g1) 0 P a w next Q:=by
 obtain⟨d2,op,b3,pos,d1,d3⟩:=o;cases op
 case move x=>have b:good (BB (eval C x f) (λv=>k v h)):=b;rw[BI] at b;exact i.here m rfl (d x (by simp[Op.operands])) b
 case assign x=>have b:good (BB (eval C x f) (λv=>k v h)):=b;rw[BI] at b;exact i.here m rfl (d x (by simp[Op.operands])) b
 case pick a4 x g=>
  have b:good (MJ.rec C.bad (λt=>wg (BB (eval C g f) (λv=>k v h)) (BB (eval C x f) (λv=>k v h)) t) (I6 (eval C a4 f))):=b;obtain⟨p,f3,b⟩:=Y2 j b;have a8:=d a4 (by simp[Op.operands]);rw[f3] at a8;have a8:a.eval a4=.bool p:=a8;cases p with
  |true=>have b:good (BB (eval C x f) (λv=>k v h)):=b;rw[BI] at b;refine i.here m (v:=a.eval x) ?_ (d x (by simp[Op.operands])) b;unfold execOp;simp only[a8];rfl
  |false=>have b:good (BB (eval C g f) (λv=>k v h)):=b;rw[BI] at b;refine i.here m (v:=a.eval g) ?_ (d g (by simp[Op.operands])) b;unfold execOp;simp only[a8];rfl
 case alloc e=>obtain⟨v,s,c,b⟩:=Cd j (show good (B2 C k (Nh e (C.E.ty e) h)) from b);exact i.value rfl (Zt a1 m c) b
 case box e x=>have b:good (BB (eval C x f) (λv=>wg C.bad (h.Bu (rowOf e v.cells) (λp h=>k (.ptr p 0) h)) (vU 1 (len v.cells)))):=b;rw[BI] at b;obtain⟨f6,b⟩:=Mj j b;rw[Hf] at b;exact i.value rfl (Akf m e (d x (by simp[Op.operands])) f6) b
 case build t c7=>obtain⟨v,s,c,b⟩:=Cd j (show good (B2 C k (AF C.E (C.E.ty t) (Fe C f c7.toList) h)) from b);rw[IV] at c;refine i.value rfl (jo a1 m ?_ c) b;have:=ER.map (μ:=μ) (a:=a) (C:=C) (f:=f) (l:=c7.toList) λx u=>d x (by simpa[Op.operands] using u);simpa using this
 case buildSlice t n c7=>obtain⟨v,s,c,b⟩:=Cd j (show good (B2 C k (AE C.E t (λe d6=>Ap n (Fe C f c7.toList) h e d6))) from b);rw[IV] at c;refine i.value rfl (RH a1 m ?_ c) b;have:=ER.map (μ:=μ) (a:=a) (C:=C) (f:=f) (l:=c7.toList) λx u=>d x (by simpa[Op.operands] using u);simpa using this
 case insert t b1 x g=>obtain⟨v,s,c,b⟩:=Cd j (show good (B2 C k (Cg C.E t (eval C b1 f) (eval C x f) (eval C g f) h)) from b);obtain⟨a7,b9,c4,a5,a2,a3⟩:=Mw (P:=P) a1 m c (d b1 (by simp[Op.operands])) (d x (by simp[Op.operands])) (d g (by simp[Op.operands]));have a7:v=.undef:=a7;subst a7;exact i.skip rfl a5 a2 a3 b
 case load t x=>obtain⟨p,b8,b5,b⟩:=JP j (show good (Ko.rec C.bad (λp b8=>wz C.bad (λb0=>JS C h k p b8 b0) (C.E.ty t)) (IX (eval C x f))) from b);obtain⟨b0,hi,b⟩:=H9 j b;have u:=d x (by simp[Op.operands]);rw[b5] at u;obtain⟨av,c3,a9,a0,b⟩:=TS (P:=P) a1 j m hi b u;exact i.value rfl (.here m a9 a0) b
 case store t x g=>obtain⟨p,b8,b5,b⟩:=JP j (show good (Ko.rec C.bad (λp b8=>wz C.bad (λb0=>BB (eval C g f) (λv=>HE C h k p b8 v b0)) (C.E.ty t)) (IX (eval C x f))) from b);obtain⟨b0,hi,b⟩:=H9 j b;rw[BI] at b;have u:=d x (by simp[Op.operands]);rw[b5] at u;obtain⟨b9,s,c,a2,a3,b⟩:=cg (P:=P) a1 j m hi b u (d g (by simp[Op.operands]));exact i.skip rfl c a2 a3 b
 case nilCheck x=>obtain⟨v,s,c,d9⟩:=Cd j (show good (B2 C k (Ag (eval C x f) h)) from b);clear b;obtain⟨c3,a9,a0,e⟩:=Agr (P:=P) (w:=w) (ρ:=a.eval) (o:=⟨d2,.nilCheck x,b3,pos,d1,d3⟩) rfl (d x (by simp[Op.operands])) c;have e:s=h:=e;subst e;exact i.here m a9 a0 d9
 case binOp p t x g q=>obtain⟨v,c,b⟩:=H9 j (show good (wz C.bad (λv=>k v h) (Ps C.E p t x g (eval C x f) (eval C g f))) from b);obtain⟨c3,a9,a0⟩:=qm (w:=w) a1 c (d x (by simp[Op.operands])) (d g (by simp[Op.operands]));exact i.value rfl (.here m a9 a0) b
 case unOp p t x=>obtain⟨v,c,b⟩:=H9 j (show good (wz C.bad (λv=>k v h) (Z7 p (eval C x f))) from b);obtain⟨c3,a9,a0⟩:=Ago (P:=P) (w:=w) c (d x (by simp[Op.operands]));exact i.value rfl (.here m a9 a0) b
 case convert f0 a6 x=>
  obtain⟨v,s,c,b⟩:=Cd j (show good (B2 C k (D4 C.E h f0 a6 (eval C x f))) from b);have a8:(C.E.ty f0).isSome=true:=by simp only[Lz,vK] at b6;exact b6.2
  exact i.value rfl (Yu a1 m (d x (by simp[Op.operands])) a8 c) b
 case makeInterface t x=>obtain⟨v,s,c,b⟩:=Cd j (show good (B2 C k (Il C.E t (eval C x f) h)) from b);exact i.value rfl (Zc a1 m c (d x (by simp[Op.operands]))) b
 case makeFunc fn c9 d0=>
  have b:good (EO C f c9.toList (λa=>EO C f d0.toList (λp=>k (.func fn a p) h))):=b;rw[Ek,Ek] at b;have d4:LC μ fn fn:=by
   have b5:RZ fn=true:=by simp only[Lz,vK] at b6;exact b6.2
   cases fn<;>first|exact rfl|cases b5
  have c5:BN μ (c9.toList.map λx=>eval C x f) (c9.map a.eval).toList:=by rw[Array.toList_map];exact BN.map λx u=>d x (by simp[Op.operands] at u ⊢;exact .inl u)
  have c1:BN μ (d0.toList.map λx=>eval C x f) (d0.map a.eval).toList:=by rw[Array.toList_map];exact BN.map λx u=>d x (by simp[Op.operands] at u ⊢;exact .inr u)
  have a0:VR μ (.func fn (c9.toList.map λx=>eval C x f) (d0.toList.map λx=>eval C x f)) (.func fn (c9.map a.eval) (d0.map a.eval)):=⟨fn,_,_,rfl,d4,c5,c1,by
   have b5:RZ fn=true:=by simp only[Lz,vK] at b6;exact b6.2
   cases fn<;>first|exact trivial|cases b5⟩
  exact i.here m rfl a0 b
 case makeMap t r=>
  cases r with
  |some=>exact absurd b j
  |none=>have b:good (h.Bu (.map [] 0) (λp h=>k (.map p) h)):=b;rw[Hf] at b;exact i.value rfl (Yp m t) b
 case makeSlice t x g=>obtain⟨v,s,c,b⟩:=Cd j (show good (B2 C k (AE C.E t (λe d6=>Eg (Bf (eval C x f)) (Bf (eval C g f)) h e d6))) from b);exact i.value rfl (Ua a1 m (d x (by simp[Op.operands])) (d g (by simp[Op.operands])) c) b
 case slice t x lo hi e2=>
  obtain⟨v,s,c,d9⟩:=Cd j (show good (B2 C k (wz none (λb1=>C3 h (FO C.E h t (eval C x f) (Ip C f lo) (Ip C f hi) b1)) (maxOf (Ip C f e2)))) from b);obtain⟨b1,c6,c⟩:=Ah c;obtain⟨c,e⟩:=Fj c;have e:s=h:=e;subst e;rw[Uc] at c6 c;rw[Uc] at c;have f8:(e2.map a.eval).isSome=true→(hi.map a.eval).isSome=true:=by simp only[Lz,vK] at b6;intro c5;have c1:=b6.2;simp only[Option.isSome_map] at c5 ⊢;rw[c5] at c1;simpa using c1
  obtain⟨c3,a9,a0⟩:=eI (P:=P) a1 m (d x (by simp[Op.operands]))
   (GG.of (μ:=μ) (a:=a) (C:=C) (f:=f) (x:=lo) λg e=>d g (by simp[Op.operands,e]))
   (GG.of (μ:=μ) (a:=a) (C:=C) (f:=f) (x:=hi) λg e=>d g (by simp[Op.operands,e]))
   (GG.of (μ:=μ) (a:=a) (C:=C) (f:=f) (x:=e2) λg e=>d g (by simp[Op.operands,e])) f8 c6 c
  exact i.value rfl (.here m a9 a0) d9
 case fieldAddr t x b0=>obtain⟨p,b8,b5,b⟩:=JP j (show good (Ko.rec C.bad (λp b8=>wz C.bad (λo=>k (.ptr p (vN b8 o)) h) (LJ C.E t b0)) (IX (eval C x f))) from b);obtain⟨q,f7,b⟩:=H9 j b;have u:=d x (by simp[Op.operands]);rw[b5] at u;obtain⟨c3,a9,a0⟩:=Yk (P:=P) (w:=w) a1 f7 u;exact i.value rfl (.here m a9 a0) b
 case field t x b0=>obtain⟨v,s,c,b⟩:=Cd j (show good (B2 C k (Jt C.E t (eval C x f) b0 h)) from b);exact i.value rfl (jD a1 m c (d x (by simp[Op.operands]))) b
 case indexAddr t x g=>obtain⟨v,s,c,b⟩:=Cd j (show good (B2 C k (Ef C.E t (eval C x f) (Bf (eval C g f)) h)) from b);exact i.value rfl (Y0 a1 m c (d x (by simp[Op.operands])) (d g (by simp[Op.operands]))) b
 case index t x g=>obtain⟨v,s,c,b⟩:=Cd j (show good (B2 C k (Hl C.E t (eval C x f) (Bf (eval C g f)) h)) from b);exact i.value rfl (kf a1 m c (d x (by simp[Op.operands])) (d g (by simp[Op.operands]))) b
 case lookup t x g p=>obtain⟨v,s,c,b⟩:=Cd j (show good (B2 C k (BO C.E t (eval C x f) (eval C g f) p h)) from b);exact i.value rfl (cm a1 m c (d x (by simp[Op.operands])) (d g (by simp[Op.operands]))) b
 case mapUpdate t b1 x g=>obtain⟨v,s,c,b⟩:=Cd j (show good (B2 C k (Cg C.E t (eval C b1 f) (eval C x f) (eval C g f) h)) from b);obtain⟨a7,b9,c4,a5,a2,a3⟩:=Mw (P:=P) a1 m c (d b1 (by simp[Op.operands])) (d x (by simp[Op.operands])) (d g (by simp[Op.operands]));have a7:v=.undef:=a7;subst a7;exact i.skip rfl a5 a2 a3 b
 case mapEntry t x g=>obtain⟨v,s,c,b⟩:=Cd j (show good (B2 C k (Iz C.E t (eval C x f) (eval C g f) h)) from b);exact i.value rfl (VP a1 m c (d x (by simp[Op.operands])) (d g (by simp[Op.operands]))) b
 case entryStore t b1 x g=>obtain⟨v,s,c,b⟩:=Cd j (show good (B2 C k (GU (eval C b1 f) (Bf (eval C x f)) (eval C g f) h)) from b);obtain⟨a7,b9,c4,a5,a2,a3⟩:=Tg (P:=P) (t:=t) m c (d b1 (by simp[Op.operands])) (d x (by simp[Op.operands])) (d g (by simp[Op.operands]));have a7:v=.undef:=a7;subst a7;exact i.skip rfl a5 a2 a3 b
 case range t x=>obtain⟨v,s,c,b⟩:=Cd j (show good (B2 C k (NY C.E t (eval C x f) h)) from b);exact i.value rfl (jG a1 m c (d x (by simp[Op.operands]))) b
 case next x p=>obtain⟨v,s,c,b⟩:=Cd j (show good (B2 C k (QQ (eval C x f) p h)) from b);exact i.value rfl (ud m c (d x (by simp[Op.operands]))) b
 case entry x=>obtain⟨v,s,c,b⟩:=Cd j (show good (B2 C k (NS (eval C x f) h)) from b);exact i.value rfl (lg m c (d x (by simp[Op.operands]))) b
 case typeAssert x t c3 p=>obtain⟨v,s,c,b⟩:=Cd j (show good (B2 C k (Ma C.E c3 (eval C x f) p h)) from b);exact i.value rfl (dq a1 m c (d x (by simp[Op.operands]))) b
 case extract x b0=>obtain⟨v,s,c,b⟩:=Cd j (show good (B2 C k (Ir (eval C x f) b0 h)) from b);exact i.value rfl (YQ m c (d x (by simp[Op.operands]))) b
 case call a4=>
  have f2:∀x∈a4.args.toList,VR μ (eval C x f) (a.eval x):=λx u=>d x (by obtain⟨d5,y,b2⟩:=a4;cases d5<;>simp[Op.operands,Call.operands] at u ⊢<;>simp[u]);have e0:BN μ (a4.args.toList.map λx=>eval C x f) (a4.args.map a.eval).toList:=by rw[Array.toList_map];exact BN.map f2
  obtain⟨d5,y,b2⟩:=a4;cases d5 with
  |invoke x b7=>
   have b:good (EO C f y.toList (λl=>O9 C call (eval C x f) b7 l h k)):=b;rw[Ek] at b;have u:=d x (by simp[Op.operands,Call.operands]);generalize eval C x f=fv at b u;cases fv<;>try exact absurd b j
   rename_i t g;obtain⟨c8,e,e1⟩:=u;have b:good (match Td C.E t b7 with|some c0=>call (.func c0) (g::(y.toList.map λx=>eval C x f)) h k|none=>C.bad):=b;cases c6:Td C.E t b7 with
   |none=>rw[c6] at b;exact absurd b j
   |some c0=>
    rw[c6] at b;have d8:=e7 μ h w (.func c0) (.func c0) _ (#[c8]++y.map a.eval) k m e6 rfl (by simp only[Array.toList_append];exact BN.append (as:=[g]) (vs:=[c8]) ⟨c8,[],rfl,e1,rfl⟩ e0) b;have a5:(execOp a.eval ⟨d2,.call ⟨.invoke x b7,y,b2⟩,b3,pos,d1,d3⟩).run P w=(callFunc c0 (#[c8]++y.map a.eval)).run P w:=by show(do let a6 ←resolve a.eval ⟨.invoke x b7,y,b2⟩ b3;invoke a6.target a6.args:Sem Next).run P w=_;rw[show resolve a.eval ⟨.invoke x b7,y,b2⟩ b3=pure { target:=.fn (.method b7) #[],args:=#[.iface t c8]++y.map a.eval } from by show(pure { target:=.fn (.method b7) #[],args:=#[a.eval x]++y.map a.eval }:Sem Deferred)=_;rw[e],Aa run_pure];exact Zx a1 c6
    rcases d8 with⟨e4,f4,a8⟩|⟨l,c0,g2,as,f1,f5,c,e9⟩
    · cases f4;rcases a8 with⟨v,b9,c4,av,s,c,a2,a3,a0,b4⟩|⟨c,d7⟩
      · refine Ff (by intro a4 h;cases h) ?_;rw[a5,c];exact i _ _ _ _ _ a2 a3 a0 b4
      · refine Ff (by intro a4 h;cases h) ?_;rw[a5,c];refine⟨λh=>xm h,Tx (Calls.mono d7 λe b9 c2=>?_)⟩;obtain⟨v,c4,av,s,rfl,a2,a3,a0,b4⟩:=c2;exact i _ _ _ _ _ a2 a3 a0 b4
    · cases f5
  |builtin p=>have b:good (EO C f y.toList (λl=>B2 C k (AB C.E p b2.toList l h))):=b;rw[Ek] at b;obtain⟨v,s,c,b⟩:=Cd j b;obtain⟨sm,c2,a6⟩:=Za (P:=P) (ty:=b3) (cs:=y.map λ|.const _=>true|_=>false) a1 m c e0;exact i.value (sm:=sm) c2 a6 b
  |value x=>
   have b:good (EO C f y.toList (λl=>HZ C call (eval C x f) l h k)):=b;rw[Ek] at b;have u:=d x (by simp[Op.operands,Call.operands]);generalize eval C x f=fv at b u;cases fv<;>try exact absurd b j
   rename_i fn first e3
   obtain⟨e5,vs,ws,e,d4,c5,c1,e1⟩:=u;have b:good (call fn (first++(y.toList.map λx=>eval C x f)++e3) h k):=b;have d8:=e7 μ h w fn e5 _ (vs++y.map a.eval++ws) k m e6 d4 (by simp only[Array.toList_append];exact(c5.append e0).append c1) b;have e8:∀t,t=e5→resolve a.eval ⟨.value x,y,b2⟩ b3=pure { target:=.fn t ws,args:=vs++y.map a.eval }:=by intro t f9;show Deferred.ofValue (a.eval x) (y.map a.eval)=_;rw[e,f9];rfl
   rcases d8 with⟨e4,rfl,a8⟩|⟨l,c0,g2,as,f1,rfl,c,e9⟩
   · have a5:(execOp a.eval ⟨d2,.call ⟨.value x,y,b2⟩,b3,pos,d1,d3⟩).run P w=(callFunc e4 (vs++y.map a.eval++ws)).run P w:=by show(do let a6 ←resolve a.eval ⟨.value x,y,b2⟩ b3;invoke a6.target a6.args:Sem Next).run P w=_;rw[e8 _ rfl,Aa run_pure];rfl
     rcases a8 with⟨v,b9,c4,av,s,c,a2,a3,a0,b4⟩|⟨c,d7⟩
     · refine Ff (by intro a4 h;cases h) ?_;rw[a5,c];exact i _ _ _ _ _ a2 a3 a0 b4
     · refine Ff (by intro a4 h;cases h) ?_;rw[a5,c];refine⟨λh=>xm h,Tx (Calls.mono d7 λe b9 c2=>?_)⟩;obtain⟨v,c4,av,s,rfl,a2,a3,a0,b4⟩:=c2;exact i _ _ _ _ _ a2 a3 a0 b4
   · have g0:ws=#[]:=by
      cases fn<;>try exact d4.elim
      cases(show e3=[] from e1);have:ws.toList=[]:=c1;exact Array.toList_eq_nil_iff.1 this
     have a5:(execOp a.eval ⟨d2,.call ⟨.value x,y,b2⟩,b3,pos,d1,d3⟩).run P w=(Instr.yield l (vs++y.map a.eval++ws)).run P w:=by show(do let a6 ←resolve a.eval ⟨.value x,y,b2⟩ b3;invoke a6.target a6.args:Sem Next).run P w=_;rw[e8 _ rfl,Aa run_pure,g0,Array.append_empty];rfl
     refine Ff (by intro a4 h;cases h) ?_;rw[a5,c];refine⟨λh=>xm h,RoundIn.mono (Aal e9) λe b9 c2=>?_⟩;obtain⟨v,c4,av,s,rfl,a2,a3,a0,b4⟩:=c2;exact i _ _ _ _ _ a2 a3 a0 b4
 all_goals exact absurd b j
end
end Go.Den
