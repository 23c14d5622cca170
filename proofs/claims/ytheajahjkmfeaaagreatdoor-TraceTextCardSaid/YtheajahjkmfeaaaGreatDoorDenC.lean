/-
 Proof.
-/
import Derived.Test.YtheajahjkmfeaaaGreatDoorDenB
import Derived.Lib.UnsafeStr
import Derived.CallsIn
import Derived.TacticsIn
noncomputable section
namespace Go.Den
open Go.RowKit
section
variable{T:Type}{P:Program}{w:World}{μ:Mu}{h:Hp T}
theorem Fi.of_run{s t:Sem Value}{a:AV}{h':Hp T}(hr:s.run P w=t.run P w)(d:Fi P μ h w t a h'):Fi P μ h w s a h':=by
 obtain⟨v,w',μ',h1,h2⟩:=d
 exact⟨v,w',μ',hr.trans h1,h2⟩
theorem EsR.length{μ:Mu}:∀{a:Es}{es:List MapEntry},EsR μ a es→es.length=a.length
 |[],_,r=>by rw[show _=[] from r];rfl
 |_::_,_,⟨x,xs,e,_,_,_,h⟩=>by subst e;simp[EsR.length h]
theorem Et{r:Nat}{o:Obj}(hb:w.heap[r]? =some o)(hn:∀c e f,o≠.cells c e f):(getObj r).run P w=.ok o w:=by
 unfold getObj
 cases o<;>first|exact absurd rfl (hn _ _ _)|simp only[Sem.run,hb]
theorem Akd{r:Nat}{o:Obj}(x:Obj)(hb:w.heap[r]? =some o)(hn:∀c e f,o≠.cells c e f):
 ∃w',(setObj r x).run P w=.ok () w'∧w'.heap.size=w.heap.size∧(∀k,k≠r→w'.heap[k]? =w.heap[k]?)∧w'.heap[r]? =some x∧w'.os=w.os∧w'.tape=w.tape∧w'.output=w.output:=by
 refine⟨{ w with heap:=w.heap.setIfInBounds r x },?_,?_,?_,?_,rfl,rfl,rfl⟩
 · unfold setObj
   cases o<;>first|exact absurd rfl (hn _ _ _)|simp only[Sem.run,hb]
 · simp
 · intro k hk;simp only[Array.getElem?_setIfInBounds];rw[if_neg (fun e=>hk e.symm)]
 · have:r<w.heap.size:=(Array.getElem?_eq_some_iff.1 hb).1
   simp[this]
theorem Sim.putObj{Pr:Program}(s:Sim μ h w){b:Go.Den.P}{l:Loc}{o':Obj}(ho:(h.at b).own=true)(hl:μ b=some l)(hb:w.heap[l.blk]? =some o')(hn:∀c e f,o'≠.cells c e f)(x:Obj)(o:Ob T)
 (hx:∀w':World,w'.heap[l.blk]? =some x→ObR μ w' l o):∃w',(setObj l.blk x).run Pr w=.ok () w'∧Sim μ (h.put b o) w'∧Dc μ h w μ (h.put b o) w':=by
 obtain⟨w',hr,h1,h2,h3,h4,h5,h6⟩:=Akd (P:=Pr) x hb hn
 exact⟨w',hr,s.put ho hl o w' h1 h2 (hx w' h3) h4 h5 h6⟩
theorem Ak9{s:ByteArray}{pos c:Nat}(h:s[pos]? =some (UInt8.ofNat c))(hc:c<128):Utf8.decode s pos=(c,1):=by
 have hlt:pos<s.size:=by
  rcases Nat.lt_or_ge pos s.size with h'|h'
  · exact h'
  · rw[getElem?_neg s pos (by omega)] at h;cases h
 have hget:(s.get! pos).toNat=c:=by
  rw[getElem?_pos s pos hlt] at h
  have e:s.get! pos=s[pos]:=by
   show s.data[pos]! =s.data[pos]
   rw[getElem!_pos]
  rw[e,Option.some.inj h];simp;omega
 unfold Utf8.decode
 simp only[Nat.add_zero,hget]
 rw[if_pos hc]
theorem A0o(s:Sim μ h w){a:AV}{b:Bool}{ty:TypeId}{r:AV×Hp T}(hr:Af9 a b h=some r){vx:Value}(hx:VR μ a vx):Fi P μ h w (Instr.next vx b ty) r.1 r.2:=by
 cases a<;>simp only[Af9] at hr<;>try cases hr
 rename_i p o
 cases hat:h.at p<;>rw[hat] at hr<;>simp only at hr<;>try cases hr
 rename_i l c pos
 obtain⟨hb,hr⟩:=Av hr
 obtain⟨hb1,hb2⟩:=Al hb
 obtain rfl:=hb1
 obtain rfl:=Bo hb2
 obtain⟨q,hq,rfl⟩:=hx
 have hob:=s.ob p q (by rw[hat];simp) hq
 rw[hat] at hob
 obtain⟨str,hblk,hstr,hoff⟩:=hob
 unfold Apl at hr
 unfold Instr.next
 simp only[hoff,Nat.zero_add]
 refine Fi.of_run (Aa (Et hblk (by intros;simp))) ?_
 simp only
 by_cases hlt:pos<str.size
 · have:Nat.ble (Nat.add pos 1) l=true:=Nat.ble_eq_true_of_le (by rw[hstr.1];exact hlt)
   rw[this] at hr
   obtain⟨h128,hr⟩:=Sg (show(Bool.rec (some (.tuple [.bool true,.int .i64 (.ofNat pos),.int .i32 (.ofNat (Fw c pos))],h.put p (.iter l c (Nat.add pos 1)))) none (Nat.ble 128 (Fw c pos)):Option (AV×Hp T))=some r from hr)
   cases hr
   obtain⟨hg,_⟩:=hstr.get (show pos<l by rw[hstr.1];exact hlt)
   have hc:Fw c pos<128:=by
    rw[Om] at h128
    simpa using h128
   rw[if_pos hlt,Ak9 hg hc]
   obtain⟨w',hw',s',x'⟩:=s.putObj (Pr:=P) (by rw[hat];rfl) hq hblk (by intros;simp) (.stringIter str (pos+1)) (.iter l c (Nat.add pos 1)) fun w' hw'=>⟨str,hw',hstr,hoff⟩
   refine⟨.tuple #[.bool true,goInt pos,.int .i32 (Fw c pos:Nat)],w',μ,?_,s',x',_,rfl,_,_,rfl,rfl,_,_,rfl,rfl,_,_,rfl,rfl,rfl⟩
   simp only
   rw[Aa hw'];rfl
 · have:Nat.ble (Nat.add pos 1) l=false:=by
    rw[Om,hstr.1];simp;show str.size<pos+1;omega
   rw[this] at hr
   cases hr
   rw[if_neg hlt]
   exact .here s (v:=.tuple #[.bool false]) rfl ⟨_,rfl,_,_,rfl,rfl,rfl⟩
theorem Aim:∀(l:List Nat),Au7 l=l.getLast?
 |[]=>rfl
 |[x]=>rfl
 |x::y::l=>by
  show Au7 (y::l)=_
  rw[Aim (y::l),List.getLast?_cons_cons]
theorem Ai0{μ:Mu}(n:Nat):∀{es:List (AV×AV×Nat)}{xs:List MapEntry},EsR μ es xs→∀{e},Av1 n es=some e→∃x,xs.find? (·.born==n)=some x∧VR μ e.1 x.key∧VR μ e.2.1 x.val
 |[],_,_,e,h=>by cases h
 |a::es,_,⟨x,xs,rfl,h1,h2,h3,h4⟩,e,h=>by
  have h:(Bool.rec (Av1 n es) (some a) (Nat.beq a.2.2 n):Option _)=some e:=h
  rw[List.find?_cons,←h3]
  cases hb:Nat.beq a.2.2 n with
  |true=>
   rw[hb] at h;cases h
   have:=Bo hb
   refine⟨x,?_,h1,h2⟩
   rw[show(a.2.2==n)=true from by simpa using this]
  |false=>
   rw[hb] at h
   have hne:¬a.2.2=n:=fun e=>by rw[e,Nat.beq_refl] at hb;cases hb
   rw[show(a.2.2==n)=false from by simpa using hne]
   exact Ai0 n h4 h
theorem Awl(s:Sim μ h w){a:AV}{r:AV×Hp T}(hr:Yz a h=some r){vx:Value}(hx:VR μ a vx):Fi P μ h w (Instr.entry vx) r.1 r.2:=by
 cases a<;>simp only[Yz] at hr<;>try cases hr
 rename_i p o
 cases hat:h.at p<;>rw[hat] at hr<;>simp only at hr<;>try cases hr
 rename_i m since seen stepped
 obtain⟨hb,hr⟩:=Av hr
 obtain rfl:=Bo hb
 obtain⟨q,hq,hr⟩:=Af (show Ai1 (Kt (h.at m)) seen stepped h=some r from hr)
 obtain⟨hck,hr⟩:=Av hr
 obtain⟨n,hn,hr⟩:=Af hr
 obtain⟨e,he,hr⟩:=Af hr
 cases hr
 obtain⟨l,hl,rfl⟩:=hx
 have hob:=s.ob p l (by rw[hat];simp) hl
 rw[hat] at hob
 obtain⟨lm,hlm,hblk,hoff⟩:=hob
 have hatm:h.at m=.map q.1 q.2:=by cases hat:h.at m<;>rw[hat] at hq<;>simp only[Kt] at hq<;>cases hq;rfl
 have hobm:=s.ob m lm (by rw[hatm];simp) hlm
 rw[hatm] at hobm
 obtain⟨xs,hblkm,hes⟩:=hobm
 obtain⟨x,hx,h1,h2⟩:=Ai0 n hes he
 refine .here s (v:=.tuple #[x.key,x.val]) ?_ ⟨_,rfl,_,_,rfl,h1,_,_,rfl,h2,rfl⟩
 unfold Instr.entry
 simp only[hoff,Nat.zero_add]
 rw[Aa (Et hblk (by intros;simp))]
 simp only
 have hback:seen.toArray.back? =some n:=by rw[←Array.getLast?_toList];rw[←Aim];exact hn
 rw[hback]
 simp only
 rw[Aa (Et hblkm (by intros;simp))]
 simp only
 have hck:=Bo hck
 rw[if_neg (by simp[hck])]
 have hx':xs.find? (·.born==n)=some x:=by rw[←Array.find?_toList];exact hx
 rw[hx'];rfl
theorem Ax3{E:Env}(ok:Cg P E)(s:Sim μ h w){ats:Array TypeId}{ty:TypeId}{x:AV}{r:AV×Hp T}(hr0:Qc E ats.toList x h=some r){vx:Value}(hx:VR μ x vx):Fi P μ h w (Builtin.len_ ats ty #[vx]) r.1 r.2:=by
 obtain⟨t,ht,hr1⟩:=Af hr0
 clear hr0
 obtain⟨ti,hti,hr⟩:=Af hr1
 clear hr1
 obtain⟨_,_,k⟩:=ok.ty _ _ hti
 have hu:=k.und
 have ht:ats[0]? =some t:=by rw[←Array.getElem?_toList,←Eo];exact ht
 have go:∀(v:Value)(z:Int),((do
  match ti.desc,vx with
  |.string,.string s=>pure (goInt s.size)
  |.array n _,_=>pure (goInt n)
  |.pointer arr,_=>
   let .array n _ ← underlying arr | stuck "len: pointer to array expected"
   pure (goInt n)
  |.slice _,.slice _ n _=>pure (goInt n)
  |.map _ _,.map none|.chan _ _,.chan none=>pure (goInt 0)
  |.map _ _,.map (some r)=>
   let .map entries _ ← getObj r | stuck "len: map expected"
   pure (goInt entries.size)
  |.chan _ _,.chan (some r)=>
   let .chan _ buf _ _ _ timer ← getObj r | stuck "len: channel expected"
   pure (goInt (if timer then 0 else buf.size))
  | _, _ => stuck "len: string, array, pointer to array, slice, map or channel expected" : Sem Value)).run P w = .ok v w → (Builtin.len_ ats ty #[vx]).run P w = .ok v w := fun v z hv => by
  unfold Builtin.len_
  simp only[ht,List.getElem?_toArray,List.getElem?_cons_zero]
  rw[Aa (Bh hu)]
  exact hv
 cases hd:ti.desc<;>rw[hd] at hr go<;>simp only[Au4] at hr<;>try cases hr
 case string=>
  cases x<;>simp only at hr<;>cases hr
  obtain⟨str,rfl,hstr⟩:=hx
  refine .here s (go (goInt str.size) 0 rfl) ?_
  rw[hstr.1];exact rfl
 case slice e=>
  cases x<;>simp only at hr<;>cases hr
  · cases hx;exact .here s (go (goInt 0) 0 rfl) rfl
  · obtain⟨_,_,rfl,_⟩:=hx
    exact .here s (go _ 0 rfl) rfl
 case map kt e=>
  cases x<;>simp only at hr<;>try cases hr
  · cases hx;exact .here s (go (goInt 0) 0 rfl) rfl
  · rename_i b
    obtain⟨p,hp,hr⟩:=Af hr
    cases hr
    obtain⟨l,hl,rfl⟩:=hx
    have hat:h.at b=.map p.1 p.2:=by cases hat:h.at b<;>rw[hat] at hp<;>simp only[Kt] at hp<;>cases hp;rfl
    have hob:=s.ob b l (by rw[hat];simp) hl
    rw[hat] at hob
    obtain⟨xs,hblk,hes⟩:=hob
    refine .here s (go (goInt xs.size) 0 ?_) ?_
    · simp only
      rw[Aa (Et hblk (by intros;simp))];rfl
    · rw[De,←EsR.length hes];exact rfl
 case array n e=>exact .here s (go (goInt n) 0 rfl) rfl
 case pointer a=>
  obtain⟨p,hp,hr⟩:=Af hr
  cases hr
  refine .here s (go (goInt p.1) 0 ?_) rfl
  simp only
  rw[Aa (Bh (Sk ok hp))];rfl
end
end Go.Den
namespace Go.Den
open Go.RowKit
section
variable{T:Type}{P:Program}{w:World}{μ:Mu}{h:Hp T}
theorem Ax4{E:Env}(ok:Cg P E)(s:Sim μ h w){ats:Array TypeId}{ty:TypeId}{x:AV}{r:AV×Hp T}(hr0:A4d E ats.toList x h=some r){vx:Value}(hx:VR μ x vx):Fi P μ h w (Builtin.cap_ ats ty #[vx]) r.1 r.2:=by
 obtain⟨hs,hr⟩:=Av hr0
 clear hr0
 unfold A8f at hs
 cases ht:Ej ats.toList 0 with
 |none=>rw[ht] at hs;cases hs
 |some t=>
  rw[ht] at hs
  have hs:(Option.rec false (fun _=>true) (Sb E t):Bool)=true:=hs
  cases he:Sb E t with
  |none=>rw[he] at hs;cases hs
  |some e=>
   have ht:ats[0]? =some t:=by rw[←Array.getElem?_toList,←Eo];exact ht
   obtain⟨ti,hti,he⟩:=Af he
   obtain⟨_,_,k⟩:=ok.ty _ _ hti
   have hu:=k.und
   cases hd:ti.desc<;>rw[hd] at he hu<;>simp only at he<;>cases he
   cases x<;>simp only[A19] at hr<;>try cases hr
   · cases hx
     refine .here s (v:=goInt 0) ?_ rfl
     unfold Builtin.cap_
     simp only[ht,List.getElem?_toArray,List.getElem?_cons_zero]
     rw[Aa (Bh hu)];rfl
   · rename_i b o n sz tg
     cases tg<;>simp only at hr<;>cases hr
     obtain⟨a,cap,rfl,_,hcap,_⟩:=hx
     refine .here s (v:=goInt n) ?_ rfl
     unfold Builtin.cap_
     simp only[ht,List.getElem?_toArray,List.getElem?_cons_zero]
     rw[Aa (Bh hu),hcap.1 rfl];rfl
theorem A7s(s:Sim μ h w){ats:Array TypeId}{ty:TypeId}{x y:AV}{r:AV×Hp T}(hr0:Fm h (max2 x y)=some r){vx vy:Value}(hx:VR μ x vx)(hy:VR μ y vy):Fi P μ h w (Builtin.max_ ats ty #[vx,vy]) r.1 r.2:=by
 obtain⟨hr,h2⟩:=Io hr0
 clear hr0
 rw[h2]
 cases x<;>simp only[max2] at hr<;>try cases hr
 cases y<;>simp only at hr<;>try cases hr
 rename_i k a k' b
 cases hx;cases hy
 have e:=hr
 refine .here s (v:=.int k (if b>a then b else a)) ?_ ?_
 · rfl
 · have:r.1=.int k (Bool.rec a b (Ca a b)):=(Option.some.inj e).symm
   rw[this,Jv]
   show Value.int k _=Value.int k _
   by_cases hlt:a<b<;>simp[hlt]
theorem A7r(s:Sim μ h w){ats:Array TypeId}{ty:TypeId}{x y:AV}{r:AV×Hp T}(hr0:Fm h (min2 x y)=some r){vx vy:Value}(hx:VR μ x vx)(hy:VR μ y vy):Fi P μ h w (Builtin.min_ ats ty #[vx,vy]) r.1 r.2:=by
 obtain⟨hr,h2⟩:=Io hr0
 clear hr0
 rw[h2]
 cases x<;>simp only[min2] at hr<;>try cases hr
 cases y<;>simp only at hr<;>try cases hr
 rename_i k a k' b
 cases hx;cases hy
 have e:=hr
 refine .here s (v:=.int k (if b<a then b else a)) ?_ ?_
 · rfl
 · have:r.1=.int k (Bool.rec a b (Ca b a)):=(Option.some.inj e).symm
   rw[this,Jv]
   show Value.int k _=Value.int k _
   by_cases hlt:b<a<;>simp[hlt]
theorem Ad6(s:Sim μ h w){ats:Array TypeId}{ty:TypeId}{x:AV}{r:AV×Hp T}(hr:Hi x h=some r){vx:Value}(hx:VR μ x vx):Fi P μ h w (Builtin.unsafeSliceData_ ats ty #[vx]) r.1 r.2:=by
 cases x<;>simp only[Hi] at hr<;>try cases hr
 · cases hx;exact .here s (v:=.pointer none) rfl rfl
 · rename_i b o n sz tg
   cases n<;>simp only at hr<;>cases hr
   obtain⟨a,cap,rfl,hn,_,hl⟩:=hx
   obtain⟨q,hq,rfl,_⟩:=hl.resolve_left (by omega)
   obtain⟨c,rfl⟩:∃c,cap=c+1:=⟨cap-1,by omega⟩
   exact .here s (v:=.pointer (some ⟨q.blk,q.off+o,none⟩)) rfl ⟨q,hq,rfl⟩
theorem Aji(s:ByteArray)(n:Nat):((s.extract 0 n).data.map fun b=>Value.int .u8 b.toNat).toList=(s.data.toList.map fun b=>Value.int .u8 b.toNat).take n:=by
 rw[ByteArray.data_extract]
 simp
theorem Jx{_E:Env}(s:Sim μ h w){sz:Nat}{x:AV}{p:Nat×List AV}(hr:Ck h sz x=some p){vx:Value}(hx:VR μ x vx):
 (Builtin.lenOf vx).run P w=.ok p.1 w∧p.2.length=p.1*sz∧p.2.all AV.one=true∧∀n,n≤p.1→∃cs,(Builtin.firstCells sz n vx).run P w=.ok cs w∧VRs μ (p.2.take (n*sz)) cs.toList:=by
 cases x<;>simp only[Ck] at hr<;>try cases hr
 case Ai=>
  cases hx
  refine⟨rfl,by simp,rfl,fun n _=>⟨#[],rfl,?_⟩⟩
  rw[List.take_nil];exact(rfl:([]:List Value)=[])
 case str l c=>
  obtain⟨hz,hr⟩:=Av hr
  cases hr
  obtain rfl:=Bo hz
  obtain⟨str,rfl,rfl,rfl⟩:=hx
  refine⟨rfl,by rw[Ni];simp,Rj _ _,fun n _=>⟨_,rfl,?_⟩⟩
  rw[Aji,Nat.mul_one]
  exact(Vv μ str).take n
 case slice b o n z tg=>
  obtain⟨hz,hr⟩:=Av hr
  obtain⟨cs,hcs,hr⟩:=Af hr
  cases hr
  obtain rfl:=Bo hz
  obtain⟨a,cap,rfl,hn,⟨_,_,hm0⟩,hl⟩:=hx
  obtain⟨l',vs,e',fz,as,hl',hrow,_,hle,hv,ho,hlen,hg⟩:=s.read (good:=fun o=>o=some cs) (bad:=none) (fun e=>nomatch e) (k:=some) hm0 hcs
  cases hg
  refine⟨rfl,hlen,ho,fun m hm=>?_⟩
  have hmz:m*z≤n*z:=Nat.mul_le_mul_right _ hm
  by_cases h0:m*z=0
  · refine⟨#[],?_,?_⟩
    · show(loadCells a (m*z)).run P w=_
      rw[h0];rfl
    · rw[h0,List.take_zero];exact(rfl:([]:List Value)=[])
  · have:cap≠0:=fun e=>by
     have:n=0:=by omega
     subst this
     have:m=0:=by omega
     subst this
     exact h0 (by simp)
    obtain⟨q,hq,rfl,_⟩:=hl.resolve_left this
    obtain rfl:q=l':=by rw[hq] at hl';exact Option.some.inj hl'
    have hle:q.off+o+n*z≤vs.size:=hle
    refine⟨_,run_loadCells hrow (m*z) (by omega),?_⟩
    have:=hv.take (m*z)
    simp only[Array.toList_extract,List.extract_eq_take_drop] at this ⊢
    rw[List.take_take] at this
    rw[show q.off+o+m*z-(q.off+o)=m*z from by omega]
    rw[show min (m*z) (q.off+o+Nat.mul n z-(q.off+o))=m*z from by
     have:Nat.mul n z=n*z:=rfl
     omega] at this
    exact this
theorem A1y {E : Env} (ok : Cg P E) (s : Sim μ h w) {ats : Array TypeId} {ty : TypeId} {x y : AV} {r : AV × Hp T} (hr0 : Lf E (Ej ats.toList 0) (fun e ei => Av9 x y h e ei) = some r) {vx vy : Value} (hx : VR μ x vx) (hy : VR μ y vy) :
    Fi P μ h w (Builtin.copy_ ats ty #[vx, vy]) r.1 r.2 := by
  obtain ⟨t, ht, hr1⟩ := Af hr0
  clear hr0
  have ht : ats[0]? = some t := by rw [← Array.getElem?_toList, ← Eo]; exact ht
  obtain ⟨e, ei, hu, he, hr2⟩ := Ku ok hr1
  clear hr1
  obtain ⟨_, _, k⟩ := ok.ty _ _ he
  obtain ⟨p, hp, hr⟩ := Af hr2
  clear hr2
  obtain ⟨hlen, hpl, hone, hcells⟩ := Jx (P := P) (_E := E) s hp hy
  have start : ∀ (base : Option Addr) (dLen cap : Nat), vx = .slice base dLen cap → ∀ (cs : Array Value), (Builtin.firstCells ei.size (Nat.min p.1 dLen) vy).run P w = .ok cs w →
      (Builtin.copy_ ats ty #[vx, vy]).run P w = (do if let some a := base then storeCells a cs.toList
                                                     pure (goInt (Nat.min p.1 dLen)) : Sem Value).run P w := by
    intro base dLen cap e1 cs hcs
    subst e1
    unfold Builtin.copy_
    simp only [ht, List.getElem?_toArray, List.getElem?_cons_zero, List.getElem?_cons_succ]
    rw [Aa (Bh hu)]
    simp only
    rw [Aa hlen, Aa k.rsize, Aa hcs]
    cases base <;> rfl
  cases x <;> simp only at hr <;> try cases hr
  case Ai =>
    cases hx
    obtain ⟨cs, hcs, _⟩ := hcells (Nat.min p.1 0) (Nat.min_le_left _ _)
    refine .here s (v := goInt 0) ?_ rfl
    rw [start none 0 0 rfl cs hcs, show Nat.min p.1 0 = 0 from Nat.min_zero _]
    rfl
  case slice b o n z tg =>
    obtain ⟨hz, hr⟩ := Av hr
    have hz := Bo hz
    obtain ⟨a, cap, rfl, hn, ⟨_, _, hm0⟩, hl⟩ := hx
    -- how many, and the write
    have fin : ∀ (m : Nat) (as : List AV), Nat.min p.1 n = m → as = p.2.take (m * ei.size) → A8i m (h.write b o as) = some r → Fi P μ h w (Builtin.copy_ ats ty #[.slice (some a) n cap, vy]) r.1 r.2 := by
      intro m as hm has hr
      obtain ⟨h', hw, hr⟩ := Af hr
      cases hr
      obtain ⟨cs, hcs, hv⟩ := hcells m (by rw [← hm]; exact Nat.min_le_left _ _)
      rw [← has] at hv
      have hone' : as.all AV.one = true := by
        rw [has, List.all_eq_true]
        intro x hx
        exact (List.all_eq_true.1 hone) x (List.mem_of_mem_take hx)
      obtain ⟨l, w', h'', hl', hrun, s', x', hg⟩ := s.write (Pr := P) (good := fun o => o = some h') (bad := none) (fun e => nomatch e) (k := some) hm0 hw hv hone'
      cases hg
      refine ⟨goInt m, w', μ, ?_, s', x', rfl⟩
      rw [start (some a) n cap rfl cs (by rw [hm]; exact hcs), hm]
      by_cases h0 : cap = 0
      · -- nothing is stored
        subst h0
        have hn0 : n = 0 := by omega
        subst hn0
        have hm0 : m = 0 := by rw [← hm]; exact Nat.min_zero _
        subst hm0
        have hcs0 : cs.toList = [] := by
          have := hv.length
          rw [has] at this
          simpa using this
        rw [hcs0] at hrun ⊢
        have hrun : (Result.ok () w : Result Unit) = .ok () w' := hrun
        cases hrun
        rfl
      · obtain ⟨q, hq, rfl, _⟩ := hl.resolve_left h0
        rw [hq] at hl'; cases hl'
        simp only
        rw [Aa hrun]; rfl
    cases hb : Nat.ble p.1 n with
    | true =>
      rw [hb] at hr
      have hb := Bu hb
      refine fin p.1 p.2 (Nat.min_eq_left hb) ?_ hr
      rw [← hpl, List.take_length]
    | false =>
      rw [hb] at hr
      have hb : ¬ p.1 ≤ n := fun h' => by rw [Nat.ble_eq_true_of_le h'] at hb; cases hb
      refine fin n _ (Nat.min_eq_right (by omega)) ?_ hr
      rw [Ahd]; rfl
end
end Go.Den
namespace Go.Den
open Go.RowKit
section
variable{T:Type}{P:Program}{w:World}{μ:Mu}{h:Hp T}
theorem Aku{E:Env}(ok:Cg P E){ats:Array TypeId}{zf:Bool}(hz:Akv E (Ej ats.toList 1)=some zf):∃t d,ats[1]? =some t∧P.underlying t=some d∧Ow d=zf:=by
 obtain⟨t,ht,hz⟩:=Af hz
 obtain⟨ti,hti,hz⟩:=Af hz
 obtain⟨_,_,k⟩:=ok.ty _ _ hti
 cases hz
 exact⟨t,ti.desc,by rw[←Array.getElem?_toList,←Eo];exact ht,k.und,rfl⟩
def Nt(size:Nat)(e:TypeId)(zeros:Bool)(n:Nat)(vx:Value):Sem (Array Value):=
 if !zeros then Builtin.firstCells size n vx
 else if n*size=0 then pure #[]
 else do pure (Builtin.zeroCells (←zeroValue e).cells n)
theorem Alw{ats:Array TypeId}{ty t t1 e:TypeId}{d1:TypeDesc}(ht:ats[0]? =some t)(ht1:ats[1]? =some t1)(hu:P.underlying t=some (.slice e))(hu1:P.underlying t1=some d1)
 {ti:TypeInfo} (hinfo:P.info? e=some ti) {base:Option Addr} {sLen sCap:Nat} {vx:Value} {k:Nat}
 (hk:(Ow d1=false∧(Builtin.lenOf vx).run P w=.ok k w)∨(Ow d1=true∧(∃kk,vx=.int kk (k:Int))∧k≤1099511627776∧k*ti.bytes≤281474976710656))
 (hneed:sLen+k≤1099511627776) (hbytes:(sLen+k)*ti.bytes≤140737488355328):
 (Builtin.append_ ats ty #[.slice base sLen sCap,vx]).run P w=
  if sLen+k≤sCap then(do
   let new ←Nt ti.size e (Ow d1) k vx
   if let some a:=base then storeCells (a.add (sLen*ti.size)) new.toList
   pure (.slice base (sLen+k) sCap):Sem Value).run P w
  else(do
   let old ←Builtin.firstCells ti.size sLen (.slice base sLen sCap)
   let new ←Nt ti.size e (Ow d1) k vx
   let rest:=Builtin.zeroCells (←zeroValue e).cells (grownCap w (sLen+k) sCap e-(sLen+k))
   pure (.slice (some (←newRow e (old++new++rest))) (sLen+k) (grownCap w (sLen+k) sCap e)):Sem Value).run P w.drew:=by
 have hs:(sizeOf e).run P w=.ok ti.size w:=by unfold sizeOf;rw[Aa (Jz hinfo)];rfl
 have hi:(typeInfo e).run P w=.ok ti w:=Jz hinfo
 unfold Builtin.append_
 simp only[ht,ht1,List.getElem?_toArray,List.getElem?_cons_zero,List.getElem?_cons_succ]
 rw[Aa (Bh hu)]
 simp only
 rw[Aa hs]
 rw[Aa (Bh hu1)]
 refine Eq.trans (Aa (a:=Ow d1) (w':=w) ?_) ?_
 · clear hk hu1
   cases d1<;>rfl
 have h1:∀z:Prop,¬(((sLen+k:Nat):Int)>IntKind.i64.max∧(z∨ti.bytes=0)):=by
  rintro z ⟨h,_⟩
  have:IntKind.i64.max=9223372036854775807:=rfl
  rw[this] at h
  omega
 have hi':(typeInfo e).run P w.drew=.ok ti w.drew:=Jz hinfo
 have hch:(choose (.appendCap (sLen+k) sCap e)).run P w=.ok (grownCap w (sLen+k) sCap e) w.drew:=by
  rw[run_choose_drew];rfl
 have h2:¬sLen+k≤sCap→¬(Builtin.nextslicecap (sLen+k) sCap*ti.bytes>2^48):=by
  intro hle
  have hnc:=nextslicecap_le (need:=sLen+k) (old:=sCap) (by omega)
  have:Builtin.nextslicecap (sLen+k) sCap*ti.bytes≤2*(sLen+k)*ti.bytes:=Nat.mul_le_mul_right _ hnc
  rw[Nat.mul_assoc] at this
  omega
 rcases hk with⟨h3,h4⟩|⟨h3,⟨kk,rfl⟩,h4,h5⟩
 · rw[h3,if_neg (by simp),Aa h4]
   by_cases hle:sLen+k≤sCap
   · rw[if_pos hle,if_pos hle]
     cases base<;>rfl
   · rw[if_neg hle,if_neg hle]
     rw[Aa hi,if_neg (h1 _),Aa hi,if_neg (h2 hle)]
     rw[Aa hch,Aa hi',Aa (run_askRoom _)]
     rfl
 · rw[h3,if_pos rfl]
   rw[Aa (show(asInt (.int kk (k:Int))).run P w=.ok (k:Int) w from rfl)]
   simp only[Zk (show k≤9223372036854775807 by omega)]
   rw[if_neg (by omega),Aa hi,if_neg (by
    have:((k*ti.bytes:Nat):Int)≤281474976710656:=by omega
    rw[Int.natCast_mul] at this
    omega)]
   rw[Int.toNat_natCast,Aa run_pure]
   by_cases hle:sLen+k≤sCap
   · rw[if_pos hle,if_pos hle]
     cases base<;>rfl
   · rw[if_neg hle,if_neg hle]
     rw[Aa hi,if_neg (h1 _),Aa hi,if_neg (h2 hle)]
     rw[Aa hch,Aa hi',Aa (run_askRoom _)]
     rfl
end
end Go.Den
namespace Go.Den
open Go.RowKit
section
variable{T:Type}{P:Program}{w:World}{μ:Mu}{h:Hp T}
theorem Dt.A7o{as:List AV}{pre rest:List Value}{vs:Array Value}(h:VRs μ as pre)(ho:as.all AV.one=true)(g:Nat)(hv:vs.toList=pre++rest):Dt μ (Aw (Aj as 0 .e)) as.length ⟨g,0,vs.size⟩ vs:=by
 have hlen:=h.length
 have hsz:vs.size=pre.length+rest.length:=by rw[←Array.length_toList,hv,List.length_append]
 refine⟨rfl,by simp;omega,fun i hi=>?_⟩
 have ha:as[i]? =some as[i]:=List.getElem?_eq_getElem hi
 obtain⟨v,hv',hr⟩:=h.get _ _ ha
 rw[Ah,if_pos (by omega),List.getD_eq_getElem?_getD,Nat.sub_zero,ha]
 refine⟨v,?_,hr,(List.all_eq_true.1 ho) _ (List.getElem_mem _)⟩
 rw[Nat.zero_add,←Array.getElem?_toList,hv,List.getElem?_append_left (by omega)]
 exact hv'
theorem Ad1(zs:Array Value)(n:Nat):Builtin.zeroCells zs n=cyc zs (n*zs.size):=rfl
theorem Ag7{ei:TI}{y:AV}{p:Nat×List AV}(hp:Ad2 ei y=some p):∃kk n,y=.int kk (.ofNat n)∧p=(n,Tg ei.zero n):=by
 cases y with
 |int kk n=>
  cases n with
  |ofNat n=>
   obtain⟨_,hp⟩:=Av hp
   cases hp;exact⟨kk,n,rfl,rfl⟩
  |negSucc n=>cases hp
 |_=>cases hp
theorem Aju{E:Env}(ok:Cg P E)(s0:Sim μ h w){e:TypeId}{ei:TI}(he:E.ty e=some ei){zf:Bool}{y:AV}{p:Nat×List AV}(hp:Aao (some zf) h ei y=some p)(hzs:ei.zero.length=ei.size){vy:Value}(hy:VR μ y vy):
 p.2.length=p.1*ei.size∧p.2.all AV.one=true∧(∀w1,Sim μ h w1→∃cs,(Nt ei.size e zf p.1 vy).run P w1=.ok cs w1∧VRs μ p.2 cs.toList)∧
 ((zf=false∧∀w1,Sim μ h w1→(Builtin.lenOf vy).run P w1=.ok p.1 w1)∨(zf=true∧(∃kk,vy=.int kk (p.1:Int)))):=by
 obtain⟨_,z,k⟩:=ok.ty _ _ he
 cases zf with
 |false=>
  have hp:Ck h ei.size y=some p:=hp
  have key:=fun(w1:World)(s:Sim μ h w1)=>Jx (P:=P) (_E:=E) s hp hy
  obtain⟨_,pure1,pure2,_⟩:=key w s0
  refine⟨pure1,pure2,fun w1 s=>?_,.inl ⟨rfl,fun w1 s=>(key w1 s).1⟩⟩
  obtain⟨_,hl,_,hc⟩:=key w1 s
  obtain⟨cs,hcs,hv⟩:=hc p.1 (Nat.le_refl _)
  rw[←hl,List.take_length] at hv
  exact⟨cs,hcs,hv⟩
 |true=>
  obtain⟨kk,n,rfl,hp2⟩:=Ag7 (show Ad2 ei y=some p from hp)
  subst hp2
  cases hy
  have hzl:=(k.cells μ).length
  simp only[Array.length_toList] at hzl
  refine⟨by rw[Ir,hzs],Rw k.Mv n,fun w1 s=>?_,.inr ⟨rfl,kk,rfl⟩⟩
  unfold Nt
  simp only[Bool.not_true,Bool.false_eq_true,if_false]
  have hrep:=Yj (k.cells μ) n
  by_cases h0:n*ei.size=0
  · rw[if_pos h0]
    refine⟨#[],rfl,?_⟩
    have:Tg ei.zero n=[]:=List.eq_nil_of_length_eq_zero (by rw[Ir,hzs,h0])
    rw[this];exact(rfl:([]:List Value)=[])
  · rw[if_neg h0,Aa k.Uj]
    exact⟨_,rfl,hrep⟩
theorem Avu {μ : Mu} {E : Env} (ok : Cg P E) {e : TypeId} {ei : TI} (he : E.ty e = some ei) (hzs : ei.zero.length = ei.size) {base : Option Addr} {n cap k : Nat} {zf : Bool} {vy : Value} {old new : List AV} {co cn : Array Value}
    (hold : (Builtin.firstCells ei.size n (.slice base n cap)).run P w.drew = .ok co w.drew) (ho : VRs μ old co.toList) (hol : old.length = n * ei.size)
    (hnew : (Nt ei.size e zf k vy).run P w.drew = .ok cn w.drew) (hn : VRs μ new cn.toList) (hnl : new.length = k * ei.size) :
    ∃ (vs : Array Value) (c : Nat) (rest : List Value), (do
          let old ← Builtin.firstCells ei.size n (.slice base n cap)
          let new ← Nt ei.size e zf k vy
          let rest := Builtin.zeroCells (← zeroValue e).cells (grownCap w (n + k) cap e - (n + k))
          pure (.slice (some (← newRow e (old ++ new ++ rest))) (n + k) (grownCap w (n + k) cap e)) : Sem Value).run P w.drew = .ok (.slice (some ⟨w.heap.size, 0, none⟩) (n + k) c) (w.drew.alloc (.cells vs e)) ∧
      vs.toList = (co.toList ++ cn.toList) ++ rest ∧ n + k ≤ c ∧ vs.size = c * ei.size := by
  obtain ⟨_, z, kk⟩ := ok.ty _ _ he
  have hcap := grownCap_ge w (n + k) cap e
  have hzl := (kk.cells μ).length
  simp only [Array.length_toList] at hzl
  have l1 := ho.length
  have l2 := hn.length
  simp only [Array.length_toList] at l1 l2
  refine ⟨co ++ cn ++ Builtin.zeroCells z.cells (grownCap w (n + k) cap e - (n + k)), grownCap w (n + k) cap e, (Builtin.zeroCells z.cells (grownCap w (n + k) cap e - (n + k))).toList, ?_, by simp, hcap, ?_⟩
  · rw [Aa hold, Aa hnew, Aa kk.Uj]
    rfl
  · simp only [Array.size_append, l1, l2, hol, hnl, Ad1]
    have : (cyc z.cells ((grownCap w (n + k) cap e - (n + k)) * z.cells.size)).size = (grownCap w (n + k) cap e - (n + k)) * ei.size := by
      simp [cyc, hzl, hzs]
    rw [this, ← Nat.add_mul, ← Nat.add_mul]
    congr 1; omega
theorem Ash {E : Env} (ok : Cg P E) (s : Sim μ h w) {ats : Array TypeId} {ty : TypeId} {x y : AV} {r : AV × Hp T} (hr0 : Lf E (Ej ats.toList 0) (fun e ei => Co (Akv E (Ej ats.toList 1)) x y h e ei) = some r) {vx vy : Value} (hx : VR μ x vx) (hy : VR μ y vy) :
    Fi P μ h w (Builtin.append_ ats ty #[vx, vy]) r.1 r.2 := by
  obtain ⟨t, ht, hr1⟩ := Af hr0
  clear hr0
  have ht : ats[0]? = some t := by rw [← Array.getElem?_toList, ← Eo]; exact ht
  obtain ⟨e, ei, hu, he, hr2⟩ := Ku ok hr1
  clear hr1
  obtain ⟨ti, z, k⟩ := ok.ty _ _ he
  obtain ⟨p, hp, hr3⟩ := Af hr2
  clear hr2
  obtain ⟨hg, hr⟩ := Av hr3
  clear hr3
  obtain ⟨hsl, hg⟩ := Al hg
  obtain ⟨hg1, hg2⟩ := Al hg
  obtain ⟨hg3, hg4⟩ := Al hg1
  obtain ⟨hg5, hg6⟩ := Al hg2
  have hzs : ei.zero.length = ei.size := by have := Bo hg3; rwa [De] at this
  have hpos := Bu hg4
  have hneed : Fh x + p.1 ≤ 1099511627776 := Bu hg5
  have hby : (Fh x + p.1) * ei.bytes ≤ 140737488355328 := Bu hg6
  clear hg hg1 hg2 hg3 hg4 hg5 hg6
  obtain ⟨zf, hzf, hp'⟩ := Af hp
  obtain ⟨t1, d1, ht1, hu1, hd1⟩ := Aku ok hzf
  obtain ⟨hnl, hno, hnew, hkind⟩ := Aju (P := P) ok s he (show Aao (some zf) h ei y = some p from hp') hzs hy
  -- the model's two ways
  have sd : Sim μ h w.drew := s.heap rfl
  have hrun := fun (base : Option Addr) (sLen sCap : Nat) (e1 : Fh x = sLen) => Alw (P := P) (w := w) (ty := ty) ht ht1 hu hu1 k.info (base := base) (sLen := sLen) (sCap := sCap) (vx := vy) (k := p.1)
    (by rw [hd1]
        rcases hkind with ⟨a, b⟩ | ⟨a, b⟩
        · exact .inl ⟨a, b w s⟩
        · refine .inr ⟨a, b, by omega, ?_⟩
          rw [k.bytes]
          have := Nat.mul_le_mul_right ei.bytes (Nat.le_add_left p.1 (Fh x))
          omega) (by rw [← e1]; exact hneed) (by rw [← e1, k.bytes]; exact hby)
  simp only [k.size, hd1] at hrun
  obtain ⟨cn, hcn, hvn⟩ := hnew w s
  obtain ⟨cd, hcd, hvd⟩ := hnew w.drew sd
  -- a new row
  have grows : ∀ (base : Option Addr) (n cap : Nat) (old : List AV) (co : Array Value), vx = .slice base n cap → Fh x = n → cap < n + p.1 → (Builtin.firstCells ei.size n (.slice base n cap)).run P w.drew = .ok co w.drew → VRs μ old co.toList → old.length = n * ei.size →
      ∃ (vs : Array Value) (c : Nat) (rest : List Value), (Builtin.append_ ats ty #[vx, vy]).run P w = .ok (.slice (some ⟨w.heap.size, 0, none⟩) (n + p.1) c) (w.drew.alloc (.cells vs e)) ∧
        vs.toList = (co.toList ++ cd.toList) ++ rest ∧ n + p.1 ≤ c ∧ vs.size = c * ei.size := by
    intro base n cap old co e1 e2 e3 e4 e5 e6
    obtain ⟨vs, c, rest, h1, h2, h3, h4⟩ := Avu ok he hzs e4 e5 e6 hcd hvd hnl
    refine ⟨vs, c, rest, ?_, h2, h3, h4⟩
    rw [e1, hrun base n cap e2, if_neg (by omega)]
    exact h1
  have fresh : ∀ (old : List AV) (co vs : Array Value) (n c : Nat) (rest : List Value), VRs μ old co.toList → old.all AV.one = true → old.length = n * ei.size → vs.toList = (co.toList ++ cd.toList) ++ rest → n + p.1 ≤ c → vs.size = c * ei.size →
      (Builtin.append_ ats ty #[vx, vy]).run P w = .ok (.slice (some ⟨w.heap.size, 0, none⟩) (n + p.1) c) (w.drew.alloc (.cells vs e)) →
      Xj e ei.size (n + p.1) (old ++ p.2) h = some r → Fi P μ h w (Builtin.append_ ats ty #[vx, vy]) r.1 r.2 := by
    intro old co vs n c rest e1 e2 e3 e4 e5 e6 e7 e8
    cases e8
    have hl : (old ++ p.2).length = Nat.mul (n + p.1) ei.size := by
      rw [List.length_append, e3, hnl]; exact (Nat.add_mul _ _ _).symm
    obtain ⟨μ', s', x', hm⟩ := sd.newRow e (Aj (old ++ p.2) 0 .e) (Nat.mul (n + p.1) ei.size) false vs (fun μ' hle => by
      have := Dt.A7o (g := w.drew.heap.size) ((e1.append hvd).mono hle) (by rw [List.all_append, e2, hno]; rfl) e4
      rwa [hl] at this) (fun e => nomatch e)
    refine ⟨_, _, μ', e7, s', (Dc.heap μ h rfl rfl rfl rfl : Dc μ h w μ h w.drew).trans x', Ru (g := w.heap.size) (c := c) (by rw [hm, e6]; rfl) e5 (fun e => nomatch e)⟩
  cases hk : Nat.beq p.1 0 with
  | true =>
    rw [hk] at hr
    have hr : some (x, h) = some r := hr
    cases hr
    have hk := Bo hk
    have hcn0 : cn.toList = [] := by
      have h1 := hvn.length
      rw [hnl, hk, Nat.zero_mul] at h1
      exact List.eq_nil_of_length_eq_zero h1
    have go : ∀ (base : Option Addr) (n cap : Nat), vx = .slice base n cap → Fh x = n → n ≤ cap → (Builtin.append_ ats ty #[vx, vy]).run P w = .ok vx w := by
      intro base n cap e1 e2 e3
      rw [e1, hrun base n cap e2, if_pos (by omega), Aa hcn, hcn0, hk]
      cases base <;> rfl
    cases x <;> simp only [Fe, Bool.false_eq_true] at hsl
    case Ai => have hx' := hx; cases hx; exact .here s (go none 0 0 rfl rfl (Nat.le_refl _)) hx'
    case slice b o n sz tg =>
      have hx' := hx
      obtain ⟨a, cap, rfl, hn, _⟩ := hx
      exact .here s (go (some a) n cap rfl rfl hn) hx'
  | false =>
    rw [hk] at hr
    replace hr : Gy e ei.size x p.1 p.2 h = some r := hr
    have hk : p.1 ≠ 0 := fun e => by rw [e] at hk; cases hk
    cases x <;> simp only [Fe, Bool.false_eq_true] at hsl
    case Ai =>
      cases hx
      obtain ⟨vs, c, rest, h1, h2, h3, h4⟩ := grows none 0 0 [] #[] rfl rfl (by omega) rfl (show ([] : List Value) = [] from rfl) (by simp)
      exact fresh [] #[] vs 0 c rest (show ([] : List Value) = [] from rfl) rfl (by simp) h2 h3 h4 h1 (by rw [Nat.zero_add, List.nil_append]; exact hr)
    case slice b o n sz tg =>
      obtain ⟨hz, hr2⟩ := Av (show (Bool.rec none (Bool.rec (Tu e b o n p.1 ei.size p.2 h (Em (h.at b))) (Option.rec none (fun old => Xj e ei.size (Nat.add n p.1) (Jh old p.2) h) (h.read b o (Nat.mul n ei.size))) tg) (Nat.beq sz ei.size) : Option (AV × Hp T)) = some r from hr)
      obtain rfl := Bo hz
      obtain ⟨a, cap, rfl, hn, htg, hl⟩ := hx
      cases tg with
      | true =>
        obtain ⟨old, hold, hr⟩ := Af (show (Option.rec none (fun old => Xj e ei.size (Nat.add n p.1) (Jh old p.2) h) (h.read b o (Nat.mul n ei.size)) : Option (AV × Hp T)) = some r from hr2)
        rw [Pp] at hr
        have hc := Jx (P := P) (_E := E) sd (sz := ei.size) (x := .slice b o n ei.size true) (p := (n, old)) (by
          show (Bool.rec none (Option.rec none (fun cs => some (n, cs)) (h.read b o (Nat.mul n ei.size))) (Nat.beq ei.size ei.size) : Option (Nat × List AV)) = _
          rw [hold, Nat.beq_refl]) (vx := .slice (some a) n cap) ⟨a, cap, rfl, hn, htg, hl⟩
        obtain ⟨_, c2, c3, c4⟩ := hc
        obtain ⟨co, c5, c6⟩ := c4 n (Nat.le_refl _)
        have c2 : old.length = n * ei.size := c2
        have c6 : VRs μ old co.toList := by rw [← c2] at c6; simpa using c6
        obtain ⟨vs, c, rest, h1, h2, h3, h4⟩ := grows (some a) n cap old co rfl rfl (by have := htg.1 rfl; omega) c5 c6 c2
        exact fresh old co vs n c rest c6 c3 c2 h2 h3 h4 h1 hr
      | false =>
        replace hr : Tu e b o n p.1 ei.size p.2 h (Em (h.at b)) = some r := hr2
        clear hr2
        have hrow := s.rowOf (b := b) htg.2.choose_spec rfl
        cases hro : Em (h.at b) with
        | no => rw [hro] at hr; cases hr
        | ext c m => rw [hro] at hr; cases hr
        | row t' m z' e' whole =>
          rw [hro] at hr
          obtain ⟨hb, hr⟩ := Av (show (Bool.rec none (some (.slice h.next o (Nat.add n p.1) ei.size false,
            (h.put b .dead).new (.row (Aj p.2 (Nat.add o (Nat.mul n ei.size)) t') (Nat.add o (Nat.mul (Nat.add n p.1) ei.size)) z' e' false)))
              (An (An (Nat.beq e e') (Nat.beq o 0)) (An (Nat.ble (Nat.add o (Nat.mul n ei.size)) m) (Nat.ble z' (Nat.add o (Nat.mul n ei.size))))) : Option (AV × Hp T)) = some r from hr)
          obtain ⟨hb1, hb2⟩ := Al hb
          obtain ⟨hb3, hb4⟩ := Al hb1
          obtain ⟨hb5, hb6⟩ := Al hb2
          obtain rfl := Bo hb3
          obtain rfl := Bo hb4
          have hb5 : 0 + n * ei.size ≤ m := Bu hb5
          have hb6 : z' ≤ 0 + n * ei.size := Bu hb6
          obtain ⟨hat, l, cs, fz, hlb, hblk, hc, hw, hf⟩ := hrow.1 _ _ _ _ _ hro
          have hown : (h.at b).own = true := by rw [hat]; rfl
          cases hr
          have e0 : Nat.add 0 (Nat.mul n ei.size) = n * ei.size := Nat.zero_add _
          have e1 : Nat.add 0 (Nat.mul (Nat.add n p.1) ei.size) = n * ei.size + p.1 * ei.size := (Nat.zero_add _).trans (Nat.add_mul _ _ _)
          rw [e0, e1]
          have hsz := hc.1
          have hsz2 := hc.2.1
          have hvnl := hvn.length
          rw [hnl] at hvnl
          have hcells : ∀ (μ' : Mu) (l' : Loc) (cs' : Array Value) (as : List Value), Mu.le μ μ' → VRs μ' p.2 as → l'.size = cs'.size → l'.off + n * ei.size + p.1 * ei.size ≤ cs'.size →
              (∀ i, i < n * ei.size → cs'[l'.off + i]? = cs[l.off + i]?) → (∀ i, i < p.1 * ei.size → cs'[l'.off + n * ei.size + i]? = as[i]?) →
              Dt μ' (Aw (Aj p.2 (n * ei.size) t')) (n * ei.size + p.1 * ei.size) l' cs' := by
            intro μ' l' cs' as hle hv h1 h2 h3 h4
            refine ⟨h1, by omega, fun i hi => ?_⟩
            rw [Ah]
            by_cases hin : n * ei.size ≤ i ∧ i < n * ei.size + p.2.length
            · rw [if_pos hin]
              have ha : p.2[i - n * ei.size]? = some (p.2[i - n * ei.size]'(by omega)) := List.getElem?_eq_getElem (by omega)
              obtain ⟨v, hv', hr⟩ := hv.get _ _ ha
              rw [List.getD_eq_getElem?_getD, ha]
              refine ⟨v, ?_, hr, (List.all_eq_true.1 hno) _ (List.getElem_mem _)⟩
              have := h4 (i - n * ei.size) (by omega)
              rw [show l'.off + n * ei.size + (i - n * ei.size) = l'.off + i from by omega] at this
              rw [this, hv']
            · rw [if_neg hin]
              obtain ⟨v, hv', hr, ho⟩ := hc.2.2 i (by omega)
              exact ⟨v, by rw [h3 i (by omega), hv'], VR.mono hle _ _ hr, ho⟩
          by_cases hle : n + p.1 ≤ cap
          · -- in place
            have hc0 : cap ≠ 0 := by omega
            obtain ⟨q, hq, rfl, hqs⟩ := hl.resolve_left hc0
            rw [hlb] at hq; cases hq
            have hmul : (n + p.1) * ei.size ≤ cap * ei.size := Nat.mul_le_mul_right _ hle
            rw [Nat.add_mul] at hmul
            have hones : ∀ v ∈ cn.toList, v.oneCell' = true := by
              intro v hvm
              obtain ⟨i, hi, rfl⟩ := List.getElem_of_mem hvm
              have ha : p.2[i]? = some (p.2[i]'(by omega)) := List.getElem?_eq_getElem (by omega)
              obtain ⟨v, hv', hr'⟩ := hvn.get _ _ ha
              rw [List.getElem?_eq_getElem hi] at hv'; cases hv'
              exact hr'.Aph ((List.all_eq_true.1 hno) _ (List.getElem_mem _))
            obtain ⟨w', hw', rs⟩ := Pw (P := P) (off := l.off + n * ei.size) cn.toList 0 cs w hblk (by omega) (fun j h1 h2 => hf (by omega) j (by omega) (by omega)) hones
            rw [Nat.add_zero] at rs
            have hget := fun j => Aa5 cn.toList cs (l.off + n * ei.size) j (by omega)
            obtain ⟨s', x'⟩ := s.renew hown hlb (.row (Aj p.2 (n * ei.size) t') (n * ei.size + p.1 * ei.size) z' e false) w' rs.size rs.other (fun μ' hle' =>
              ⟨_, fz, rs.here, hcells μ' l _ cn.toList hle' (hvn.mono hle') (by simpa using hsz) (by simp; omega)
                (fun i hi => by rw [hget, if_neg (by omega)]) (fun i hi => by rw [hget, if_pos (by omega)]; congr 1; omega), (fun e => nomatch e),
                fun h1 i h2 h3 => hf (by omega) i h2 (by simpa using h3)⟩) rs.os rs.tape rs.output
            refine ⟨.slice (some ⟨l.blk, l.off + 0, none⟩) (n + p.1) cap, w', _, ?_, s', x', ⟨_, cap, rfl, hle, ⟨(fun e => nomatch e), _, Mu.Cq _ _ _⟩, .inr ⟨l, Mu.Cq _ _ _, rfl, hqs⟩⟩⟩
            rw [hrun _ n cap rfl, if_pos hle, Aa hcn]
            simp only [Ic, Nat.add_zero]
            rw [Aa hw']; rfl
          · -- a new row
            have hc := Jx (P := P) (_E := E) sd (sz := ei.size) (x := .slice b 0 n ei.size false) (p := (n, Da (Aw t') (n * ei.size) 0)) (by
              show (Bool.rec none (Option.rec none (fun cs => some (n, cs)) (h.read b 0 (Nat.mul n ei.size))) (Nat.beq ei.size ei.size) : Option (Nat × List AV)) = _
              have : h.read b 0 (Nat.mul n ei.size) = some (Da (Aw t') (n * ei.size) 0) := by
                unfold Hp.read Hp.Ix
                rw [hro]
                show Nb 0 (n * ei.size) none some t' m = _
                unfold Nb
                rw [show Nat.ble (Nat.add 0 (n * ei.size)) m = true from Nat.ble_eq_true_of_le hb5, ← Kw]
              rw [this, Nat.beq_refl]) (vx := .slice (some a) n cap) ⟨a, cap, rfl, hn, htg, hl⟩
            obtain ⟨_, c2, c3, c4⟩ := hc
            obtain ⟨co, c5, c6⟩ := c4 n (Nat.le_refl _)
            have c2 : (Da (Aw t') (n * ei.size) 0).length = n * ei.size := c2
            have c6 : VRs μ (Da (Aw t') (n * ei.size) 0) co.toList := by
              have : List.take (n * ei.size) (Da (Aw t') (n * ei.size) 0) = Da (Aw t') (n * ei.size) 0 := by
                rw [List.take_of_length_le (by omega)]
              rw [← this]; exact c6
            obtain ⟨vs, c, rest, h1, h2, h3, h4⟩ := grows (some a) n cap _ co rfl rfl (by omega) c5 c6 c2
            obtain ⟨s1, x1⟩ := sd.put (o := .dead) hown hlb w.drew rfl (fun _ _ => rfl) trivial rfl rfl rfl
            have col := c6.length
            rw [c2] at col
            have cdl := hvd.length
            rw [hnl] at cdl
            obtain ⟨μ', s', x', hm⟩ : ∃ μ', Sim μ' ((h.put b .dead).new (.row (Aj p.2 (n * ei.size) t') (n * ei.size + p.1 * ei.size) z' e false)) (w.drew.alloc (.cells vs e)) ∧
                Dc μ (h.put b .dead) w.drew μ' ((h.put b .dead).new (.row (Aj p.2 (n * ei.size) t') (n * ei.size + p.1 * ei.size) z' e false)) (w.drew.alloc (.cells vs e)) ∧ μ' h.next = some ⟨w.heap.size, 0, vs.size⟩ := by
              have hvl : vs.size = (co.toList ++ cd.toList ++ rest).length := by rw [← h2, Array.length_toList]
              simp only [List.length_append] at hvl
              obtain ⟨a1, a2⟩ := s1.alloc (.row (Aj p.2 (n * ei.size) t') (n * ei.size + p.1 * ei.size) z' e false) (.cells vs e) vs.size 0 fun μ' hle' =>
                ⟨vs, (0, 0), Gb _ _, (by
                  refine ⟨rfl, by simp; omega, fun i hi => ?_⟩
                  rw [Ah]
                  by_cases hin : n * ei.size ≤ i ∧ i < n * ei.size + p.2.length
                  · rw [if_pos hin]
                    have ha : p.2[i - n * ei.size]? = some (p.2[i - n * ei.size]'(by omega)) := List.getElem?_eq_getElem (by omega)
                    obtain ⟨v, hv', hr⟩ := (hvd.mono hle').get _ _ ha
                    rw [List.getD_eq_getElem?_getD, ha]
                    refine ⟨v, ?_, hr, (List.all_eq_true.1 hno) _ (List.getElem_mem _)⟩
                    rw [Nat.zero_add, ← Array.getElem?_toList, h2, List.getElem?_append_left (by simp only [List.length_append]; omega), List.getElem?_append_right (by omega), col]
                    exact hv'
                  · rw [if_neg hin]
                    have hi' : i < n * ei.size := by omega
                    have ha : (Da (Aw t') (n * ei.size) 0)[i]? = some ((Da (Aw t') (n * ei.size) 0)[i]'(by omega)) := List.getElem?_eq_getElem (by omega)
                    obtain ⟨v, hv', hr⟩ := (c6.mono hle').get _ _ ha
                    have hg := Mw (Aw t') (n * ei.size) 0 i hi'
                    rw [List.getD_eq_getElem?_getD, ha, Nat.zero_add] at hg
                    have hg : (Da (Aw t') (n * ei.size) 0)[i]'(by omega) = Aw t' i := hg
                    rw [hg] at hr
                    refine ⟨v, ?_, hr, ?_⟩
                    · rw [Nat.zero_add, ← Array.getElem?_toList, h2, List.getElem?_append_left (by simp only [List.length_append]; omega), List.getElem?_append_left (by omega)]
                      exact hv'
                    · have := (List.all_eq_true.1 c3) _ (List.getElem_mem (l := Da (Aw t') (n * ei.size) 0) (n := i) (by omega))
                      rwa [hg] at this), (fun e => nomatch e), fun _ i _ _ => by simp⟩
              exact ⟨_, a1, a2, Mu.Cq _ _ _⟩
            refine ⟨_, _, μ', h1, s', ((Dc.heap μ h rfl rfl rfl rfl : Dc μ h w μ h w.drew).trans x1).trans x', Ru (g := w.heap.size) (c := c) (by rw [hm, h4]) h3 (fun e => nomatch e)⟩
end
end Go.Den
namespace Go.Den
open Go.RowKit
section
variable{T:Type}{P:Program}{w:World}{μ:Mu}{h:Hp T}
theorem Aik{e u:TypeId}(hc:P.cellsOf e=1)(hu:P.underlying u=some (.int .u8))(he:P.underlying e=some (.int .u8))(count off n:Nat)(hn:off+n≤count):liesAt P P.depth e count off u n=true:=by
 have hd:P.depth=(2*(P.types.size+Made.depth)+1)+1:=rfl
 rw[hd]
 simp only[liesAt,Bool.or_eq_true]
 left
 rw[hd]
 have hs:∀d,sameLayout P (d+1) e u=true:=fun d=>by unfold sameLayout;rw[he,hu];simp
 unfold rowAt
 simp only[hc,Nat.one_ne_zero,if_false,Nat.div_one,Nat.mod_one,beq_self_eq_true,Bool.true_and,decide_eq_true hn,hs,Bool.true_or]
theorem run_freeze{b off n:Nat}{cs:Array Value}{e:TypeId}{fz:Nat×Nat}(hb:w.heap[b]? =some (.cells cs e fz)):
 ∃w' fz',(freeze ⟨b,off,none⟩ n).run P w=.ok () w'∧Pt w w' b cs e fz':=by
 refine⟨w.freeze ⟨b,off,none⟩ n,?_⟩
 unfold World.freeze
 obtain⟨lo,hi⟩:=fz
 by_cases h0:n=0
 · subst h0
   exact⟨(lo,hi),by simp[freeze,Sem.run,World.freeze],by rw[if_pos rfl];exact .self hb⟩
 · rw[if_neg h0]
   refine⟨(if lo==hi then(off,off+n) else(min lo off,max hi (off+n))),by simp[freeze,Sem.run,World.freeze,h0],⟨?_,by simp,?_,rfl,rfl,rfl⟩⟩
   · simp only[Array.getElem?_modify,hb,if_true,Option.map_some]
   · intro k hk
     simp only[Array.getElem?_modify]
     rw[if_neg (fun e=>hk e.symm)]
theorem Ab6{b off:Nat}{cs:Array Value}{e:TypeId}{fz:Nat×Nat}(hb:w.heap[b]? =some (.cells cs e fz))(bs:List UInt8)(hcs:∀j,j<bs.length→cs[off+j]? =(bs.map fun x=>Value.int .u8 x.toNat)[j]?):
 (loadBytes ⟨b,off,none⟩ .empty bs.length).run P w=.ok ⟨⟨bs⟩⟩ w:=by
 rw[Lib.run_loadBytes w bs ⟨b,off,none⟩ .empty (fun j x hx=>by
  have hj:j<bs.length:=(List.getElem?_eq_some_iff.1 hx).1
  rw[Ic,Mb hb,hcs j hj];simp[hx])]
 congr 1
 apply ByteArray.ext;apply Array.ext';simp
theorem Ab7 {E : Env} (ok : Cg P E) {ats : Array TypeId} (hr : Ry E (Ej ats.toList 0) = true) : ∃ t u, ats[0]? = some t ∧ P.underlying t = some (.pointer u) ∧ P.underlying u = some (.int .u8) := by
  unfold Ry at hr
  cases ht : Ej ats.toList 0 with
  | none => rw [ht] at hr; cases hr
  | some t =>
    rw [ht] at hr
    have ht' : ats[0]? = some t := by rw [← Array.getElem?_toList, ← Eo]; exact ht
    cases hti : E.ty t with
    | none => have hr : (Option.rec false (fun ti => match ti.desc with
        | .pointer e => isByte E e
        | _ => false) (E.ty t) : Bool) = true := hr
              rw [hti] at hr; cases hr
    | some ti =>
      have hr : (Option.rec false (fun ti => match ti.desc with
        | .pointer e => isByte E e
        | _ => false) (E.ty t) : Bool) = true := hr
      rw [hti] at hr
      obtain ⟨_, _, k⟩ := ok.ty _ _ hti
      have hu := k.und
      have hr : (match ti.desc with
        | .pointer e => isByte E e
        | _ => false : Bool) = true := hr
      cases hd : ti.desc <;> rw [hd] at hr hu <;> simp only [Bool.false_eq_true] at hr
      exact ⟨t, _, ht', hu, Lu ok hr⟩
theorem Yc{E:Env}(ok:Cg P E)(s:Sim μ h w){ats:Array TypeId}{ty:TypeId}{x y:AV}{r:AV×Hp T}(hr0:(Bool.rec none (Rl E x (Bp y) h) (Ry E (Ej ats.toList 0)):Option (AV×Hp T))=some r){vx vy:Value}(hx:VR μ x vx)(hy:VR μ y vy):
 Fi P μ h w (Builtin.unsafeString_ ats ty #[vx,vy]) r.1 r.2:=by
 obtain⟨hp,hr1⟩:=Av hr0
 clear hr0
 obtain⟨t,u,ht,hut,huu⟩:=Ab7 ok hp
 obtain⟨n,hn,hr⟩:=Af hr1
 clear hr1
 obtain⟨kk,rfl⟩:=Jp hn hy
 have hrun:∀(v:Option Addr),n≤9223372036854775807→(Builtin.unsafeString_ ats ty #[.pointer v,.int kk (n:Int)]).run P w=((match v with
  | none => if (n : Int) = 0 then pure (.string .empty) else runtimePanic (.error "unsafe.String: ptr is nil and len is not zero")
  |some a=>if(n:Int)=0 then pure (.string .empty) else do
   if ←variablesAt a (←elemOf t) (n:Int).toNat then do
    let s ←loadBytes a .empty (n:Int).toNat
    freeze a (n:Int).toNat
    pure (.string s)
   else unsupported (.unsafePointer "String: not so many bytes at ptr") : Sem Value)).run P w := by
  intro v hv
  have hdef:Builtin.unsafeString_ ats ty #[.pointer v,.int kk (n:Int)]=(do
   let n ←asInt (.int kk (n:Int))
   let some pt := ats[0]? | stuck "unsafe.String: no argument types"
   if n < 0 then runtimePanic (.error "unsafe.String: len out of range")
   if n > IntKind.i64.max then unsupported (.unsafePointer "String: a length above the largest int")
   match v with
   |none=>
    if n=0 then pure (.string .empty)
    else runtimePanic (.error "unsafe.String: ptr is nil and len is not zero")
   |some a=>
    if n=0 then pure (.string .empty)
    else if ←variablesAt a (←elemOf pt) n.toNat then do
     let s ←loadBytes a .empty n.toNat
     freeze a n.toNat
     pure (.string s)
    else unsupported (.unsafePointer "String: not so many bytes at ptr")) := rfl
  rw[hdef]
  rw[Aa (show(asInt (.int kk (n:Int))).run P w=.ok (n:Int) w from rfl)]
  have hmax:IntKind.i64.max=9223372036854775807:=rfl
  simp only[ht]
  rw[if_neg (by omega),if_neg (by rw[hmax];omega)]
 cases x<;>simp only at hr<;>try cases hr
 case Cm=>
  obtain⟨h0,hr⟩:=Av hr
  cases hr
  obtain rfl:=Bo h0
  cases hx
  exact .here s (v:=.string .empty) (hrun none (by omega)) ⟨_,rfl,Gd.empty⟩
 case ptr b o=>
  obtain⟨l,hl,rfl⟩:=hx
  cases h0:Nat.beq n 0 with
  |true=>
   rw[h0] at hr
   have hr:some (AV.str 0 0,h)=some r:=hr
   cases hr
   obtain rfl:=Bo h0
   exact .here s (v:=.string .empty) (hrun (some _) (by omega)) ⟨_,rfl,Gd.empty⟩
  |false=>
   rw[h0] at hr
   have hn0:n≠0:=fun e=>by subst e;cases h0
   replace hr:Al9 E b o n h (Em (h.at b))=some r:=hr
   unfold Al9 at hr
   have hrow:=s.rowOf (b:=b) hl rfl
   cases hro:Em (h.at b) with
   |no=>rw[hro] at hr;cases hr
   |ext c m=>rw[hro] at hr;cases hr
   |row t' m z e whole=>
    rw[hro] at hr
    obtain⟨hb,hr2⟩:=Av (show(Bool.rec none (Wj (h.put b (.row t' m (Nat.add m 1) e whole)) (Gs (Dy t' n o))) (An (isByte E e) (An (Nat.ble (Nat.add o n) m) (Nat.ble n (intMax .i64)))):Option (AV×Hp T))=some r from hr)
    obtain⟨hb1,hb2⟩:=Al hb
    obtain⟨hb2,hb3⟩:=Al hb2
    have hb2:o+n≤m:=Bu hb2
    have hb3:n≤9223372036854775807:=Bu hb3
    have heb:=Lu ok hb1
    obtain⟨bl,hbl,hr3⟩:=Af hr2
    cases hr3
    rw[Kw] at hbl
    obtain⟨hat,l',cs,fz,hl',hblk,hc,hw,hf⟩:=hrow.1 _ _ _ _ _ hro
    rw[hl] at hl';cases hl'
    have hex:=hc.extract o n hb2
    obtain⟨bs,rfl,hbs⟩:=Pm hbl hex
    have hbsl:bs.length=n:=by
     have:=hex.length
     rw[hbs] at this
     simpa using this
    obtain⟨w',fz',hfr,rs⟩:=run_freeze (P:=P) (off:=l.off+o) (n:=n) hblk
    obtain⟨s',x'⟩:=s.put (o:=.row t' m (Nat.add m 1) e whole) (by rw[hat];rfl) hl w' rs.size rs.other ⟨cs,fz',rs.here,hc,hw,fun h=>absurd h (by show¬m+1≤m;omega)⟩ rs.os rs.tape rs.output
    refine⟨.string ⟨⟨bs⟩⟩,w',μ,?_,s',x',Zn μ bs⟩
    rw[hrun _ hb3]
    simp only
    rw[if_neg (by omega)]
    have he1:P.cellsOf e=1:=Agl ok hb1
    have hvar:(variablesAt ⟨l.blk,l.off+o,none⟩ u n).run P w=.ok true w:=by
     have hsh:w.shape? l.blk=some (e,cs.size):=by simp[World.shape?,hblk]
     have h1:(shape l.blk).run P w=.ok (some (e,cs.size)) w:=by simp[shape,Sem.run,hsh]
     unfold variablesAt
     rw[Aa (show program.run P w=.ok P w from rfl),Aa h1]
     simp only[he1,Nat.div_one]
     have:=hc.2.1
     rw[Aik he1 huu heb cs.size (l.off+o) n (by omega)];rfl
    have hel:(elemOf t).run P w=.ok u w:=by unfold elemOf;rw[Aa (Bh hut)];rfl
    rw[Int.toNat_natCast,Aa hel,Aa hvar]
    simp only[if_true]
    have hload:(loadBytes ⟨l.blk,l.off+o,none⟩ .empty n).run P w=.ok ⟨⟨bs⟩⟩ w:=by
     rw[←hbsl]
     refine Ab6 hblk bs fun j hj=>?_
     rw[←hbs,Array.getElem?_toList,Array.getElem?_extract,if_pos (by have:=hc.2.1;omega)]
    rw[Aa hload,Aa hfr];rfl
end
end Go.Den
namespace Go.Den
open Go.RowKit
section
variable{T:Type}{P:Program}{w:World}{μ:Mu}{h:Hp T}
theorem EsR.set:∀{a:Es}{xs:List MapEntry}{n:Nat}{e:AV×AV×Nat}{f:MapEntry→MapEntry},EsR μ a xs→(∀x,xs[n]? =some x→VR μ e.1 (f x).key∧VR μ e.2.1 (f x).val∧e.2.2=(f x).born)→EsR μ (setAt e n a) (xs.modify n f)
 |[],xs,n,e,f,h,_=>by
  cases(show xs=[] from h)
  cases n<;>exact(rfl:([]:List MapEntry)=[])
 |c::cs,_,0,e,f,⟨x,xs,e',h1,h2,h3,h4⟩,hf=>by
  subst e'
  obtain⟨a1,a2,a3⟩:=hf x rfl
  exact⟨f x,xs,rfl,a1,a2,a3,h4⟩
 |c::cs,_,n+1,e,f,⟨x,xs,e',h1,h2,h3,h4⟩,hf=>by
  subst e'
  exact⟨x,xs.modify n f,rfl,h1,h2,h3,EsR.set h4 fun y hy=>hf y (by simpa using hy)⟩
theorem EsR.del:∀{a:Es}{xs:List MapEntry}(n:Nat),EsR μ a xs→EsR μ (Awu n a) (xs.eraseIdx n)
 |[],xs,n,h=>by
  cases(show xs=[] from h)
  cases n<;>exact(rfl:([]:List MapEntry)=[])
 |c::cs,_,0,⟨x,xs,e',h1,h2,h3,h4⟩=>by subst e';exact h4
 |c::cs,_,n+1,⟨x,xs,e',h1,h2,h3,h4⟩=>by subst e';exact⟨x,xs.eraseIdx n,rfl,h1,h2,h3,EsR.del n h4⟩
theorem EsR.push:∀{a:Es}{xs:List MapEntry}{e:AV×AV×Nat}{x:MapEntry},EsR μ a xs→VR μ e.1 x.key→VR μ e.2.1 x.val→e.2.2=x.born→EsR μ (a++[e]) (xs++[x])
 |[],xs,e,x,h,h1,h2,h3=>by cases(show xs=[] from h);exact⟨x,[],rfl,h1,h2,h3,rfl⟩
 |c::cs,_,e,x,⟨y,ys,e',a1,a2,a3,a4⟩,h1,h2,h3=>by subst e';exact⟨y,ys++[x],rfl,a1,a2,a3,EsR.push a4 h1 h2 h3⟩
theorem Ajo(a b:ByteArray):(a==b)=(a.toList==b.toList):=beq_toListBytes a b
theorem Akb{d:TypeDesc}{k y:AV}{vk vy:Value}{b:Bool}(hp:Gi d k=true)(h:Vm k y=some b)(hk:VR μ k vk)(hy:VR μ y vy):Instr.sameNow d vk vy=some b∧(b=true→Instr.sameBits 10000 vy vk=true):=by
 cases k with
 |bool a=>
  cases d<;>simp only[Gi] at hp<;>try cases hp
  cases y<;>simp only[Vm,A9d] at h<;>cases h
  cases hk;cases hy
  rw[Aqv]
  refine⟨rfl,fun e=>?_⟩
  show(_==_)=true
  simp at e ⊢;exact e.symm
 |int k a=>
  cases d<;>simp only[Gi] at hp<;>try cases hp
  cases y<;>simp only[Vm,Awc] at h<;>try cases h
  cases hk;cases hy
  split at h
  · rename_i e;subst e;cases h
    rw[Jw]
    refine⟨by simp[Instr.sameNow],fun e=>?_⟩
    show(_==_&&_==_)=true
    simp at e ⊢;exact e.symm
  · cases h
 |str l c=>
  cases d<;>simp only[Gi] at hp<;>try cases hp
  cases y<;>simp only[Vm,eqStr] at h<;>cases h
  obtain⟨s,rfl,hs⟩:=hk
  obtain⟨s',rfl,hs'⟩:=hy
  have e1:=hs.eq hs'
  rw[←Gt,←Gt,←La,←Ajo] at e1
  refine⟨congrArg some e1,fun e=>?_⟩
  rw[←e1] at e
  show(s'==s)=true
  rw[Ajo] at e ⊢
  simp at e ⊢;exact e.symm
 |_=>simp[Gi] at hp
def Bkb(μ:Mu)(_es:Es)(xs:List MapEntry)(vk:Value)(i:Nat)(r:Hit)(r':Option (Nat×Value)):Prop:=match r,r' with
 |none,none=>True
 |some (v,born,j),some (j',v')=>j=j'∧∃n x,j=i+n∧xs[n]? =some x∧x.val=v'∧VR μ v v'∧x.born=born∧Instr.sameBits 10000 x.key vk=true
 |_,_=>False
theorem Aiy{d:TypeDesc}{k:AV}{vk:Value}(hp:Gi d k=true)(hk:VR μ k vk):∀{es:Es}{xs:List MapEntry}(i:Nat){r:Hit},Ee k es i=some r→EsR μ es xs→∃r',Instr.findNow d vk xs i=some r'∧Bkb μ es xs vk i r r'
 |[],xs,i,r,h,hes=>by cases h;cases(show xs=[] from hes);exact⟨none,rfl,trivial⟩
 |e::es,_,i,r,h,⟨x,xs,e',h1,h2,h3,h4⟩=>by
  subst e'
  obtain⟨t,ht,h⟩:=Af (show(Option.rec none (fun t=>Bool.rec (Ee k es (Nat.add i 1)) (some (some (e.2.1,e.2.2,i))) t) (Vm k e.1):Option Hit)=some r from h)
  obtain⟨hs,hb⟩:=Akb hp ht hk h1
  unfold Instr.findNow
  rw[hs]
  cases t with
  |true=>
   cases h
   exact⟨some (i,x.val),rfl,rfl,0,x,rfl,rfl,rfl,h2,h3.symm,hb rfl⟩
  |false=>
   obtain⟨r',hr',hh⟩:=Aiy hp hk (i+1) (show Ee k es (i+1)=some r from h) h4
   refine⟨r',hr',?_⟩
   cases r with
   |none=>cases r' with
    |none=>trivial
    |some=>exact hh.elim
   |some q=>
    obtain⟨v,born,j⟩:=q
    cases r' with
    |none=>exact hh.elim
    |some q'=>
     obtain⟨j',v'⟩:=q'
     obtain⟨e1,n,y,e2,e3,e4⟩:=hh
     exact⟨e1,n+1,y,by omega,by simpa using e3,e4⟩
theorem Ve{E:Env}(ok:Cg P E){kt:TypeId}{k:AV}{vk:Value}(hk:VR μ k vk){es:Es}{xs:List MapEntry}{r:Hit}(h:Aiz E kt k es=some r)(hes:EsR μ es xs):
 ∃r',(Instr.findKey kt vk xs).run P w=.ok r' w∧Bkb μ es xs vk 0 r r'∧∀b n,(Instr.checkKey b (n+1) kt vk).run P w=.ok () w:=by
 obtain⟨i,hi,h⟩:=Af h
 obtain⟨_,_,ty⟩:=ok.ty _ _ hi
 obtain⟨hp,h⟩:=Av h
 obtain⟨r',hr',hh⟩:=Aiy hp hk 0 h hes
 refine⟨r',?_,hh,fun b n=>?_⟩
 · unfold Instr.findKey
   rw[Aa ty.Ahs,hr'];rfl
 · unfold Instr.checkKey
   rw[Aa ty.Ahs]
   cases k<;>simp only[Gi] at hp<;>(try cases hp)<;>cases hd:i.desc<;>rw[hd] at hp<;>simp only[Bool.false_eq_true] at hp
   · cases hk;rfl
   · cases hk;rfl
   · obtain⟨_,rfl,_⟩:=hk;rfl
theorem Mi{E:Env}(ok:Cg P E){t:TypeId}{k:TypeId→TypeId→Option (AV×Hp T)}{r:AV×Hp T}(h:Rs E t k=some r):∃kt e,P.underlying t=some (.map kt e)∧k kt e=some r:=by
 obtain⟨ti,hti,h⟩:=Af h
 obtain⟨_,_,ty⟩:=ok.ty _ _ hti
 have hu:=ty.und
 cases hd:ti.desc<;>rw[hd] at h hu<;>simp only at h<;>try cases h
 exact⟨_,_,hu,h⟩
theorem Lw{o:Ob T}{p:Es×Nat}(h:Kt o=some p):o=.map p.1 p.2:=by cases o<;>simp only[Kt] at h<;>cases h;rfl
theorem Sim.Adb(s:Sim μ h w){b:Go.Den.P}{lb:Loc}(hm:μ b=some lb){es:Es}{clock:Nat}(hat:h.at b=.map es clock):∃l xs,μ b=some l∧w.heap[l.blk]? =some (.map xs clock)∧EsR μ es xs.toList:=by
 have hob:=s.ob b lb (by rw[hat];simp) hm
 rw[hat] at hob
 obtain⟨xs,h1,h2⟩:=hob
 exact⟨lb,xs,hm,h1,h2⟩
theorem Ack{E:Env}(ok:Cg P E){e:TypeId}{ei:TI}(he:E.ty e=some ei){z:AV}(hz:zeroOf ei=some z):∃v,(zeroValue e).run P w=.ok v w∧VR μ z v:=by
 obtain⟨_,v,ty⟩:=ok.ty _ _ he
 exact⟨v,ty.Uj,ty.Bkc μ z hz⟩
theorem Aas{b:Bool}{v:AV}{x:Value}{t:Bool}(hv:VR μ v x):VR μ (Rx b v t) (if b then .tuple #[x,.bool t] else x):=by
 cases b
 · exact hv
 · exact⟨_,rfl,_,_,rfl,hv,_,_,rfl,rfl,rfl⟩
theorem Arp{E:Env}(ok:Cg P E)(s:Sim μ h w){t:TypeId}{m k:AV}{b:Bool}{r:AV×Hp T}(hr0:Db E t m k b h=some r){vm vk:Value}(hm:VR μ m vm)(hk:VR μ k vk):Fi P μ h w (Instr.lookup t vm vk b) r.1 r.2:=by
 obtain⟨kt,e,hu,hr1⟩:=Mi ok hr0
 clear hr0
 obtain⟨p,hp,hr⟩:=Af hr1
 clear hr1
 have:∃xs:Array MapEntry,EsR μ p.1 xs.toList∧(Instr.lookup t vm vk b).run P w=(do
  Instr.checkKey xs.isEmpty 10000 kt vk
  let (v,ok) ←match ←Instr.findKey kt vk xs.toList with
   |some (_,v)=>pure (v,true)
   |none=>pure (←zeroValue e,false)
  pure (if b then .tuple #[v,.bool ok] else v):Sem Value).run P w:=by
  cases m<;>simp only[A26] at hp<;>try cases hp
  · cases hm
    refine⟨#[],(rfl:([]:List MapEntry)=[]),?_⟩
    unfold Instr.lookup
    rw[Aa (Bh hu)];rfl
  · obtain⟨l,xs,hl,hblk,hes⟩:=s.Adb hm.choose_spec.1 (Lw hp)
    obtain⟨l',hl',rfl⟩:=hm
    rw[hl] at hl';cases hl'
    refine⟨xs,hes,?_⟩
    unfold Instr.lookup
    rw[Aa (Bh hu)]
    simp only
    rw[Aa (Et hblk (by intros;simp))]
    rfl
 obtain⟨xs,hes,hrun⟩:=this
 obtain⟨rr,hrr,hr⟩:=Af hr
 obtain⟨r',hf,hh,hck⟩:=Ve (w:=w) ok hk hrr hes
 refine Fi.of_run hrun ?_
 refine Fi.of_run (Aa (hck _ 9999)) ?_
 refine Fi.of_run (Aa hf) ?_
 cases rr with
 |none=>
  cases r' with
  |some=>exact hh.elim
  |none=>
   obtain⟨ei,hei,hr⟩:=Af hr
   obtain⟨z,hz,hr⟩:=Af hr
   cases hr
   obtain⟨v,hv,hvr⟩:=Ack (w:=w) (μ:=μ) ok hei hz
   refine .here s ?_ (Aas hvr)
   simp only
   rw[Aa hv];rfl
 |some q=>
  cases r' with
  |none=>exact hh.elim
  |some q'=>
   obtain⟨v,born,j⟩:=q
   obtain⟨j',v'⟩:=q'
   obtain⟨_,n,x,_,_,_,hvr,_⟩:=hh
   cases hr
   exact .here s rfl (Aas hvr)
theorem Ain{k vk:Value}(h:Instr.sameBits 10000 k vk=true):(Instr.keyThatStays k vk).run P w=.ok vk w:=by
 unfold Instr.keyThatStays
 rw[if_pos h];rfl
theorem toList_modify(xs:Array MapEntry)(n:Nat)(f:MapEntry→MapEntry):(xs.modify n f).toList=xs.toList.modify n f:=by simp
theorem Uw{E:Env}(ok:Cg P E)(s:Sim μ h w){t:TypeId}{m k x:AV}{r:AV×Hp T}(hr0:Dj E t m k x h=some r){vm vk vx:Value}(hm:VR μ m vm)(hk:VR μ k vk)(hx:VR μ x vx):
 r.1=.undef∧∃w' μ',(Instr.mapUpdate t vm vk vx).run P w=.ok () w'∧Sim μ' r.2 w'∧Dc μ h w μ' r.2 w':=by
 cases m<;>simp only[Dj] at hr0<;>try cases hr0
 rename_i b
 obtain⟨kt,e,hu,hr1⟩:=Mi ok hr0
 clear hr0
 obtain⟨p,hp,hr⟩:=Af hr1
 clear hr1
 have hat:=Lw hp
 obtain⟨l,xs,hl,hblk,hes⟩:=s.Adb hm.choose_spec.1 hat
 obtain⟨l',hl',rfl⟩:=hm
 obtain rfl:l=l':=by rw[hl] at hl';exact Option.some.inj hl'
 obtain⟨rr,hrr,hr⟩:=Af hr
 obtain⟨r',hf,hh,hck⟩:=Ve (w:=w) ok hk hrr hes
 have hown:(h.at b).own=true:=by rw[hat];rfl
 have start:∀(x':Sem Unit) w',(match r' with
  |some (i,_)=>do
   let key ←Instr.keyThatStays (((xs[i]?).map (·.key)).getD vk) vk
   setObj l.blk (.map (xs.modify i fun e=>{ e with key,val:=vx }) p.2)
  |none=>setObj l.blk (.map (xs.push { key:=vk,val:=vx,born:=p.2 }) (p.2+1)):Sem Unit).run P w=.ok () w'→(Instr.mapUpdate t (.map (some l.blk)) vk vx).run P w=.ok () w':=by
  intro _ w' h1
  unfold Instr.mapUpdate
  rw[Aa (Bh hu)]
  simp only
  rw[Aa (Et hblk (by intros;simp))]
  simp only
  rw[Aa (hck _ 9999),Aa hf]
  exact h1
 cases rr with
 |none=>
  cases r' with
  |some=>exact hh.elim
  |none=>
   cases hr
   obtain⟨w',hw',s',x'⟩:=s.putObj (Pr:=P) hown hl hblk (by intros;simp) (.map (xs.push { key:=vk,val:=vx,born:=p.2 }) (p.2+1)) (.map (Jh p.1 [(k,x,p.2)]) (Nat.add p.2 1)) fun w' hw'=>
    ⟨_,hw',by rw[Pp,Array.toList_push];exact hes.push hk hx rfl⟩
   exact⟨rfl,w',μ,start (pure ()) w' hw',s',x'⟩
 |some q=>
  cases r' with
  |none=>exact hh.elim
  |some q'=>
   obtain⟨v,born,j⟩:=q
   obtain⟨j',v'⟩:=q'
   obtain⟨e1,n,y,e2,hy,e3,e4,e5,e6⟩:=hh
   have e2:j=n:=by omega
   subst e2
   have e1:j=j':=e1
   subst e1
   have hy':xs[j]? =some y:=by rw[←Array.getElem?_toList];exact hy
   cases hr
   obtain⟨w',hw',s',x'⟩:=s.putObj (Pr:=P) hown hl hblk (by intros;simp) (.map (xs.modify j fun e=>{ e with key:=vk,val:=vx }) p.2) (.map (setAt (k,x,born) j p.1) p.2) fun w' hw'=>
    ⟨_,hw',by
     rw[toList_modify]
     refine hes.set fun z hz=>⟨hk,hx,?_⟩
     rw[hy] at hz;cases hz
     exact e5.symm⟩
   refine⟨rfl,w',μ,start (pure ()) w' ?_,s',x'⟩
   simp only[hy',Option.map_some,Option.getD_some]
   rw[Aa (Ain e6)]
   exact hw'
theorem Aif{E:Env}(ok:Cg P E)(s:Sim μ h w){t:TypeId}{m k:AV}{r:AV×Hp T}(hr0:Pg E t m k h=some r){vm vk:Value}(hm:VR μ m vm)(hk:VR μ k vk):Fi P μ h w (Instr.mapEntry t vm vk) r.1 r.2:=by
 cases m<;>simp only[Pg] at hr0<;>try cases hr0
 rename_i b
 obtain⟨kt,e,hu,hr1⟩:=Mi ok hr0
 clear hr0
 obtain⟨p,hp,hr⟩:=Af hr1
 clear hr1
 have hat:=Lw hp
 obtain⟨l,xs,hl,hblk,hes⟩:=s.Adb hm.choose_spec.1 hat
 obtain⟨l',hl',rfl⟩:=hm
 obtain rfl:l=l':=by rw[hl] at hl';exact Option.some.inj hl'
 obtain⟨rr,hrr,hr⟩:=Af hr
 obtain⟨r',hf,hh,hck⟩:=Ve (w:=w) ok hk hrr hes
 have hown:(h.at b).own=true:=by rw[hat];rfl
 have start:(Instr.mapEntry t (.map (some l.blk)) vk).run P w=((match r' with
  |some (i,v)=>do
   let key ←Instr.keyThatStays (((xs[i]?).map (·.key)).getD vk) vk
   setObj l.blk (.map (xs.modify i fun e=>{ e with key }) p.2)
   pure (.tuple #[v,goInt (((xs[i]?).map (·.born)).getD 0)])
  |none=>do
   let zero ←zeroValue e
   setObj l.blk (.map (xs.push { key:=vk,val:=zero,born:=p.2 }) (p.2+1))
   pure (.tuple #[zero,goInt p.2]):Sem Value)).run P w:=by
  unfold Instr.mapEntry
  rw[Aa (Bh hu)]
  simp only
  rw[Aa (Et hblk (by intros;simp))]
  simp only
  rw[Aa (hck _ 9999),Aa hf]
  cases r'<;>rfl
 refine Fi.of_run start ?_
 cases rr with
 |none=>
  cases r' with
  |some=>exact hh.elim
  |none=>
   obtain⟨ei,hei,hr⟩:=Af hr
   obtain⟨z,hz,hr⟩:=Af hr
   cases hr
   obtain⟨v,hv,hvr⟩:=Ack (w:=w) (μ:=μ) ok hei hz
   obtain⟨w',hw',s',x'⟩:=s.putObj (Pr:=P) hown hl hblk (by intros;simp) (.map (xs.push { key:=vk,val:=v,born:=p.2 }) (p.2+1)) (.map (Jh p.1 [(k,z,p.2)]) (Nat.add p.2 1)) fun w' hw'=>
    ⟨_,hw',by rw[Pp,Array.toList_push];exact hes.push hk hvr rfl⟩
   refine⟨.tuple #[v,goInt p.2],w',μ,?_,s',x',⟨_,rfl,_,_,rfl,hvr,_,_,rfl,rfl,rfl⟩⟩
   simp only
   rw[Aa hv,Aa hw'];rfl
 |some q=>
  cases r' with
  |none=>exact hh.elim
  |some q'=>
   obtain⟨v,born,j⟩:=q
   obtain⟨j',v'⟩:=q'
   obtain⟨e1,n,y,e2,hy,e3,e4,e5,e6⟩:=hh
   have e2:j=n:=by omega
   subst e2
   have e1:j=j':=e1
   subst e1
   have hy':xs[j]? =some y:=by rw[←Array.getElem?_toList];exact hy
   cases hr
   obtain⟨w',hw',s',x'⟩:=s.putObj (Pr:=P) hown hl hblk (by intros;simp) (.map (xs.modify j fun e=>{ e with key:=vk }) p.2) (.map (setAt (k,v,born) j p.1) p.2) fun w' hw'=>
    ⟨_,hw',by
     rw[toList_modify]
     refine hes.set fun z hz=>?_
     rw[hy] at hz;cases hz
     exact⟨hk,by rw[e3];exact e4,e5.symm⟩⟩
   refine⟨.tuple #[v',goInt y.born],w',μ,?_,s',x',⟨_,rfl,_,_,rfl,e4,_,_,rfl,by rw[e5];rfl,rfl⟩⟩
   simp only[hy',Option.map_some,Option.getD_some]
   rw[Aa (Ain e6),Aa hw'];rfl
theorem Ar2{E:Env}(ok:Cg P E)(s:Sim μ h w){ats:Array TypeId}{ty:TypeId}{m k:AV}{r:AV×Hp T}(hr0:Abr E (Ej ats.toList 0) m k h=some r){vm vk:Value}(hm:VR μ m vm)(hk:VR μ k vk):Fi P μ h w (Builtin.delete_ ats ty #[vm,vk]) r.1 r.2:=by
 cases m<;>simp only[Abr] at hr0<;>try cases hr0
 rename_i b
 obtain⟨t,ht,hr1⟩:=Af hr0
 clear hr0
 have ht:ats[0]? =some t:=by rw[←Array.getElem?_toList,←Eo];exact ht
 obtain⟨kt,e,hu,hr2⟩:=Mi ok hr1
 clear hr1
 obtain⟨p,hp,hr⟩:=Af hr2
 clear hr2
 have hat:=Lw hp
 obtain⟨l,xs,hl,hblk,hes⟩:=s.Adb hm.choose_spec.1 hat
 obtain⟨l',hl',rfl⟩:=hm
 obtain rfl:l=l':=by rw[hl] at hl';exact Option.some.inj hl'
 obtain⟨rr,hrr,hr⟩:=Af hr
 obtain⟨r',hf,hh,hck⟩:=Ve (w:=w) ok hk hrr hes
 have hown:(h.at b).own=true:=by rw[hat];rfl
 have start:∀w',(match r' with
  |some (i,_)=>setObj l.blk (.map (xs.eraseIdxIfInBounds i) p.2)
  |none=>setObj l.blk (.map xs p.2):Sem Unit).run P w=.ok () w'→(Builtin.delete_ ats ty #[.map (some l.blk),vk]).run P w=.ok (.tuple #[]) w':=by
  intro w' h1
  unfold Builtin.delete_
  simp only[ht,List.getElem?_toArray,List.getElem?_cons_zero,List.getElem?_cons_succ]
  rw[Aa (Bh hu)]
  simp only
  rw[Aa (Et hblk (by intros;simp))]
  simp only
  rw[Aa (hck _ 9999),Aa hf]
  cases r'<;>(rw[Aa h1];rfl)
 cases rr with
 |none=>
  cases r' with
  |some=>exact hh.elim
  |none=>
   cases hr
   obtain⟨w',hw',s',x'⟩:=s.putObj (Pr:=P) hown hl hblk (by intros;simp) (.map xs p.2) (.map p.1 p.2) fun w' hw'=>⟨_,hw',hes⟩
   exact⟨_,w',μ,start w' hw',s',x',VR.undef μ⟩
 |some q=>
  cases r' with
  |none=>exact hh.elim
  |some q'=>
   obtain⟨v,born,j⟩:=q
   obtain⟨j',v'⟩:=q'
   obtain⟨e1,n,y,e2,hy,e3,e4,e5,e6⟩:=hh
   have e2:j=n:=by omega
   subst e2
   have e1:j=j':=e1
   subst e1
   cases hr
   obtain⟨w',hw',s',x'⟩:=s.putObj (Pr:=P) hown hl hblk (by intros;simp) (.map (xs.eraseIdxIfInBounds j) p.2) (.map (Awu j p.1) p.2) fun w' hw'=>
    ⟨_,hw',by
     have:(xs.eraseIdxIfInBounds j).toList=xs.toList.eraseIdx j:=by simp
     rw[this];exact hes.del j⟩
   exact⟨_,w',μ,start w' hw',s',x',VR.undef μ⟩
theorem Aa4 : ∀ {es : Es} {xs : List MapEntry} {born : Nat}, Vd born es = true → EsR μ es xs → ∀ {v : AV} {vv : Value}, VR μ v vv →
    ∃ i, xs.findIdx? (fun e => (e.born : Int) == (born : Int)) = some i ∧ EsR μ (Qo born v es) (xs.modify i fun e => { e with val := vv })
  | [], _, _, h, _, _, _, _ => by cases h
  | e :: es, _, born, h, ⟨x, xs, e', h1, h2, h3, h4⟩, v, vv, hv => by
    subst e'
    cases hb : Nat.beq e.2.2 born with
    | true =>
      have hxb : x.born = born := by rw [← h3]; exact Bo hb
      refine ⟨0, by rw [List.findIdx?_cons, if_pos (by rw [hxb]; simp)], ?_⟩
      have : Qo born v (e :: es) = (e.1, v, born) :: es := by
        show (Bool.rec (e :: Qo born v es) ((e.1, v, born) :: es) (Nat.beq e.2.2 born) : Es) = _
        rw [hb]
      rw [this]
      exact ⟨{ x with val := vv }, xs, rfl, h1, hv, hxb.symm, h4⟩
    | false =>
      have hxb : x.born ≠ born := by rw [← h3]; intro e0; rw [e0, Nat.beq_refl] at hb; cases hb
      have h' : Vd born es = true := by
        have h : or (Nat.beq e.2.2 born) (Vd born es) = true := h
        rw [hb] at h
        exact h
      obtain ⟨i, hi, hes⟩ := Aa4 h' h4 hv
      refine ⟨i + 1, ?_, ?_⟩
      · rw [List.findIdx?_cons, hi]
        rw [if_neg (by intro e0; exact hxb (Int.ofNat.inj (by simpa using e0)))]; rfl
      · have : Qo born v (e :: es) = e :: Qo born v es := by
          show (Bool.rec (e :: Qo born v es) ((e.1, v, born) :: es) (Nat.beq e.2.2 born) : Es) = _
          rw [hb]
        rw [this]
        exact ⟨x, _, rfl, h1, h2, h3, hes⟩
theorem Acg(s:Sim μ h w){t:TypeId}{m k x:AV}{r:AV×Hp T}(hr0:Ky m (Bp k) x h=some r){vm vk vx:Value}(hm:VR μ m vm)(hk:VR μ k vk)(hx:VR μ x vx):
 r.1=.undef∧∃w' μ',(Instr.entryStore t vm vk vx).run P w=.ok () w'∧Sim μ' r.2 w'∧Dc μ h w μ' r.2 w':=by
 cases m<;>simp only[Ky] at hr0<;>try cases hr0
 rename_i b
 obtain⟨born,hbn,hr1⟩:=Af hr0
 clear hr0
 obtain⟨kk,rfl⟩:=Jp hbn hk
 obtain⟨p,hp,hr⟩:=Af hr1
 clear hr1
 obtain⟨hb,hr⟩:=Av hr
 cases hr
 have hat:=Lw hp
 obtain⟨l,xs,hl,hblk,hes⟩:=s.Adb hm.choose_spec.1 hat
 obtain⟨l',hl',rfl⟩:=hm
 obtain rfl:l=l':=by rw[hl] at hl';exact Option.some.inj hl'
 have hown:(h.at b).own=true:=by rw[hat];rfl
 obtain⟨i,hi,hes'⟩:=Aa4 hb hes hx
 obtain⟨w',hw',s',x'⟩:=s.putObj (Pr:=P) hown hl hblk (by intros;simp) (.map (xs.modify i fun e=>{ e with val:=vx }) p.2) (.map (Qo born x p.1) p.2) fun w' hw'=>
  ⟨_,hw',by rw[toList_modify];exact hes'⟩
 refine⟨rfl,w',μ,?_,s',x'⟩
 unfold Instr.entryStore
 simp only
 rw[Aa (Et hblk (by intros;simp))]
 simp only
 rw[Aa (show(asInt (.int kk (born:Int))).run P w=.ok (born:Int) w from rfl)]
 have:xs.findIdx? (fun e=>(e.born:Int)==(born:Int))=some i:=by
  rw[←hi,←List.findIdx?_toArray]
 rw[this]
 exact hw'
theorem Aw3{E:Env}(ok:Cg P E)(s:Sim μ h w){ats:Array TypeId}{ty:TypeId}{x:AV}{r:AV×Hp T}(hr0:Lf E (Ej ats.toList 0) (fun e ei=>Agb x h e ei)=some r){vx:Value}(hx:VR μ x vx):Fi P μ h w (Builtin.clear_ ats ty #[vx]) r.1 r.2:=by
 obtain⟨t,ht,hr1⟩:=Af hr0
 clear hr0
 have ht:ats[0]? =some t:=by rw[←Array.getElem?_toList,←Eo];exact ht
 obtain⟨e,ei,hu,he,hr⟩:=Ku ok hr1
 clear hr1
 obtain⟨_,z,k⟩:=ok.ty _ _ he
 cases x<;>simp only[Agb] at hr<;>try cases hr
 case Ai=>
  cases hx
  refine .here s (v:=.tuple #[]) ?_ (VR.undef μ)
  unfold Builtin.clear_
  simp only[ht,List.getElem?_toArray,List.getElem?_cons_zero]
  rw[Aa (Bh hu)];rfl
 case slice b o n zz tg=>
  obtain⟨hb,hr⟩:=Av hr
  obtain⟨h1,h2⟩:=Al hb
  have h1:=Bo h1
  have h2:=Bo h2
  rw[De] at h2
  obtain⟨h',hw,hr⟩:=Af hr
  cases hr
  obtain⟨a,cap,rfl,hn,⟨_,_,hm0⟩,hl⟩:=hx
  have hzl:=(k.cells μ).length
  simp only[Array.length_toList] at hzl
  have hrep:=Yj (k.cells μ) n
  obtain⟨l,w',h'',hl',hrun,s',x',hg⟩:=s.write (Pr:=P) (good:=fun o=>o=some h') (bad:=none) (fun e=>nomatch e) (k:=some) hm0 hw hrep (Rw k.Mv n)
  cases hg
  refine⟨.tuple #[],w',μ,?_,s',x',VR.undef μ⟩
  unfold Builtin.clear_
  simp only[ht,List.getElem?_toArray,List.getElem?_cons_zero]
  rw[Aa (Bh hu)]
  cases n with
  |zero=>
   have:cyc z.cells (0*z.cells.size)=#[]:=by rw[Nat.zero_mul];apply Array.ext';simp[cyc]
   rw[this] at hrun
   have hrun:(Result.ok () w:Result Unit)=.ok () w':=hrun
   cases hrun
   rfl
  |succ n=>
   obtain⟨q,hq,rfl,_⟩:=hl.resolve_left (by omega)
   obtain rfl:q=l:=by rw[hq] at hl';exact Option.some.inj hl'
   simp only
   rw[Aa k.Uj]
   rw[Aa (show(storeCells ⟨q.blk,q.off+o,none⟩ (Builtin.zeroCells z.cells (n+1)).toList).run P w=.ok () w' from hrun)]
   rfl
end
end Go.Den
namespace Go.Den
open Go.RowKit
structure Bpg(I:FI):Prop where
 init:∀l t,I.get (I.init l) t=l.getD t .undef
 set:∀f t v u,I.get (I.set f t v) u=if u=t then v else I.get f u
 force:∀{α:Type}(f:I.T)(k:I.T→α),I.force f k=k f
theorem Qv(μ:Mu):∀(n:Nat)(v:Value),Nc n v=true→VR μ (Nf n v) v:=by
 intro n
 induction n with
 |zero=>intro v h;cases h
 |succ n ih=>
  have list:∀l:List Value,l.all (Nc n)=true→VRs μ (l.map (Nf n)) l:=by
   intro l
   induction l with
   |nil=>intro _;exact(rfl:([]:List Value)=[])
   |cons v l ihl=>intro h;rw[List.all_cons,Bool.and_eq_true] at h;exact⟨v,l,rfl,ih v h.1,ihl h.2⟩
  intro v h
  cases v<;>simp only[Nc] at h<;>try (cases h;done)
  · exact rfl
  · exact rfl
  · exact Abm μ _
  · rename_i a;cases a<;>first|exact rfl|(simp only[Bool.false_eq_true] at h)
  · rename_i a l c
    cases a with
    |some a=>simp only[Bool.false_eq_true] at h
    |none=>
     cases l with
     |succ l=>simp only[Bool.false_eq_true] at h
     |zero=>
      cases c with
      |succ c=>simp only[Bool.false_eq_true] at h
      |zero=>exact rfl
  · rename_i a;cases a<;>first|exact rfl|(simp only[Bool.false_eq_true] at h)
  · exact rfl
  · exact rfl
  · rw[Bool.and_eq_true] at h
    exact⟨_,rfl,list _ h.1,h.2⟩
  · exact⟨_,rfl,list _ h⟩
def Hj(μ:Mu)(G:Nat):Prop:=∀g,g<G→∃l,μ (pOf g)=some l∧l.blk=g∧l.off=0
theorem Hj.mono{μ μ':Mu}{G:Nat}(h:Mu.le μ μ')(g:Hj μ G):Hj μ' G:=fun i hi=>let ⟨l,a,b⟩:=g i hi;⟨l,h _ _ a,b⟩
def Eu(G:Nat)(o:Operand):Bool:=match o with
 |.tmp _=>true
 |.const v=>Yo v
 |.global g=>Nat.blt g G
 |.func _=>true
section
variable{α:Type}{P:Program}{μ:Mu}
theorem Zb{C:Cx α}{G:Nat}(gl:Hj μ G){o:Operand}(ho:Eu G o=true){f:C.I.T}{a:Act}(ht:∀t,o=.tmp t→VR μ (C.I.get f t) (a.tmps.getD t undef)):VR μ (eval C o f) (a.eval o):=by
 cases o with
 |tmp t=>exact ht t rfl
 |const v=>
  show VR μ (Cj (ofValue v) (fun v=>v)) v
  rw[Ch]
  exact Qv μ 3 v ho
 |global g=>
  obtain⟨l,hl,hb,hof⟩:=gl g (by simpa[Eu] using ho)
  refine⟨l,hl,?_⟩
  show Value.pointer (some ⟨g,0,none⟩)=_
  rw[hb,hof]
 |func fn=>exact⟨.func fn,#[],#[],rfl,rfl,(rfl:([]:List Value)=[]),(rfl:([]:List Value)=[]),trivial⟩
end
theorem Dm{α:Type}{C:Cx α}{good:α→Prop}(hbad:¬good C.bad){k:K α C.I.T}{o:Option (AV×Hp C.I.T)}(hg:good (Dz C k o)):∃v h,o=some (v,h)∧good (k v h):=by
 unfold Dz at hg
 obtain⟨p,hp,hg⟩:=Ox hbad hg
 obtain⟨v,⟨m,n⟩⟩:=p
 refine⟨v,⟨m,n⟩,hp,?_⟩
 have hg:good (Cj v (fun v=>Ks m (fun m=>k v ⟨m,n⟩))):=hg
 rwa [Ch,Jr] at hg
theorem Sh{α:Type}{good:α→Prop}{bad:α}(hbad:¬good bad){v:AV}{k:P→Nat→α}(hg:good (Yg.rec bad k (Tb v))):∃b o,v=.ptr b o∧good (k b o):=by
 cases v<;>first|exact absurd hg hbad|exact⟨_,_,rfl,hg⟩
theorem Alv{α:Type}{good:α→Prop}{bad:α}(hbad:¬good bad){v:AV}{k:Bool→α}(hg:good (Abz.rec bad k (Sj v))):∃b,v=.bool b∧good (k b):=by
 cases v<;>first|exact absurd hg hbad|exact⟨_,rfl,hg⟩
section
variable{α:Type}{C:Cx α}{P:Program}{μ:Mu}{h:Hp C.I.T}{w:World}{good:α→Prop}{o:Oper}{a:Act}
 {k:K α C.I.T} {next:Act→World→Prop} {Q:Exit→Act→World→Prop}
abbrev Fo(ro:Option Nat):Fence:={ Fence.wide with round:=ro }
theorem Agp{ro:Option Nat}{n:Nat}{P:Program}{f:FuncId}{args:Array Value}{w:World}{R:Ending→World→Prop}(h:Calls P f args w R):CallsIn (Fo ro) n P f args w R:=callsIn_wide.2 h
theorem Iu{ro:Option Nat}{P:Program}{o:Oper}{a:Act}{w:World}{next:Act→World→Prop}{Q:Exit→Act→World→Prop}(hd:∀c,o.op≠.defer c)(h:o.uponIn (Fo ro) 0 P a next Q ((execOp a.eval o).run P w)):o.wpIn (Fo ro) 0 P a w next Q:=
 ⟨fun _ _=>trivial,by rw[Oper.semAt_eq _ _ _ hd];exact h⟩
def Aj0(C:Cx α)(μ:Mu)(h:Hp C.I.T)(w:World)(good:α→Prop)(k:K α C.I.T)(a:Act)(dst:Option Tmp)(next:Act→World→Prop):Prop:=
 ∀(μ':Mu)(av:AV)(h':Hp C.I.T)(v:Value)(w':World),Sim μ' h' w'→Dc μ h w μ' h' w'→VR μ' av v→good (k av h')→next (a.put dst v) w'
theorem Aj0.value{ro:Option Nat}(g:Aj0 C μ h w good k a o.dst next){sm:Sem Value}{av:AV}{h':Hp C.I.T}(he:execOp a.eval o=(do pure (.value (←sm))))(d:Fi P μ h w sm av h')(hg:good (k av h'))(hd:∀c,o.op≠.defer c:=by intro c h;cases h):o.wpIn (Fo ro) 0 P a w next Q:=by
 obtain⟨v,w',μ',hr,s,x,hv⟩:=d
 refine Iu hd ?_
 rw[he,Aa hr]
 exact g _ _ _ _ _ s x hv hg
theorem Aj0.skip{ro:Option Nat}(g:Aj0 C μ h w good k a o.dst next){sm:Sem Unit}{μ':Mu}{h':Hp C.I.T}{w':World}(he:execOp a.eval o=(do sm;pure .skip))(hr:sm.run P w=.ok () w')(s:Sim μ' h' w')(x:Dc μ h w μ' h' w')(hg:good (k .undef h'))(hd:∀c,o.op≠.defer c:=by intro c h;cases h):o.wpIn (Fo ro) 0 P a w next Q:=by
 refine Iu hd ?_
 rw[he,Aa hr]
 exact g _ _ _ _ _ s x (VR.undef μ') hg
theorem Aj0.here{ro:Option Nat}(g:Aj0 C μ h w good k a o.dst next)(s:Sim μ h w){av:AV}{v:Value}(he:(execOp a.eval o).run P w=.ok (.value v) w)(hv:VR μ av v)(hg:good (k av h))(hd:∀c,o.op≠.defer c:=by intro c h;cases h):o.wpIn (Fo ro) 0 P a w next Q:=by
 refine Iu hd ?_
 rw[he]
 exact g _ _ _ _ _ s (.refl _ _ _) hv hg
end
end Go.Den
namespace Go.Den
open Go.RowKit
section
variable{T:Type}{P:Program}{w:World}{μ:Mu}{h:Hp T}
theorem Alp{E:Env}(ok:Cg P E)(s:Sim μ h w){b:Builtin}{ats:Array TypeId}{ty:TypeId}{cs:Array Bool}{args:List AV}{r:AV×Hp T}(hr:Ar E b ats.toList args h=some r){vargs:Array Value}(hv:VRs μ args vargs.toList):
 ∃sm,builtin b ats ty cs vargs=(do pure (.value (←sm)))∧Fi P μ h w sm r.1 r.2:=by
 obtain⟨l⟩:=vargs
 match args,hv with
 |[],hv=>cases hr
 |[x],hv=>
  obtain⟨vx,vs,rfl,hx,hv⟩:=hv
  cases(show vs=[] from hv)
  have hr:bi1 E b ats.toList x h=some r:=hr
  cases b<;>simp only[bi1] at hr<;>try (cases hr;done)
  · exact⟨_,rfl,Ax4 ok s hr hx⟩
  · exact⟨_,rfl,Aw3 ok s hr hx⟩
  · exact⟨_,rfl,Ax3 ok s hr hx⟩
  · exact⟨_,rfl,Ad6 s hr hx⟩
 |[x,y],hv=>
  obtain⟨vx,vs,rfl,hx,hv⟩:=hv
  obtain⟨vy,vs,rfl,hy,hv⟩:=hv
  cases(show vs=[] from hv)
  have hr:bi2 E b ats.toList x y h=some r:=hr
  cases b<;>simp only[bi2] at hr<;>try (cases hr;done)
  · exact⟨_,rfl,Ash ok s hr hx hy⟩
  · exact⟨_,rfl,A1y ok s hr hx hy⟩
  · exact⟨_,rfl,Ar2 ok s hr hx hy⟩
  · exact⟨_,rfl,A7s s hr hx hy⟩
  · exact⟨_,rfl,A7r s hr hx hy⟩
  · exact⟨_,rfl,Yc ok s hr hx hy⟩
 |_::_::_::_,hv=>cases hr
end
def A0l(G:Nat)(l:List Operand):Bool:=l.all (Eu G)
def Aff(fn:Fn):Bool:=match fn with
 |.yield _=>false
 |_=>true
def Aag(_P:Program)(E:Env)(G:Nat)(o:Op):Bool:=A0l G o.operands.toList&&match o with
 |.convert src _ _=>(E.ty src).isSome
 |.slice _ _ _ hi mx=>!mx.isSome||hi.isSome
 |.makeFunc fn _ _=>Aff fn
 |_=>true
section
variable{α:Type}
def Ayp(P:Program)(vargs:Array Value)(w:World)(fn':Fn)(R:Ending→World→Prop):Prop:=∃l F tmps as bd,fn'=.yield l∧(Instr.yield l vargs).run P w=.ok (.round l F tmps as bd) w∧RoundIn (Fo none) 0 P l F tmps as bd w R
theorem Az3{ro:Option Nat}{P:Program}{l:Nat}{f:FuncId}{tmps:Array Value}{as bd:Code}{w:World}{R:Ending→World→Prop}(h:RoundIn (Fo none) 0 P l f tmps as bd w R):RoundIn (Fo ro) 0 P l f tmps as bd w R:=h
def Fb(P:Program)(C:Cx α)(G:Nat)(good:α→Prop)(call:Abx α C.I.T):Prop:=
  ∀(μ:Mu)(h:Hp C.I.T)(w:World)(fn fn':Fn)(args:List AV)(vargs:Array Value)(k:K α C.I.T),Sim μ h w→Hj μ G→FnR μ fn fn'→VRs μ args vargs.toList→good (call fn args h k)→
    (∃f,fn'=.func f∧
    ((∃v w' μ' av h',(callFunc f vargs).run P w=.ok (.value v) w'∧Sim μ' h' w'∧Dc μ h w μ' h' w'∧VR μ' av v∧good (k av h'))∨
     ((callFunc f vargs).run P w=.ok (.enter f vargs) w∧Calls P f vargs w fun e w'=>∃v μ' av h',e=.returned v∧Sim μ' h' w'∧Dc μ h w μ' h' w'∧VR μ' av v∧good (k av h'))))∨
    Ayp P vargs w fn' fun e w'=>∃v μ' av h',e=.returned v∧Sim μ' h' w'∧Dc μ h w μ' h' w'∧VR μ' av v∧good (k av h')
theorem Gr{C:Cx α}{f:C.I.T}(l:List Operand):∀(k:List AV→α),Ik C f l k=k (l.map fun x=>eval C x f):=by
 induction l with
 |nil=>intro k;rfl
 |cons x l ih=>
  intro k
  show Cj (eval C x f) (fun v=>Ik C f l (fun l=>k (v::l)))=_
  rw[Ch,ih];rfl
theorem Ph{C:Cx α}{f:C.I.T}(l:List (Nat×Operand)):Is C f l=l.map fun p=>(p.1,eval C p.2 f):=by
 induction l with
 |nil=>rfl
 |cons x l ih=>show _::Is C f l=_;rw[ih];rfl
variable{C:Cx α}{P:Program}{μ:Mu}{h:Hp C.I.T}{w:World}{good:α→Prop}{o:Oper}{a:Act}
 {k:K α C.I.T} {next:Act→World→Prop} {Q:Exit→Act→World→Prop} {G:Nat} {f:C.I.T}
theorem VRs.map{C:Cx α}{f:C.I.T}:∀{l:List Operand},(∀x∈l,VR μ (eval C x f) (a.eval x))→VRs μ (l.map fun x=>eval C x f) (l.map a.eval)
 |[],_=>(rfl:([]:List Value)=[])
 |x::l,hv=>⟨_,_,rfl,hv x (by simp),VRs.map fun y hy=>hv y (by simp[hy])⟩
theorem Im.map{C:Cx α}{f:C.I.T}:∀{l:List (Nat×Operand)},(∀x∈l.map (·.2),VR μ (eval C x f) (a.eval x))→Im μ (l.map fun p=>(p.1,eval C p.2 f)) (l.map fun p=>(p.1,a.eval p.2))
 |[],_=>.nil
 |x::l,hv=>.cons (hv x.2 (by simp)) (Im.map fun y hy=>hv y (by simp at hy ⊢;exact .inr hy))
theorem Ai3{C:Cx α}{f:C.I.T}(x:Option Operand):Rf C f x=bnd (x.map fun x=>eval C x f):=by cases x<;>rfl
theorem Qg.of{C:Cx α}{f:C.I.T}{x:Option Operand}(hv:∀y,x=some y→VR μ (eval C y f) (a.eval y)):Qg μ (x.map fun x=>eval C x f) (x.map a.eval):=by
 cases x with
 |none=>trivial
 |some y=>exact hv y rfl
end
end Go.Den
namespace Go.Den
open Go.RowKit
section
variable{α:Type}{C:Cx α}{P:Program}{μ:Mu}{h:Hp C.I.T}{w:World}{good:α→Prop}{o:Oper}{a:Act}
 {k:K α C.I.T} {next:Act→World→Prop} {Q:Exit→Act→World→Prop} {G:Nat} {f:C.I.T}
theorem Ake{P:Program}{E:Env}(ok:Cg P E){t:TypeId}{name:String}{F:FuncId}(hm:Aia E t name=some F){v:Value}{args:Array Value}{w:World}:
 (invoke (.fn (.method name) #[]) (#[.iface t v]++args)).run P w=(callFunc F (#[v]++args)).run P w:=by
 unfold Aia at hm
 split at hm
 · rename_i i hi
   obtain⟨ti,z,k⟩:=ok.ty t i hi
   split at hm
   · rename_i m hf
     split at hm
     · rename_i hp
       split at hm
       · rename_i f b hfn
         have hfind:ti.methods.find? (fun m=>m.name==name)=some m:=by
          rw[k.Bed] at hf
          simpa using hf
         have hpath:m.path.toList=[]:=hp
         have hmeth:(method (P.types.size+Made.depth) t v name).run P w=.ok (F,v) w:=by
          show(method ((P.types.size+99)+1) t v name).run P w=_
          unfold method
          rw[Aa (Jz k.info),hfind]
          simp only[hpath]
          rw[Aa (show(follow [] t (.val v)).run P w=.ok (t,.val v) w from rfl)]
          simp only[hfn]
          have hd:=k.Ahs (w:=w)
          cases b with
          |true=>
           have hm:(Bool.rec none (some f) (Afq i.desc):Option FuncId)=some F:=hm
           cases hd':i.desc with
           |pointer e=>
            rw[hd'] at hm hd
            cases hm
            refine Aa (a:=v) (w':=w) ?_ |>.trans rfl
            unfold receiverAt
            rw[Aa hd]
            rfl
           |_=>rw[hd'] at hm;cases hm
          |false=>
           have hm:(Bool.rec none (some f) (not (Afq i.desc)):Option FuncId)=some F:=hm
           cases hd':i.desc<;>rw[hd'] at hm hd<;>first|(cases hm;done)|skip
           all_goals
            cases hm
            refine Aa (a:=v) (w':=w) ?_ |>.trans rfl
            unfold receiverAt
            rw[Aa hd]
            rfl
         show(do
          let some recv := (#[Value.iface t v] ++ args)[0]? | stuck "call: a method without a receiver"
          callMethod recv name ((#[Value.iface t v]++args).extract 1 (#[Value.iface t v]++args).size)).run P w=_
         have e0:(#[Value.iface t v]++args)[0]? =some (.iface t v):=by
          rw[Array.getElem?_append_left (show 0<(#[Value.iface t v]:Array Value).size from Nat.zero_lt_one)];rfl
         have e1:(#[Value.iface t v]++args).extract 1 (#[Value.iface t v]++args).size=args:=by
          apply Array.ext'
          simp
         rw[e0,e1]
         show(callMethod (.iface t v) name args).run P w=_
         unfold callMethod
         rw[Aa (show program.run P w=.ok P w from rfl),Aa hmeth]
       · cases hm
     · cases hm
   · cases hm
 · cases hm
theorem Af7{ro:Option Nat}(hbad:¬good C.bad)(ok:Cg P C.E){call:Abx α C.I.T}(hcall:Fb P C G good call)(hop:Aag P C.E G o.op=true)
 (hv:∀x∈o.op.operands.toList,VR μ (eval C x f) (a.eval x)) (s:Sim μ h w) (gl:Hj μ G) (hg:good (exec o.op C call f h k)) (g:Aj0 C μ h w good k a o.dst next):o.wpIn (Fo ro) 0 P a w next Q:=by
 obtain⟨dst,op,type,pos,after,guard⟩:=o
 cases op
 case move x=>
  have hg:good (Cj (eval C x f) (fun v=>k v h)):=hg
  rw[Ch] at hg
  exact g.here s rfl (hv x (by simp[Op.operands])) hg
 case assign x=>
  have hg:good (Cj (eval C x f) (fun v=>k v h)):=hg
  rw[Ch] at hg
  exact g.here s rfl (hv x (by simp[Op.operands])) hg
 case pick c x y=>
  have hg:good (Abz.rec C.bad (fun t=>Bool.rec (Cj (eval C y f) (fun v=>k v h)) (Cj (eval C x f) (fun v=>k v h)) t) (Sj (eval C c f))):=hg
  obtain⟨b,hb,hg⟩:=Alv hbad hg
  have hc:=hv c (by simp[Op.operands])
  rw[hb] at hc
  have hc:a.eval c=.bool b:=hc
  cases b with
  |true=>
   have hg:good (Cj (eval C x f) (fun v=>k v h)):=hg
   rw[Ch] at hg
   refine g.here s (v:=a.eval x) ?_ (hv x (by simp[Op.operands])) hg
   unfold execOp;simp only[hc];rfl
  |false=>
   have hg:good (Cj (eval C y f) (fun v=>k v h)):=hg
   rw[Ch] at hg
   refine g.here s (v:=a.eval y) ?_ (hv y (by simp[Op.operands])) hg
   unfold execOp;simp only[hc];rfl
 case alloc e=>
  obtain⟨v,h',hr,hg⟩:=Dm hbad (show good (Dz C k (Za e (C.E.ty e) h)) from hg)
  exact g.value rfl (Ak8 ok s hr) hg
 case box e x=>
  have hg:good (Cj (eval C x f) (fun v=>Bool.rec C.bad (h.Cs (rowOf e v.cells) (fun b h=>k (.ptr b 0) h)) (Nat.ble 1 (len v.cells)))):=hg
  rw[Ch] at hg
  obtain⟨hn,hg⟩:=Vc hbad hg
  rw[Mj] at hg
  exact g.value rfl (Ba4 s e (hv x (by simp[Op.operands])) hn) hg
 case build t ps=>
  obtain⟨v,h',hr,hg⟩:=Dm hbad (show good (Dz C k (Ax C.E (C.E.ty t) (Is C f ps.toList) h)) from hg)
  rw[Ph] at hr
  refine g.value rfl (Axu ok s ?_ hr) hg
  have:=Im.map (μ:=μ) (a:=a) (C:=C) (f:=f) (l:=ps.toList) fun x hx=>hv x (by simpa[Op.operands] using hx)
  simpa using this
 case buildSlice t n ps=>
  obtain⟨v,h',hr,hg⟩:=Dm hbad (show good (Dz C k (Ap C.E t (fun e ei=>Ak n (Is C f ps.toList) h e ei))) from hg)
  rw[Ph] at hr
  refine g.value rfl (Acj ok s ?_ hr) hg
  have:=Im.map (μ:=μ) (a:=a) (C:=C) (f:=f) (l:=ps.toList) fun x hx=>hv x (by simpa[Op.operands] using hx)
  simpa using this
 case insert t m x y=>
  obtain⟨v,h',hr,hg⟩:=Dm hbad (show good (Dz C k (Dj C.E t (eval C m f) (eval C x f) (eval C y f) h)) from hg)
  obtain⟨e1,w',μ',hrun,s',x'⟩:=Uw (P:=P) ok s hr (hv m (by simp[Op.operands])) (hv x (by simp[Op.operands])) (hv y (by simp[Op.operands]))
  have e1:v=.undef:=e1
  subst e1
  exact g.skip rfl hrun s' x' hg
 case load t x=>
  obtain⟨b,off,hp,hg⟩:=Sh hbad (show good (Yg.rec C.bad (fun b off=>Option.rec C.bad (fun i=>Tn C h k b off i) (C.E.ty t)) (Tb (eval C x f))) from hg)
  obtain⟨i,hi,hg⟩:=Ox hbad hg
  have hx:=hv x (by simp[Op.operands])
  rw[hp] at hx
  obtain⟨av,u,hu,hvr,hg⟩:=Ade (P:=P) ok hbad s hi hg hx
  exact g.value rfl (.here s hu hvr) hg
 case store t x y=>
  obtain⟨b,off,hp,hg⟩:=Sh hbad (show good (Yg.rec C.bad (fun b off=>Option.rec C.bad (fun i=>Cj (eval C y f) (fun v=>Od C h k b off v i)) (C.E.ty t)) (Tb (eval C x f))) from hg)
  obtain⟨i,hi,hg⟩:=Ox hbad hg
  rw[Ch] at hg
  have hx:=hv x (by simp[Op.operands])
  rw[hp] at hx
  obtain⟨w',h',hr,s',x',hg⟩:=Are (P:=P) ok hbad s hi hg hx (hv y (by simp[Op.operands]))
  exact g.skip rfl hr s' x' hg
 case nilCheck x=>
  obtain⟨v,h',hr,hg2⟩:=Dm hbad (show good (Dz C k (Ag (eval C x f) h)) from hg)
  clear hg
  obtain⟨u,hu,hvr,e⟩:=A7n (P:=P) (w:=w) (ρ:=a.eval) (o:=⟨dst,.nilCheck x,type,pos,after,guard⟩) rfl (hv x (by simp[Op.operands])) hr
  have e:h'=h:=e
  subst e
  exact g.here s hu hvr hg2
 case binOp b t x y q=>
  obtain⟨v,hr,hg⟩:=Ox hbad (show good (Option.rec C.bad (fun v=>k v h) (Ajn C.E b t x y (eval C x f) (eval C y f))) from hg)
  obtain⟨u,hu,hvr⟩:=A2e (w:=w) ok hr (hv x (by simp[Op.operands])) (hv y (by simp[Op.operands]))
  exact g.value rfl (.here s hu hvr) hg
 case unOp b t x=>
  obtain⟨v,hr,hg⟩:=Ox hbad (show good (Option.rec C.bad (fun v=>k v h) (unA b (eval C x f))) from hg)
  obtain⟨u,hu,hvr⟩:=A4x (P:=P) (w:=w) hr (hv x (by simp[Op.operands]))
  exact g.value rfl (.here s hu hvr) hg
 case convert src d x=>
  obtain⟨v,h',hr,hg⟩:=Dm hbad (show good (Dz C k (Ia C.E h src d (eval C x f))) from hg)
  have hc:(C.E.ty src).isSome=true:=by simp only[Aag,Bool.and_eq_true] at hop;exact hop.2
  exact g.value rfl (Alf ok s (hv x (by simp[Op.operands])) hc hr) hg
 case makeInterface t x=>
  obtain⟨v,h',hr,hg⟩:=Dm hbad (show good (Dz C k (Nl C.E t (eval C x f) h)) from hg)
  exact g.value rfl (Ako ok s hr (hv x (by simp[Op.operands]))) hg
 case makeFunc fn xs ys=>
  have hg:good (Ik C f xs.toList (fun a=>Ik C f ys.toList (fun b=>k (.func fn a b) h))):=hg
  rw[Gr,Gr] at hg
  have hfn:FnR μ fn fn:=by
   have hp:Aff fn=true:=by simp only[Aag,Bool.and_eq_true] at hop;exact hop.2
   cases fn<;>first|exact rfl|cases hp
  have h1:VRs μ (xs.toList.map fun x=>eval C x f) (xs.map a.eval).toList:=by
   rw[Array.toList_map]
   exact VRs.map fun x hx=>hv x (by simp[Op.operands] at hx ⊢;exact .inl hx)
  have h2:VRs μ (ys.toList.map fun x=>eval C x f) (ys.map a.eval).toList:=by
   rw[Array.toList_map]
   exact VRs.map fun x hx=>hv x (by simp[Op.operands] at hx ⊢;exact .inr hx)
  have hvr:VR μ (.func fn (xs.toList.map fun x=>eval C x f) (ys.toList.map fun x=>eval C x f)) (.func fn (xs.map a.eval) (ys.map a.eval)):=⟨fn,_,_,rfl,hfn,h1,h2,by
   have hp:Aff fn=true:=by simp only[Aag,Bool.and_eq_true] at hop;exact hop.2
   cases fn<;>first|exact trivial|cases hp⟩
  exact g.here s rfl hvr hg
 case makeMap t r=>
  cases r with
  |some=>exact absurd hg hbad
  |none=>
   have hg:good (h.Cs (.map [] 0) (fun b h=>k (.map b) h)):=hg
   rw[Mj] at hg
   exact g.value rfl (Akp s t) hg
 case makeSlice t x y=>
  obtain⟨v,h',hr,hg⟩:=Dm hbad (show good (Dz C k (Ap C.E t (fun e ei=>Ge (Bp (eval C x f)) (Bp (eval C y f)) h e ei))) from hg)
  exact g.value rfl (Afm ok s (hv x (by simp[Op.operands])) (hv y (by simp[Op.operands])) hr) hg
 case slice t x lo hi mx=>
  obtain⟨v,h',hr,hg2⟩:=Dm hbad (show good (Dz C k (Option.rec none (fun m=>Fm h (Kk C.E h t (eval C x f) (Rf C f lo) (Rf C f hi) m)) (maxOf (Rf C f mx)))) from hg)
  obtain⟨m,hm,hr⟩:=Af hr
  obtain⟨hr,e⟩:=Io hr
  have e:h'=h:=e
  subst e
  rw[Ai3] at hm hr
  rw[Ai3] at hr
  have hs:(mx.map a.eval).isSome=true→(hi.map a.eval).isSome=true:=by
   simp only[Aag,Bool.and_eq_true] at hop
   intro h1
   have h2:=hop.2
   simp only[Option.isSome_map] at h1 ⊢
   rw[h1] at h2
   simpa using h2
  obtain⟨u,hu,hvr⟩:=Arh (P:=P) ok s (hv x (by simp[Op.operands]))
   (Qg.of (μ:=μ) (a:=a) (C:=C) (f:=f) (x:=lo) fun y e=>hv y (by simp[Op.operands,e]))
   (Qg.of (μ:=μ) (a:=a) (C:=C) (f:=f) (x:=hi) fun y e=>hv y (by simp[Op.operands,e]))
   (Qg.of (μ:=μ) (a:=a) (C:=C) (f:=f) (x:=mx) fun y e=>hv y (by simp[Op.operands,e])) hs hm hr
  exact g.value rfl (.here s hu hvr) hg2
 case fieldAddr t x i=>
  obtain⟨b,off,hp,hg⟩:=Sh hbad (show good (Yg.rec C.bad (fun b off=>Option.rec C.bad (fun o=>k (.ptr b (Nat.add off o)) h) (Wz C.E t i)) (Tb (eval C x f))) from hg)
  obtain⟨q,hq,hg⟩:=Ox hbad hg
  have hx:=hv x (by simp[Op.operands])
  rw[hp] at hx
  obtain⟨u,hu,hvr⟩:=Ak4 (P:=P) (w:=w) ok hq hx
  exact g.value rfl (.here s hu hvr) hg
 case field t x i=>
  obtain⟨v,h',hr,hg⟩:=Dm hbad (show good (Dz C k (Sa C.E t (eval C x f) i h)) from hg)
  exact g.value rfl (Av3 ok s hr (hv x (by simp[Op.operands]))) hg
 case indexAddr t x y=>
  obtain⟨v,h',hr,hg⟩:=Dm hbad (show good (Dz C k (Gf C.E t (eval C x f) (Bp (eval C y f)) h)) from hg)
  exact g.value rfl (Akx ok s hr (hv x (by simp[Op.operands])) (hv y (by simp[Op.operands]))) hg
 case index t x y=>
  obtain⟨v,h',hr,hg⟩:=Dm hbad (show good (Dz C k (Mo C.E t (eval C x f) (Bp (eval C y f)) h)) from hg)
  exact g.value rfl (Avm ok s hr (hv x (by simp[Op.operands])) (hv y (by simp[Op.operands]))) hg
 case lookup t x y b=>
  obtain⟨v,h',hr,hg⟩:=Dm hbad (show good (Dz C k (Db C.E t (eval C x f) (eval C y f) b h)) from hg)
  exact g.value rfl (Arp ok s hr (hv x (by simp[Op.operands])) (hv y (by simp[Op.operands]))) hg
 case mapUpdate t m x y=>
  obtain⟨v,h',hr,hg⟩:=Dm hbad (show good (Dz C k (Dj C.E t (eval C m f) (eval C x f) (eval C y f) h)) from hg)
  obtain⟨e1,w',μ',hrun,s',x'⟩:=Uw (P:=P) ok s hr (hv m (by simp[Op.operands])) (hv x (by simp[Op.operands])) (hv y (by simp[Op.operands]))
  have e1:v=.undef:=e1
  subst e1
  exact g.skip rfl hrun s' x' hg
 case mapEntry t x y=>
  obtain⟨v,h',hr,hg⟩:=Dm hbad (show good (Dz C k (Pg C.E t (eval C x f) (eval C y f) h)) from hg)
  exact g.value rfl (Aif ok s hr (hv x (by simp[Op.operands])) (hv y (by simp[Op.operands]))) hg
 case entryStore t m x y=>
  obtain⟨v,h',hr,hg⟩:=Dm hbad (show good (Dz C k (Ky (eval C m f) (Bp (eval C x f)) (eval C y f) h)) from hg)
  obtain⟨e1,w',μ',hrun,s',x'⟩:=Acg (P:=P) (t:=t) s hr (hv m (by simp[Op.operands])) (hv x (by simp[Op.operands])) (hv y (by simp[Op.operands]))
  have e1:v=.undef:=e1
  subst e1
  exact g.skip rfl hrun s' x' hg
 case range t x=>
  obtain⟨v,h',hr,hg⟩:=Dm hbad (show good (Dz C k (Yy C.E t (eval C x f) h)) from hg)
  exact g.value rfl (Ats ok s hr (hv x (by simp[Op.operands]))) hg
 case next x b=>
  obtain⟨v,h',hr,hg⟩:=Dm hbad (show good (Dz C k (Af9 (eval C x f) b h)) from hg)
  exact g.value rfl (A0o s hr (hv x (by simp[Op.operands]))) hg
 case entry x=>
  obtain⟨v,h',hr,hg⟩:=Dm hbad (show good (Dz C k (Yz (eval C x f) h)) from hg)
  exact g.value rfl (Awl s hr (hv x (by simp[Op.operands]))) hg
 case typeAssert x t u b=>
  obtain⟨v,h',hr,hg⟩:=Dm hbad (show good (Dz C k (Vl C.E u (eval C x f) b h)) from hg)
  exact g.value rfl (Ase ok s hr (hv x (by simp[Op.operands]))) hg
 case extract x i=>
  obtain⟨v,h',hr,hg⟩:=Dm hbad (show good (Dz C k (Nn (eval C x f) i h)) from hg)
  exact g.value rfl (Ak6 s hr (hv x (by simp[Op.operands]))) hg
 case call c=>
  have hargs:∀x∈c.args.toList,VR μ (eval C x f) (a.eval x):=fun x hx=>hv x (by
   obtain⟨callee,args,ats⟩:=c
   cases callee<;>simp[Op.operands,Call.operands] at hx ⊢<;>simp[hx])
  have hvs:VRs μ (c.args.toList.map fun x=>eval C x f) (c.args.map a.eval).toList:=by
   rw[Array.toList_map];exact VRs.map hargs
  obtain⟨callee,args,ats⟩:=c
  cases callee with
  |invoke x name=>
   have hg:good (Ik C f args.toList (fun l=>Adu C call (eval C x f) name l h k)):=hg
   rw[Gr] at hg
   have hx:=hv x (by simp[Op.operands,Call.operands])
   generalize eval C x f=fv at hg hx
   cases fv<;>try exact absurd hg hbad
   rename_i t y
   obtain⟨vy,e,hy⟩:=hx
   have hg:good (match Aia C.E t name with|some F=>call (.func F) (y::(args.toList.map fun x=>eval C x f)) h k|none=>C.bad):=hg
   cases hm:Aia C.E t name with
   |none=>rw[hm] at hg;exact absurd hg hbad
   |some F=>
    rw[hm] at hg
    have hcc:=hcall μ h w (.func F) (.func F) _ (#[vy]++args.map a.eval) k s gl rfl (by
     simp only[Array.toList_append]
     exact VRs.append (as:=[y]) (vs:=[vy]) ⟨vy,[],rfl,hy,rfl⟩ hvs) hg
    have hrun:(execOp a.eval ⟨dst,.call ⟨.invoke x name,args,ats⟩,type,pos,after,guard⟩).run P w=(callFunc F (#[vy]++args.map a.eval)).run P w:=by
     show(do let d ←resolve a.eval ⟨.invoke x name,args,ats⟩ type;invoke d.target d.args:Sem Next).run P w=_
     rw[show resolve a.eval ⟨.invoke x name,args,ats⟩ type=pure { target:=.fn (.method name) #[],args:=#[.iface t vy]++args.map a.eval } from by
      show(pure { target:=.fn (.method name) #[],args:=#[a.eval x]++args.map a.eval }:Sem Deferred)=_
      rw[e],Aa run_pure]
     exact Ake ok hm
    rcases hcc with⟨fid,hfid,hc⟩|⟨l,F,tmps,as,bd,hl,hr,hround⟩
    · cases hfid
      rcases hc with⟨v,w',μ',av,h',hr,s',x',hvr,hg'⟩|⟨hr,hcalls⟩
      · refine Iu (by intro c h;cases h) ?_
        rw[hrun,hr]
        exact g _ _ _ _ _ s' x' hvr hg'
      · refine Iu (by intro c h;cases h) ?_
        rw[hrun,hr]
        refine⟨fun h=>Bool.noConfusion h,Agp (Calls.mono hcalls fun e w' he=>?_)⟩
        obtain⟨v,μ',av,h',rfl,s',x',hvr,hg'⟩:=he
        exact g _ _ _ _ _ s' x' hvr hg'
    · cases hl
  |builtin b=>
   have hg:good (Ik C f args.toList (fun l=>Dz C k (Ar C.E b ats.toList l h))):=hg
   rw[Gr] at hg
   obtain⟨v,h',hr,hg⟩:=Dm hbad hg
   obtain⟨sm,he,d⟩:=Alp (P:=P) (ty:=type) (cs:=args.map fun|.const _=>true|_=>false) ok s hr hvs
   exact g.value (sm:=sm) he d hg
  |value x=>
   have hg:good (Ik C f args.toList (fun l=>Mq C call (eval C x f) l h k)):=hg
   rw[Gr] at hg
   have hx:=hv x (by simp[Op.operands,Call.operands])
   generalize eval C x f=fv at hg hx
   cases fv<;>try exact absurd hg hbad
   rename_i fn first cap
   obtain⟨fn',vs,ws,e,hfn,h1,h2,hy⟩:=hx
   have hg:good (call fn (first++(args.toList.map fun x=>eval C x f)++cap) h k):=hg
   have hcc:=hcall μ h w fn fn' _ (vs++args.map a.eval++ws) k s gl hfn (by
    simp only[Array.toList_append]
    exact(h1.append hvs).append h2) hg
   have hres:∀t,t=fn'→resolve a.eval ⟨.value x,args,ats⟩ type=pure { target:=.fn t ws,args:=vs++args.map a.eval }:=by
    intro t ht
    show Deferred.ofValue (a.eval x) (args.map a.eval)=_
    rw[e,ht];rfl
   rcases hcc with⟨fid,rfl,hc⟩|⟨l,F,tmps,as,bd,rfl,hr,hround⟩
   · have hrun:(execOp a.eval ⟨dst,.call ⟨.value x,args,ats⟩,type,pos,after,guard⟩).run P w=(callFunc fid (vs++args.map a.eval++ws)).run P w:=by
      show(do let d ←resolve a.eval ⟨.value x,args,ats⟩ type;invoke d.target d.args:Sem Next).run P w=_
      rw[hres _ rfl,Aa run_pure]
      rfl
     rcases hc with⟨v,w',μ',av,h',hr,s',x',hvr,hg'⟩|⟨hr,hcalls⟩
     · refine Iu (by intro c h;cases h) ?_
       rw[hrun,hr]
       exact g _ _ _ _ _ s' x' hvr hg'
     · refine Iu (by intro c h;cases h) ?_
       rw[hrun,hr]
       refine⟨fun h=>Bool.noConfusion h,Agp (Calls.mono hcalls fun e w' he=>?_)⟩
       obtain⟨v,μ',av,h',rfl,s',x',hvr,hg'⟩:=he
       exact g _ _ _ _ _ s' x' hvr hg'
   · have hws:ws=#[]:=by
      cases fn<;>try exact hfn.elim
      cases(show cap=[] from hy)
      have:ws.toList=[]:=h2
      exact Array.toList_eq_nil_iff.1 this
     have hrun:(execOp a.eval ⟨dst,.call ⟨.value x,args,ats⟩,type,pos,after,guard⟩).run P w=(Instr.yield l (vs++args.map a.eval++ws)).run P w:=by
      show(do let d ←resolve a.eval ⟨.value x,args,ats⟩ type;invoke d.target d.args:Sem Next).run P w=_
      rw[hres _ rfl,Aa run_pure,hws,Array.append_empty]
      rfl
     refine Iu (by intro c h;cases h) ?_
     rw[hrun,hr]
     refine⟨fun h=>Bool.noConfusion h,RoundIn.mono (Az3 hround) fun e w' he=>?_⟩
     obtain⟨v,μ',av,h',rfl,s',x',hvr,hg'⟩:=he
     exact g _ _ _ _ _ s' x' hvr hg'
 all_goals exact absurd hg hbad
end
end Go.Den
