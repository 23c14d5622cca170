/-
  A part of the proof: DenY, DenY2, DenY3, DenY4, DenY5, DenY6, DenZ, DenZ2, DenZ3.
-/
import Derived.Test.YtpjkiikmjddpiaaGreatDoorDenB
import Derived.Lib.UnsafeStr
import Derived.CallsIn
import Derived.TacticsIn
/-
  Iterators and built-in functions.
-/
namespace Go.Den
open Go.RowKit

section
variable{T:Type}{P:Program}{w:World}{μ:Mu}{h:Hp T}
theorem Does.of_run{s t:Sem Value}{a:AV}{h':Hp T}(hr:s.run P w=t.run P w)(d:Does P μ h w t a h'):Does P μ h w s a h':=by
  obtain⟨v,w',μ',h1,h2⟩:=d
  exact⟨v,w',μ',hr.trans h1,h2⟩
theorem EsR.length{μ:Mu}:∀{a:Es}{es:List MapEntry},EsR μ a es→es.length=a.length
  |[],_,r=>by rw[show _=[] from r];rfl
  |_::_,_,⟨x,xs,e,_,_,_,h⟩=>by subst e;simp[EsR.length h]
theorem run_getObj{r:Nat}{o:Obj}(hb:w.heap[r]? =some o)(hn:∀c e f,o≠.cells c e f):(getObj r).run P w=.ok o w:=by
  unfold getObj
  cases o<;>first|exact absurd rfl (hn _ _ _)|simp only[Sem.run,hb]
theorem run_setObj{r:Nat}{o:Obj}(x:Obj)(hb:w.heap[r]? =some o)(hn:∀c e f,o≠.cells c e f):
    ∃w',(setObj r x).run P w=.ok () w'∧w'.heap.size=w.heap.size∧(∀k,k≠r→w'.heap[k]? =w.heap[k]?)∧w'.heap[r]? =some x∧w'.os=w.os∧w'.tape=w.tape∧w'.output=w.output:=by
  refine⟨{ w with heap:=w.heap.setIfInBounds r x },?_,?_,?_,?_,rfl,rfl,rfl⟩
  · unfold setObj
    cases o<;>first|exact absurd rfl (hn _ _ _)|simp only[Sem.run,hb]
  · simp
  · intro k hk;simp only[Array.getElem?_setIfInBounds];rw[if_neg (fun e=>hk e.symm)]
  · have:r<w.heap.size:=(Array.getElem?_eq_some_iff.1 hb).1
    simp[this]
/-- an object of the run's own is another one now -/
theorem Sim.putObj{Pr:Program}(s:Sim μ h w){b:Go.Den.P}{l:Loc}{o':Obj}(ho:(h.at b).own=true)(hl:μ b=some l)(hb:w.heap[l.blk]? =some o')(hn:∀c e f,o'≠.cells c e f)(x:Obj)(o:Ob T)
    (hx:∀w':World,w'.heap[l.blk]? =some x→ObR μ w' l o):∃w',(setObj l.blk x).run Pr w=.ok () w'∧Sim μ (h.put b o) w'∧Ext' μ h w μ (h.put b o) w':=by
  obtain⟨w',hr,h1,h2,h3,h4,h5,h6⟩:=run_setObj (P:=Pr) x hb hn
  exact⟨w',hr,s.put ho hl o w' h1 h2 (hx w' h3) h4 h5 h6⟩
theorem decode_low{s:ByteArray}{pos c:Nat}(h:s[pos]? =some (UInt8.ofNat c))(hc:c<128):Utf8.decode s pos=(c,1):=by
  have hlt:pos<s.size:=by
    rcases Nat.lt_or_ge pos s.size with h'|h'
    · exact h'
    · rw[getElem?_neg s pos (by omega)] at h;cases h
  have hget:(s.get! pos).toNat=c:=by
    rw[getElem?_pos s pos hlt] at h
    have e:s.get! pos=s[pos]:=by
      show s.data[pos]! =s.data[pos]
      rw[getElem!_pos]
    rw[e,Option.some.inj h];simp;omega
  unfold Utf8.decode
  simp only[Nat.add_zero,hget]
  rw[if_pos hc]
theorem next_ok(s:Sim μ h w){a:AV}{b:Bool}{ty:TypeId}{r:AV×Hp T}(hr:exNext a b h=some r){vx:Value}(hx:VR μ a vx):Does P μ h w (Instr.next vx b ty) r.1 r.2:=by
  cases a<;>simp only[exNext] at hr<;>try cases hr
  rename_i p o
  cases hat:h.at p<;>rw[hat] at hr<;>simp only at hr<;>try cases hr
  rename_i l c pos
  obtain⟨hb,hr⟩:=bool_inv hr
  obtain⟨hb1,hb2⟩:=band_inv hb
  obtain rfl:=hb1
  obtain rfl:=beq_inv hb2
  obtain⟨q,hq,rfl⟩:=hx
  have hob:=s.ob p q (by rw[hat];simp) hq
  rw[hat] at hob
  obtain⟨str,hblk,hstr,hoff⟩:=hob
  unfold nextStr at hr
  unfold Instr.next
  simp only[hoff,Nat.zero_add]
  refine Does.of_run (run_bind_ok (run_getObj hblk (by intros;simp))) ?_
  simp only
  by_cases hlt:pos<str.size
  · have:Nat.ble (Nat.add pos 1) l=true:=Nat.ble_eq_true_of_le (by rw[hstr.1];exact hlt)
    rw[this] at hr
    obtain⟨h128,hr⟩:=bool_inv' (show(Bool.rec (some (.tuple [.bool true,.int .i64 (.ofNat pos),.int .i32 (.ofNat (strGet c pos))],h.put p (.iter l c (Nat.add pos 1)))) none (Nat.ble 128 (strGet c pos)):Option (AV×Hp T))=some r from hr)
    cases hr
    obtain⟨hg,_⟩:=hstr.get (show pos<l by rw[hstr.1];exact hlt)
    have hc:strGet c pos<128:=by
      rw[natble] at h128
      simpa using h128
    rw[if_pos hlt,decode_low hg hc]
    obtain⟨w',hw',s',x'⟩:=s.putObj (Pr:=P) (by rw[hat];rfl) hq hblk (by intros;simp) (.stringIter str (pos+1)) (.iter l c (Nat.add pos 1)) fun w' hw'=>⟨str,hw',hstr,hoff⟩
    refine⟨.tuple #[.bool true,goInt pos,.int .i32 (strGet c pos:Nat)],w',μ,?_,s',x',_,rfl,_,_,rfl,rfl,_,_,rfl,rfl,_,_,rfl,rfl,rfl⟩
    simp only
    rw[run_bind_ok hw'];rfl
  · have:Nat.ble (Nat.add pos 1) l=false:=by
      rw[natble,hstr.1];simp;show str.size<pos+1;omega
    rw[this] at hr
    cases hr
    rw[if_neg hlt]
    exact .here s (v:=.tuple #[.bool false]) rfl ⟨_,rfl,_,_,rfl,rfl,rfl⟩

theorem lastN_eq:∀(l:List Nat),lastN l=l.getLast?
  |[]=>rfl
  |[x]=>rfl
  |x::y::l=>by
    show lastN (y::l)=_
    rw[lastN_eq (y::l),List.getLast?_cons_cons]
theorem findB_ok{μ:Mu}(n:Nat):∀{es:List (AV×AV×Nat)}{xs:List MapEntry},EsR μ es xs→∀{e},findB n es=some e→∃x,xs.find? (·.born==n)=some x∧VR μ e.1 x.key∧VR μ e.2.1 x.val
  |[],_,_,e,h=>by cases h
  |a::es,_,⟨x,xs,rfl,h1,h2,h3,h4⟩,e,h=>by
    have h:(Bool.rec (findB n es) (some a) (Nat.beq a.2.2 n):Option _)=some e:=h
    rw[List.find?_cons,←h3]
    cases hb:Nat.beq a.2.2 n with
    |true=>
      rw[hb] at h;cases h
      have:=beq_inv hb
      refine⟨x,?_,h1,h2⟩
      rw[show(a.2.2==n)=true from by simpa using this]
    |false=>
      rw[hb] at h
      have hne:¬a.2.2=n:=fun e=>by rw[e,Nat.beq_refl] at hb;cases hb
      rw[show(a.2.2==n)=false from by simpa using hne]
      exact findB_ok n h4 h
theorem entry_ok(s:Sim μ h w){a:AV}{r:AV×Hp T}(hr:exEntry a h=some r){vx:Value}(hx:VR μ a vx):Does P μ h w (Instr.entry vx) r.1 r.2:=by
  cases a<;>simp only[exEntry] at hr<;>try cases hr
  rename_i p o
  cases hat:h.at p<;>rw[hat] at hr<;>simp only at hr<;>try cases hr
  rename_i m since seen stepped
  obtain⟨hb,hr⟩:=bool_inv hr
  obtain rfl:=beq_inv hb
  obtain⟨q,hq,hr⟩:=opt_inv (show exEntry2 (esOf (h.at m)) seen stepped h=some r from hr)
  obtain⟨hck,hr⟩:=bool_inv hr
  obtain⟨n,hn,hr⟩:=opt_inv hr
  obtain⟨e,he,hr⟩:=opt_inv hr
  cases hr
  obtain⟨l,hl,rfl⟩:=hx
  have hob:=s.ob p l (by rw[hat];simp) hl
  rw[hat] at hob
  obtain⟨lm,hlm,hblk,hoff⟩:=hob
  have hatm:h.at m=.map q.1 q.2:=by cases hat:h.at m<;>rw[hat] at hq<;>simp only[esOf] at hq<;>cases hq;rfl
  have hobm:=s.ob m lm (by rw[hatm];simp) hlm
  rw[hatm] at hobm
  obtain⟨xs,hblkm,hes⟩:=hobm
  obtain⟨x,hx,h1,h2⟩:=findB_ok n hes he
  refine .here s (v:=.tuple #[x.key,x.val]) ?_ ⟨_,rfl,_,_,rfl,h1,_,_,rfl,h2,rfl⟩
  unfold Instr.entry
  simp only[hoff,Nat.zero_add]
  rw[run_bind_ok (run_getObj hblk (by intros;simp))]
  simp only
  have hback:seen.toArray.back? =some n:=by rw[←Array.getLast?_toList];rw[←lastN_eq];exact hn
  rw[hback]
  simp only
  rw[run_bind_ok (run_getObj hblkm (by intros;simp))]
  simp only
  have hck:=beq_inv hck
  rw[if_neg (by simp[hck])]
  have hx':xs.find? (·.born==n)=some x:=by rw[←Array.find?_toList];exact hx
  rw[hx'];rfl

/-! ### Built-in functions -/
theorem biLen_ok{E:Env}(ok:EnvOk P E)(s:Sim μ h w){ats:Array TypeId}{ty:TypeId}{x:AV}{r:AV×Hp T}(hr0:biLen E ats.toList x h=some r){vx:Value}(hx:VR μ x vx):Does P μ h w (Builtin.len_ ats ty #[vx]) r.1 r.2:=by
  obtain⟨t,ht,hr1⟩:=opt_inv hr0
  clear hr0
  obtain⟨ti,hti,hr⟩:=opt_inv hr1
  clear hr1
  obtain⟨_,_,k⟩:=ok.ty _ _ hti
  have hu:=k.und
  have ht:ats[0]? =some t:=by rw[←Array.getElem?_toList,←getL_eq];exact ht
  have go:∀(v:Value)(z:Int),((do
      match ti.desc,vx with
      |.string,.string s=>pure (goInt s.size)
      |.array n _,_=>pure (goInt n)
      |.pointer arr,_=>
        let .array n _ ← underlying arr | stuck "len: pointer to array expected"
        pure (goInt n)
      |.slice _,.slice _ n _=>pure (goInt n)
      |.map _ _,.map none|.chan _ _,.chan none=>pure (goInt 0)
      |.map _ _,.map (some r)=>
        let .map entries _ ← getObj r | stuck "len: map expected"
        pure (goInt entries.size)
      |.chan _ _,.chan (some r)=>
        let .chan _ buf _ _ _ timer ← getObj r | stuck "len: channel expected"
        pure (goInt (if timer then 0 else buf.size))
      | _, _ => stuck "len: string, array, pointer to array, slice, map or channel expected" : Sem Value)).run P w = .ok v w → (Builtin.len_ ats ty #[vx]).run P w = .ok v w := fun v z hv => by
    unfold Builtin.len_
    simp only[ht,List.getElem?_toArray,List.getElem?_cons_zero]
    rw[run_bind_ok (run_und hu)]
    exact hv
  cases hd:ti.desc<;>rw[hd] at hr go<;>simp only[lenD] at hr<;>try cases hr
  case string=>
    cases x<;>simp only at hr<;>cases hr
    obtain⟨str,rfl,hstr⟩:=hx
    refine .here s (go (goInt str.size) 0 rfl) ?_
    rw[hstr.1];exact rfl
  case slice e=>
    cases x<;>simp only at hr<;>cases hr
    · cases hx;exact .here s (go (goInt 0) 0 rfl) rfl
    · obtain⟨_,_,rfl,_⟩:=hx
      exact .here s (go _ 0 rfl) rfl
  case map kt e=>
    cases x<;>simp only at hr<;>try cases hr
    · cases hx;exact .here s (go (goInt 0) 0 rfl) rfl
    · rename_i b
      obtain⟨p,hp,hr⟩:=opt_inv hr
      cases hr
      obtain⟨l,hl,rfl⟩:=hx
      have hat:h.at b=.map p.1 p.2:=by cases hat:h.at b<;>rw[hat] at hp<;>simp only[esOf] at hp<;>cases hp;rfl
      have hob:=s.ob b l (by rw[hat];simp) hl
      rw[hat] at hob
      obtain⟨xs,hblk,hes⟩:=hob
      refine .here s (go (goInt xs.size) 0 ?_) ?_
      · simp only
        rw[run_bind_ok (run_getObj hblk (by intros;simp))];rfl
      · rw[len_eq,←EsR.length hes];exact rfl
  case array n e=>exact .here s (go (goInt n) 0 rfl) rfl
  case pointer a=>
    obtain⟨p,hp,hr⟩:=opt_inv hr
    cases hr
    refine .here s (go (goInt p.1) 0 ?_) rfl
    simp only
    rw[run_bind_ok (run_und (arrOf_inv ok hp))];rfl
end
end Go.Den
/-
  Built-in functions.
-/
namespace Go.Den
open Go.RowKit

section
variable{T:Type}{P:Program}{w:World}{μ:Mu}{h:Hp T}
theorem biCap_ok{E:Env}(ok:EnvOk P E)(s:Sim μ h w){ats:Array TypeId}{ty:TypeId}{x:AV}{r:AV×Hp T}(hr0:biCap E ats.toList x h=some r){vx:Value}(hx:VR μ x vx):Does P μ h w (Builtin.cap_ ats ty #[vx]) r.1 r.2:=by
  obtain⟨hs,hr⟩:=bool_inv hr0
  clear hr0
  unfold isSl at hs
  cases ht:getL ats.toList 0 with
  |none=>rw[ht] at hs;cases hs
  |some t=>
    rw[ht] at hs
    have hs:(Option.rec false (fun _=>true) (elemOf' E t):Bool)=true:=hs
    cases he:elemOf' E t with
    |none=>rw[he] at hs;cases hs
    |some e=>
      have ht:ats[0]? =some t:=by rw[←Array.getElem?_toList,←getL_eq];exact ht
      obtain⟨ti,hti,he⟩:=opt_inv he
      obtain⟨_,_,k⟩:=ok.ty _ _ hti
      have hu:=k.und
      cases hd:ti.desc<;>rw[hd] at he hu<;>simp only at he<;>cases he
      cases x<;>simp only[capV] at hr<;>try cases hr
      · cases hx
        refine .here s (v:=goInt 0) ?_ rfl
        unfold Builtin.cap_
        simp only[ht,List.getElem?_toArray,List.getElem?_cons_zero]
        rw[run_bind_ok (run_und hu)];rfl
      · rename_i b o n sz tg
        cases tg<;>simp only at hr<;>cases hr
        obtain⟨a,cap,rfl,_,hcap,_⟩:=hx
        refine .here s (v:=goInt n) ?_ rfl
        unfold Builtin.cap_
        simp only[ht,List.getElem?_toArray,List.getElem?_cons_zero]
        rw[run_bind_ok (run_und hu),hcap.1 rfl];rfl
theorem max_ok(s:Sim μ h w){ats:Array TypeId}{ty:TypeId}{x y:AV}{r:AV×Hp T}(hr0:withH h (max2 x y)=some r){vx vy:Value}(hx:VR μ x vx)(hy:VR μ y vy):Does P μ h w (Builtin.max_ ats ty #[vx,vy]) r.1 r.2:=by
  obtain⟨hr,h2⟩:=withH_inv hr0
  clear hr0
  rw[h2]
  cases x<;>simp only[max2] at hr<;>try cases hr
  cases y<;>simp only at hr<;>try cases hr
  rename_i k a k' b
  cases hx;cases hy
  have e:=hr
  refine .here s (v:=.int k (if b>a then b else a)) ?_ ?_
  · rfl
  · have:r.1=.int k (Bool.rec a b (iblt a b)):=(Option.some.inj e).symm
    rw[this,iblt_eq]
    show Value.int k _=Value.int k _
    by_cases hlt:a<b<;>simp[hlt]
theorem min_ok(s:Sim μ h w){ats:Array TypeId}{ty:TypeId}{x y:AV}{r:AV×Hp T}(hr0:withH h (min2 x y)=some r){vx vy:Value}(hx:VR μ x vx)(hy:VR μ y vy):Does P μ h w (Builtin.min_ ats ty #[vx,vy]) r.1 r.2:=by
  obtain⟨hr,h2⟩:=withH_inv hr0
  clear hr0
  rw[h2]
  cases x<;>simp only[min2] at hr<;>try cases hr
  cases y<;>simp only at hr<;>try cases hr
  rename_i k a k' b
  cases hx;cases hy
  have e:=hr
  refine .here s (v:=.int k (if b<a then b else a)) ?_ ?_
  · rfl
  · have:r.1=.int k (Bool.rec a b (iblt b a)):=(Option.some.inj e).symm
    rw[this,iblt_eq]
    show Value.int k _=Value.int k _
    by_cases hlt:b<a<;>simp[hlt]
theorem sliceData_ok(s:Sim μ h w){ats:Array TypeId}{ty:TypeId}{x:AV}{r:AV×Hp T}(hr:biSliceData x h=some r){vx:Value}(hx:VR μ x vx):Does P μ h w (Builtin.unsafeSliceData_ ats ty #[vx]) r.1 r.2:=by
  cases x<;>simp only[biSliceData] at hr<;>try cases hr
  · cases hx;exact .here s (v:=.pointer none) rfl rfl
  · rename_i b o n sz tg
    cases n<;>simp only at hr<;>cases hr
    obtain⟨a,cap,rfl,hn,_,hl⟩:=hx
    obtain⟨q,hq,rfl,_⟩:=hl.resolve_left (by omega)
    obtain⟨c,rfl⟩:∃c,cap=c+1:=⟨cap-1,by omega⟩
    exact .here s (v:=.pointer (some ⟨q.blk,q.off+o,none⟩)) rfl ⟨q,hq,rfl⟩

/-! ### Copies -/
theorem bytes_cells(s:ByteArray)(n:Nat):((s.extract 0 n).data.map fun b=>Value.int .u8 b.toNat).toList=(s.data.toList.map fun b=>Value.int .u8 b.toNat).take n:=by
  rw[ByteArray.data_extract]
  simp
/-- what 'append' and 'copy' take their elements from -/
theorem cellsOfArg_ok{_E:Env}(s:Sim μ h w){sz:Nat}{x:AV}{p:Nat×List AV}(hr:cellsOfArg h sz x=some p){vx:Value}(hx:VR μ x vx):
    (Builtin.lenOf vx).run P w=.ok p.1 w∧p.2.length=p.1*sz∧p.2.all AV.one=true∧∀n,n≤p.1→∃cs,(Builtin.firstCells sz n vx).run P w=.ok cs w∧VRs μ (p.2.take (n*sz)) cs.toList:=by
  cases x<;>simp only[cellsOfArg] at hr<;>try cases hr
  case nils=>
    cases hx
    refine⟨rfl,by simp,rfl,fun n _=>⟨#[],rfl,?_⟩⟩
    rw[List.take_nil];exact(rfl:([]:List Value)=[])
  case str l c=>
    obtain⟨hz,hr⟩:=bool_inv hr
    cases hr
    obtain rfl:=beq_inv hz
    obtain⟨str,rfl,rfl,rfl⟩:=hx
    refine⟨rfl,by rw[length_byteCells];simp,byteCells_ones _ _,fun n _=>⟨_,rfl,?_⟩⟩
    rw[bytes_cells,Nat.mul_one]
    exact(byteCells_ok μ str).take n
  case slice b o n z tg=>
    obtain⟨hz,hr⟩:=bool_inv hr
    obtain⟨cs,hcs,hr⟩:=opt_inv hr
    cases hr
    obtain rfl:=beq_inv hz
    obtain⟨a,cap,rfl,hn,⟨_,_,hm0⟩,hl⟩:=hx
    obtain⟨l',vs,e',fz,as,hl',hrow,_,hle,hv,ho,hlen,hg⟩:=s.read (good:=fun o=>o=some cs) (bad:=none) (fun e=>nomatch e) (k:=some) hm0 hcs
    cases hg
    refine⟨rfl,hlen,ho,fun m hm=>?_⟩
    have hmz:m*z≤n*z:=Nat.mul_le_mul_right _ hm
    by_cases h0:m*z=0
    · refine⟨#[],?_,?_⟩
      · show(loadCells a (m*z)).run P w=_
        rw[h0];rfl
      · rw[h0,List.take_zero];exact(rfl:([]:List Value)=[])
    · have:cap≠0:=fun e=>by
        have:n=0:=by omega
        subst this
        have:m=0:=by omega
        subst this
        exact h0 (by simp)
      obtain⟨q,hq,rfl,_⟩:=hl.resolve_left this
      obtain rfl:q=l':=by rw[hq] at hl';exact Option.some.inj hl'
      have hle:q.off+o+n*z≤vs.size:=hle
      refine⟨_,run_loadCells hrow (m*z) (by omega),?_⟩
      have:=hv.take (m*z)
      simp only[Array.toList_extract,List.extract_eq_take_drop] at this ⊢
      rw[List.take_take] at this
      rw[show q.off+o+m*z-(q.off+o)=m*z from by omega]
      rw[show min (m*z) (q.off+o+Nat.mul n z-(q.off+o))=m*z from by
        have:Nat.mul n z=n*z:=rfl
        omega] at this
      exact this
theorem copy_ok {E : Env} (ok : EnvOk P E) (s : Sim μ h w) {ats : Array TypeId} {ty : TypeId} {x y : AV} {r : AV × Hp T} (hr0 : withElemO E (getL ats.toList 0) (fun e ei => exCopy x y h e ei) = some r) {vx vy : Value} (hx : VR μ x vx) (hy : VR μ y vy) :
    Does P μ h w (Builtin.copy_ ats ty #[vx, vy]) r.1 r.2 := by
  obtain ⟨t, ht, hr1⟩ := opt_inv hr0
  clear hr0
  have ht : ats[0]? = some t := by rw [← Array.getElem?_toList, ← getL_eq]; exact ht
  obtain ⟨e, ei, hu, he, hr2⟩ := withElem_inv ok hr1
  clear hr1
  obtain ⟨_, _, k⟩ := ok.ty _ _ he
  obtain ⟨p, hp, hr⟩ := opt_inv hr2
  clear hr2
  obtain ⟨hlen, hpl, hone, hcells⟩ := cellsOfArg_ok (P := P) (_E := E) s hp hy
  have start : ∀ (base : Option Addr) (dLen cap : Nat), vx = .slice base dLen cap → ∀ (cs : Array Value), (Builtin.firstCells ei.size (Nat.min p.1 dLen) vy).run P w = .ok cs w →
      (Builtin.copy_ ats ty #[vx, vy]).run P w = (do if let some a := base then storeCells a cs.toList
                                                     pure (goInt (Nat.min p.1 dLen)) : Sem Value).run P w := by
    intro base dLen cap e1 cs hcs
    subst e1
    unfold Builtin.copy_
    simp only [ht, List.getElem?_toArray, List.getElem?_cons_zero, List.getElem?_cons_succ]
    rw [run_bind_ok (run_und hu)]
    simp only
    rw [run_bind_ok hlen, run_bind_ok k.rsize, run_bind_ok hcs]
    cases base <;> rfl
  cases x <;> simp only at hr <;> try cases hr
  case nils =>
    cases hx
    obtain ⟨cs, hcs, _⟩ := hcells (Nat.min p.1 0) (Nat.min_le_left _ _)
    refine .here s (v := goInt 0) ?_ rfl
    rw [start none 0 0 rfl cs hcs, show Nat.min p.1 0 = 0 from Nat.min_zero _]
    rfl
  case slice b o n z tg =>
    obtain ⟨hz, hr⟩ := bool_inv hr
    have hz := beq_inv hz
    obtain ⟨a, cap, rfl, hn, ⟨_, _, hm0⟩, hl⟩ := hx
    -- how many, and the write
    have fin : ∀ (m : Nat) (as : List AV), Nat.min p.1 n = m → as = p.2.take (m * ei.size) → intH m (h.write b o as) = some r → Does P μ h w (Builtin.copy_ ats ty #[.slice (some a) n cap, vy]) r.1 r.2 := by
      intro m as hm has hr
      obtain ⟨h', hw, hr⟩ := opt_inv hr
      cases hr
      obtain ⟨cs, hcs, hv⟩ := hcells m (by rw [← hm]; exact Nat.min_le_left _ _)
      rw [← has] at hv
      have hone' : as.all AV.one = true := by
        rw [has, List.all_eq_true]
        intro x hx
        exact (List.all_eq_true.1 hone) x (List.mem_of_mem_take hx)
      obtain ⟨l, w', h'', hl', hrun, s', x', hg⟩ := s.write (Pr := P) (good := fun o => o = some h') (bad := none) (fun e => nomatch e) (k := some) hm0 hw hv hone'
      cases hg
      refine ⟨goInt m, w', μ, ?_, s', x', rfl⟩
      rw [start (some a) n cap rfl cs (by rw [hm]; exact hcs), hm]
      by_cases h0 : cap = 0
      · -- nothing is stored
        subst h0
        have hn0 : n = 0 := by omega
        subst hn0
        have hm0 : m = 0 := by rw [← hm]; exact Nat.min_zero _
        subst hm0
        have hcs0 : cs.toList = [] := by
          have := hv.length
          rw [has] at this
          simpa using this
        rw [hcs0] at hrun ⊢
        have hrun : (Result.ok () w : Result Unit) = .ok () w' := hrun
        cases hrun
        rfl
      · obtain ⟨q, hq, rfl, _⟩ := hl.resolve_left h0
        rw [hq] at hl'; cases hl'
        simp only
        rw [run_bind_ok hrun]; rfl
    cases hb : Nat.ble p.1 n with
    | true =>
      rw [hb] at hr
      have hb := ble_inv hb
      refine fin p.1 p.2 (Nat.min_eq_left hb) ?_ hr
      rw [← hpl, List.take_length]
    | false =>
      rw [hb] at hr
      have hb : ¬ p.1 ≤ n := fun h' => by rw [Nat.ble_eq_true_of_le h'] at hb; cases hb
      refine fin n _ (Nat.min_eq_right (by omega)) ?_ hr
      rw [takeL_eq]; rfl
end
end Go.Den
/-
  append; unsafe.String.
-/
namespace Go.Den
open Go.RowKit

section
variable{T:Type}{P:Program}{w:World}{μ:Mu}{h:Hp T}
theorem isIntT_inv{E:Env}(ok:EnvOk P E){ats:Array TypeId}{zf:Bool}(hz:isIntT E (getL ats.toList 1)=some zf):∃t d,ats[1]? =some t∧P.underlying t=some d∧isIntD d=zf:=by
  obtain⟨t,ht,hz⟩:=opt_inv hz
  obtain⟨ti,hti,hz⟩:=opt_inv hz
  obtain⟨_,_,k⟩:=ok.ty _ _ hti
  cases hz
  exact⟨t,ti.desc,by rw[←Array.getElem?_toList,←getL_eq];exact ht,k.und,rfl⟩
def appended(size:Nat)(e:TypeId)(zeros:Bool)(n:Nat)(vx:Value):Sem (Array Value):=
  if !zeros then Builtin.firstCells size n vx
  else if n*size=0 then pure #[]
  else do pure (Builtin.zeroCells (←zeroValue e).cells n)
/-- how 'append' begins, and what it goes on with -/
theorem append_run{ats:Array TypeId}{ty t t1 e:TypeId}{d1:TypeDesc}(ht:ats[0]? =some t)(ht1:ats[1]? =some t1)(hu:P.underlying t=some (.slice e))(hu1:P.underlying t1=some d1)
    {ti:TypeInfo} (hinfo:P.info? e=some ti) {base:Option Addr} {sLen sCap:Nat} {vx:Value} {k:Nat}
    (hk:(isIntD d1=false∧(Builtin.lenOf vx).run P w=.ok k w)∨(isIntD d1=true∧(∃kk,vx=.int kk (k:Int))∧k≤1099511627776∧k*ti.bytes≤281474976710656))
    (hneed:sLen+k≤1099511627776) (hbytes:(sLen+k)*ti.bytes≤140737488355328):
    (Builtin.append_ ats ty #[.slice base sLen sCap,vx]).run P w=
      if sLen+k≤sCap then(do
          let new ←appended ti.size e (isIntD d1) k vx
          if let some a:=base then storeCells (a.add (sLen*ti.size)) new.toList
          pure (.slice base (sLen+k) sCap):Sem Value).run P w
      else(do
          let old ←Builtin.firstCells ti.size sLen (.slice base sLen sCap)
          let new ←appended ti.size e (isIntD d1) k vx
          let rest:=Builtin.zeroCells (←zeroValue e).cells (grownCap w (sLen+k) sCap e-(sLen+k))
          pure (.slice (some (←newRow e (old++new++rest))) (sLen+k) (grownCap w (sLen+k) sCap e)):Sem Value).run P w.drew:=by
  have hs:(sizeOf e).run P w=.ok ti.size w:=by unfold sizeOf;rw[run_bind_ok (run_info hinfo)];rfl
  have hi:(typeInfo e).run P w=.ok ti w:=run_info hinfo
  unfold Builtin.append_
  simp only[ht,ht1,List.getElem?_toArray,List.getElem?_cons_zero,List.getElem?_cons_succ]
  rw[run_bind_ok (run_und hu)]
  simp only
  rw[run_bind_ok hs]
  rw[run_bind_ok (run_und hu1)]
  refine Eq.trans (run_bind_ok (a:=isIntD d1) (w':=w) ?_) ?_
  · clear hk hu1
    cases d1<;>rfl
  have h1:∀z:Prop,¬(((sLen+k:Nat):Int)>IntKind.i64.max∧(z∨ti.bytes=0)):=by
    rintro z ⟨h,_⟩
    have:IntKind.i64.max=9223372036854775807:=rfl
    rw[this] at h
    omega
  have hi':(typeInfo e).run P w.drew=.ok ti w.drew:=run_info hinfo
  have hch:(choose (.appendCap (sLen+k) sCap e)).run P w=.ok (grownCap w (sLen+k) sCap e) w.drew:=by
    rw[run_choose_drew];rfl
  have h2:¬sLen+k≤sCap→¬(Builtin.nextslicecap (sLen+k) sCap*ti.bytes>2^48):=by
    intro hle
    have hnc:=nextslicecap_le (need:=sLen+k) (old:=sCap) (by omega)
    have:Builtin.nextslicecap (sLen+k) sCap*ti.bytes≤2*(sLen+k)*ti.bytes:=Nat.mul_le_mul_right _ hnc
    rw[Nat.mul_assoc] at this
    omega
  rcases hk with⟨h3,h4⟩|⟨h3,⟨kk,rfl⟩,h4,h5⟩
  · rw[h3,if_neg (by simp),run_bind_ok h4]
    by_cases hle:sLen+k≤sCap
    · rw[if_pos hle,if_pos hle]
      cases base<;>rfl
    · rw[if_neg hle,if_neg hle]
      rw[run_bind_ok hi,if_neg (h1 _),run_bind_ok hi,if_neg (h2 hle)]
      rw[run_bind_ok hch,run_bind_ok hi',run_bind_ok (run_askRoom _)]
      rfl
  · rw[h3,if_pos rfl]
    rw[run_bind_ok (show(asInt (.int kk (k:Int))).run P w=.ok (k:Int) w from rfl)]
    simp only[wrap_nat (show k≤9223372036854775807 by omega)]
    rw[if_neg (by omega),run_bind_ok hi,if_neg (by
      have:((k*ti.bytes:Nat):Int)≤281474976710656:=by omega
      rw[Int.natCast_mul] at this
      omega)]
    rw[Int.toNat_natCast,run_bind_ok run_pure]
    by_cases hle:sLen+k≤sCap
    · rw[if_pos hle,if_pos hle]
      cases base<;>rfl
    · rw[if_neg hle,if_neg hle]
      rw[run_bind_ok hi,if_neg (h1 _),run_bind_ok hi,if_neg (h2 hle)]
      rw[run_bind_ok hch,run_bind_ok hi',run_bind_ok (run_askRoom _)]
      rfl
end
end Go.Den
/-
  append.
-/
namespace Go.Den
open Go.RowKit

section
variable{T:Type}{P:Program}{w:World}{μ:Mu}{h:Hp T}
/-- a new row's cells, of which more are behind -/
theorem CellsR.newApp{as:List AV}{pre rest:List Value}{vs:Array Value}(h:VRs μ as pre)(ho:as.all AV.one=true)(g:Nat)(hv:vs.toList=pre++rest):CellsR μ (tget (tlist as 0 .e)) as.length ⟨g,0,vs.size⟩ vs:=by
  have hlen:=h.length
  have hsz:vs.size=pre.length+rest.length:=by rw[←Array.length_toList,hv,List.length_append]
  refine⟨rfl,by simp;omega,fun i hi=>?_⟩
  have ha:as[i]? =some as[i]:=List.getElem?_eq_getElem hi
  obtain⟨v,hv',hr⟩:=h.get _ _ ha
  rw[tget_tlist,if_pos (by omega),List.getD_eq_getElem?_getD,Nat.sub_zero,ha]
  refine⟨v,?_,hr,(List.all_eq_true.1 ho) _ (List.getElem_mem _)⟩
  rw[Nat.zero_add,←Array.getElem?_toList,hv,List.getElem?_append_left (by omega)]
  exact hv'
theorem zeroCells_eq(zs:Array Value)(n:Nat):Builtin.zeroCells zs n=cyc zs (n*zs.size):=rfl
theorem zeroArg_inv{ei:TI}{y:AV}{p:Nat×List AV}(hp:zeroArg ei y=some p):∃kk n,y=.int kk (.ofNat n)∧p=(n,repl ei.zero n):=by
  cases y with
  |int kk n=>
    cases n with
    |ofNat n=>
      obtain⟨_,hp⟩:=bool_inv hp
      cases hp;exact⟨kk,n,rfl,rfl⟩
    |negSucc n=>cases hp
  |_=>cases hp
theorem appended_ok{E:Env}(ok:EnvOk P E)(s0:Sim μ h w){e:TypeId}{ei:TI}(he:E.ty e=some ei){zf:Bool}{y:AV}{p:Nat×List AV}(hp:newCells (some zf) h ei y=some p)(hzs:ei.zero.length=ei.size){vy:Value}(hy:VR μ y vy):
    p.2.length=p.1*ei.size∧p.2.all AV.one=true∧(∀w1,Sim μ h w1→∃cs,(appended ei.size e zf p.1 vy).run P w1=.ok cs w1∧VRs μ p.2 cs.toList)∧
    ((zf=false∧∀w1,Sim μ h w1→(Builtin.lenOf vy).run P w1=.ok p.1 w1)∨(zf=true∧(∃kk,vy=.int kk (p.1:Int)))):=by
  obtain⟨_,z,k⟩:=ok.ty _ _ he
  cases zf with
  |false=>
    have hp:cellsOfArg h ei.size y=some p:=hp
    have key:=fun(w1:World)(s:Sim μ h w1)=>cellsOfArg_ok (P:=P) (_E:=E) s hp hy
    obtain⟨_,pure1,pure2,_⟩:=key w s0
    refine⟨pure1,pure2,fun w1 s=>?_,.inl ⟨rfl,fun w1 s=>(key w1 s).1⟩⟩
    obtain⟨_,hl,_,hc⟩:=key w1 s
    obtain⟨cs,hcs,hv⟩:=hc p.1 (Nat.le_refl _)
    rw[←hl,List.take_length] at hv
    exact⟨cs,hcs,hv⟩
  |true=>
    obtain⟨kk,n,rfl,hp2⟩:=zeroArg_inv (show zeroArg ei y=some p from hp)
    subst hp2
    cases hy
    have hzl:=(k.cells μ).length
    simp only[Array.length_toList] at hzl
    refine⟨by rw[length_repl,hzs],repl_ones k.ones n,fun w1 s=>?_,.inr ⟨rfl,kk,rfl⟩⟩
    unfold appended
    simp only[Bool.not_true,Bool.false_eq_true,if_false]
    have hrep:=repl_ok (k.cells μ) n
    by_cases h0:n*ei.size=0
    · rw[if_pos h0]
      refine⟨#[],rfl,?_⟩
      have:repl ei.zero n=[]:=List.eq_nil_of_length_eq_zero (by rw[length_repl,hzs,h0])
      rw[this];exact(rfl:([]:List Value)=[])
    · rw[if_neg h0,run_bind_ok k.rzero]
      exact⟨_,rfl,hrep⟩
/-- the model's append that takes a new row -/
theorem grow_run {μ : Mu} {E : Env} (ok : EnvOk P E) {e : TypeId} {ei : TI} (he : E.ty e = some ei) (hzs : ei.zero.length = ei.size) {base : Option Addr} {n cap k : Nat} {zf : Bool} {vy : Value} {old new : List AV} {co cn : Array Value}
    (hold : (Builtin.firstCells ei.size n (.slice base n cap)).run P w.drew = .ok co w.drew) (ho : VRs μ old co.toList) (hol : old.length = n * ei.size)
    (hnew : (appended ei.size e zf k vy).run P w.drew = .ok cn w.drew) (hn : VRs μ new cn.toList) (hnl : new.length = k * ei.size) :
    ∃ (vs : Array Value) (c : Nat) (rest : List Value), (do
          let old ← Builtin.firstCells ei.size n (.slice base n cap)
          let new ← appended ei.size e zf k vy
          let rest := Builtin.zeroCells (← zeroValue e).cells (grownCap w (n + k) cap e - (n + k))
          pure (.slice (some (← newRow e (old ++ new ++ rest))) (n + k) (grownCap w (n + k) cap e)) : Sem Value).run P w.drew = .ok (.slice (some ⟨w.heap.size, 0, none⟩) (n + k) c) (w.drew.alloc (.cells vs e)) ∧
      vs.toList = (co.toList ++ cn.toList) ++ rest ∧ n + k ≤ c ∧ vs.size = c * ei.size := by
  obtain ⟨_, z, kk⟩ := ok.ty _ _ he
  have hcap := grownCap_ge w (n + k) cap e
  have hzl := (kk.cells μ).length
  simp only [Array.length_toList] at hzl
  have l1 := ho.length
  have l2 := hn.length
  simp only [Array.length_toList] at l1 l2
  refine ⟨co ++ cn ++ Builtin.zeroCells z.cells (grownCap w (n + k) cap e - (n + k)), grownCap w (n + k) cap e, (Builtin.zeroCells z.cells (grownCap w (n + k) cap e - (n + k))).toList, ?_, by simp, hcap, ?_⟩
  · rw [run_bind_ok hold, run_bind_ok hnew, run_bind_ok kk.rzero]
    rfl
  · simp only [Array.size_append, l1, l2, hol, hnl, zeroCells_eq]
    have : (cyc z.cells ((grownCap w (n + k) cap e - (n + k)) * z.cells.size)).size = (grownCap w (n + k) cap e - (n + k)) * ei.size := by
      simp [cyc, hzl, hzs]
    rw [this, ← Nat.add_mul, ← Nat.add_mul]
    congr 1; omega
theorem append_ok {E : Env} (ok : EnvOk P E) (s : Sim μ h w) {ats : Array TypeId} {ty : TypeId} {x y : AV} {r : AV × Hp T} (hr0 : withElemO E (getL ats.toList 0) (fun e ei => exAppend (isIntT E (getL ats.toList 1)) x y h e ei) = some r) {vx vy : Value} (hx : VR μ x vx) (hy : VR μ y vy) :
    Does P μ h w (Builtin.append_ ats ty #[vx, vy]) r.1 r.2 := by
  obtain ⟨t, ht, hr1⟩ := opt_inv hr0
  clear hr0
  have ht : ats[0]? = some t := by rw [← Array.getElem?_toList, ← getL_eq]; exact ht
  obtain ⟨e, ei, hu, he, hr2⟩ := withElem_inv ok hr1
  clear hr1
  obtain ⟨ti, z, k⟩ := ok.ty _ _ he
  obtain ⟨p, hp, hr3⟩ := opt_inv hr2
  clear hr2
  obtain ⟨hg, hr⟩ := bool_inv hr3
  clear hr3
  obtain ⟨hsl, hg⟩ := band_inv hg
  obtain ⟨hg1, hg2⟩ := band_inv hg
  obtain ⟨hg3, hg4⟩ := band_inv hg1
  obtain ⟨hg5, hg6⟩ := band_inv hg2
  have hzs : ei.zero.length = ei.size := by have := beq_inv hg3; rwa [len_eq] at this
  have hpos := ble_inv hg4
  have hneed : lenOfS x + p.1 ≤ 1099511627776 := ble_inv hg5
  have hby : (lenOfS x + p.1) * ei.bytes ≤ 140737488355328 := ble_inv hg6
  clear hg hg1 hg2 hg3 hg4 hg5 hg6
  obtain ⟨zf, hzf, hp'⟩ := opt_inv hp
  obtain ⟨t1, d1, ht1, hu1, hd1⟩ := isIntT_inv ok hzf
  obtain ⟨hnl, hno, hnew, hkind⟩ := appended_ok (P := P) ok s he (show newCells (some zf) h ei y = some p from hp') hzs hy
  -- the model's two ways
  have sd : Sim μ h w.drew := s.heap rfl
  have hrun := fun (base : Option Addr) (sLen sCap : Nat) (e1 : lenOfS x = sLen) => append_run (P := P) (w := w) (ty := ty) ht ht1 hu hu1 k.info (base := base) (sLen := sLen) (sCap := sCap) (vx := vy) (k := p.1)
    (by rw [hd1]
        rcases hkind with ⟨a, b⟩ | ⟨a, b⟩
        · exact .inl ⟨a, b w s⟩
        · refine .inr ⟨a, b, by omega, ?_⟩
          rw [k.bytes]
          have := Nat.mul_le_mul_right ei.bytes (Nat.le_add_left p.1 (lenOfS x))
          omega) (by rw [← e1]; exact hneed) (by rw [← e1, k.bytes]; exact hby)
  simp only [k.size, hd1] at hrun
  obtain ⟨cn, hcn, hvn⟩ := hnew w s
  obtain ⟨cd, hcd, hvd⟩ := hnew w.drew sd
  -- a new row
  have grows : ∀ (base : Option Addr) (n cap : Nat) (old : List AV) (co : Array Value), vx = .slice base n cap → lenOfS x = n → cap < n + p.1 → (Builtin.firstCells ei.size n (.slice base n cap)).run P w.drew = .ok co w.drew → VRs μ old co.toList → old.length = n * ei.size →
      ∃ (vs : Array Value) (c : Nat) (rest : List Value), (Builtin.append_ ats ty #[vx, vy]).run P w = .ok (.slice (some ⟨w.heap.size, 0, none⟩) (n + p.1) c) (w.drew.alloc (.cells vs e)) ∧
        vs.toList = (co.toList ++ cd.toList) ++ rest ∧ n + p.1 ≤ c ∧ vs.size = c * ei.size := by
    intro base n cap old co e1 e2 e3 e4 e5 e6
    obtain ⟨vs, c, rest, h1, h2, h3, h4⟩ := grow_run ok he hzs e4 e5 e6 hcd hvd hnl
    refine ⟨vs, c, rest, ?_, h2, h3, h4⟩
    rw [e1, hrun base n cap e2, if_neg (by omega)]
    exact h1
  have fresh : ∀ (old : List AV) (co : Array Value) (vs : Array Value) (n c : Nat) (rest : List Value), VRs μ old co.toList → old.all AV.one = true → old.length = n * ei.size → vs.toList = (co.toList ++ cd.toList) ++ rest → n + p.1 ≤ c → vs.size = c * ei.size →
      (Builtin.append_ ats ty #[vx, vy]).run P w = .ok (.slice (some ⟨w.heap.size, 0, none⟩) (n + p.1) c) (w.drew.alloc (.cells vs e)) →
      appNew e ei.size (n + p.1) (old ++ p.2) h = some r → Does P μ h w (Builtin.append_ ats ty #[vx, vy]) r.1 r.2 := by
    intro old co vs n c rest e1 e2 e3 e4 e5 e6 e7 e8
    cases e8
    have hl : (old ++ p.2).length = Nat.mul (n + p.1) ei.size := by
      rw [List.length_append, e3, hnl]; exact (Nat.add_mul _ _ _).symm
    obtain ⟨μ', s', x', hm⟩ := sd.newRow e (tlist (old ++ p.2) 0 .e) (Nat.mul (n + p.1) ei.size) false vs (fun μ' hle => by
      have := CellsR.newApp (g := w.drew.heap.size) ((e1.append hvd).mono hle) (by rw [List.all_append, e2, hno]; rfl) e4
      rwa [hl] at this) (fun e => nomatch e)
    refine ⟨_, _, μ', e7, s', (Ext'.heap μ h rfl rfl rfl rfl : Ext' μ h w μ h w.drew).trans x', slice_new (g := w.heap.size) (c := c) (by rw [hm, e6]; rfl) e5 (fun e => nomatch e)⟩
  cases hk : Nat.beq p.1 0 with
  | true =>
    rw [hk] at hr
    have hr : some (x, h) = some r := hr
    cases hr
    have hk := beq_inv hk
    have hcn0 : cn.toList = [] := by
      have h1 := hvn.length
      rw [hnl, hk, Nat.zero_mul] at h1
      exact List.eq_nil_of_length_eq_zero h1
    have go : ∀ (base : Option Addr) (n cap : Nat), vx = .slice base n cap → lenOfS x = n → n ≤ cap → (Builtin.append_ ats ty #[vx, vy]).run P w = .ok vx w := by
      intro base n cap e1 e2 e3
      rw [e1, hrun base n cap e2, if_pos (by omega), run_bind_ok hcn, hcn0, hk]
      cases base <;> rfl
    cases x <;> simp only [okSlice, Bool.false_eq_true] at hsl
    case nils => have hx' := hx; cases hx; exact .here s (go none 0 0 rfl rfl (Nat.le_refl _)) hx'
    case slice b o n sz tg =>
      have hx' := hx
      obtain ⟨a, cap, rfl, hn, _⟩ := hx
      exact .here s (go (some a) n cap rfl rfl hn) hx'
  | false =>
    rw [hk] at hr
    replace hr : appTo e ei.size x p.1 p.2 h = some r := hr
    have hk : p.1 ≠ 0 := fun e => by rw [e] at hk; cases hk
    cases x <;> simp only [okSlice, Bool.false_eq_true] at hsl
    case nils =>
      cases hx
      obtain ⟨vs, c, rest, h1, h2, h3, h4⟩ := grows none 0 0 [] #[] rfl rfl (by omega) rfl (show ([] : List Value) = [] from rfl) (by simp)
      exact fresh [] #[] vs 0 c rest (show ([] : List Value) = [] from rfl) rfl (by simp) h2 h3 h4 h1 (by rw [Nat.zero_add, List.nil_append]; exact hr)
    case slice b o n sz tg =>
      obtain ⟨hz, hr2⟩ := bool_inv (show (Bool.rec none (Bool.rec (appRow e b o n p.1 ei.size p.2 h (asRow (h.at b))) (Option.rec none (fun old => appNew e ei.size (Nat.add n p.1) (appL old p.2) h) (h.read b o (Nat.mul n ei.size))) tg) (Nat.beq sz ei.size) : Option (AV × Hp T)) = some r from hr)
      obtain rfl := beq_inv hz
      obtain ⟨a, cap, rfl, hn, htg, hl⟩ := hx
      cases tg with
      | true =>
        obtain ⟨old, hold, hr⟩ := opt_inv (show (Option.rec none (fun old => appNew e ei.size (Nat.add n p.1) (appL old p.2) h) (h.read b o (Nat.mul n ei.size)) : Option (AV × Hp T)) = some r from hr2)
        rw [appL_eq] at hr
        have hc := cellsOfArg_ok (P := P) (_E := E) sd (sz := ei.size) (x := .slice b o n ei.size true) (p := (n, old)) (by
          show (Bool.rec none (Option.rec none (fun cs => some (n, cs)) (h.read b o (Nat.mul n ei.size))) (Nat.beq ei.size ei.size) : Option (Nat × List AV)) = _
          rw [hold, Nat.beq_refl]) (vx := .slice (some a) n cap) ⟨a, cap, rfl, hn, htg, hl⟩
        obtain ⟨_, c2, c3, c4⟩ := hc
        obtain ⟨co, c5, c6⟩ := c4 n (Nat.le_refl _)
        have c2 : old.length = n * ei.size := c2
        have c6 : VRs μ old co.toList := by rw [← c2] at c6; simpa using c6
        obtain ⟨vs, c, rest, h1, h2, h3, h4⟩ := grows (some a) n cap old co rfl rfl (by have := htg.1 rfl; omega) c5 c6 c2
        exact fresh old co vs n c rest c6 c3 c2 h2 h3 h4 h1 hr
      | false =>
        replace hr : appRow e b o n p.1 ei.size p.2 h (asRow (h.at b)) = some r := hr2
        clear hr2
        have hrow := s.rowOf (b := b) htg.2.choose_spec rfl
        cases hro : asRow (h.at b) with
        | no => rw [hro] at hr; cases hr
        | ext c m => rw [hro] at hr; cases hr
        | row t' m z' e' whole =>
          rw [hro] at hr
          obtain ⟨hb, hr⟩ := bool_inv (show (Bool.rec none (some (.slice h.next o (Nat.add n p.1) ei.size false,
            (h.put b .dead).new (.row (tlist p.2 (Nat.add o (Nat.mul n ei.size)) t') (Nat.add o (Nat.mul (Nat.add n p.1) ei.size)) z' e' false)))
              (band (band (Nat.beq e e') (Nat.beq o 0)) (band (Nat.ble (Nat.add o (Nat.mul n ei.size)) m) (Nat.ble z' (Nat.add o (Nat.mul n ei.size))))) : Option (AV × Hp T)) = some r from hr)
          obtain ⟨hb1, hb2⟩ := band_inv hb
          obtain ⟨hb3, hb4⟩ := band_inv hb1
          obtain ⟨hb5, hb6⟩ := band_inv hb2
          obtain rfl := beq_inv hb3
          obtain rfl := beq_inv hb4
          have hb5 : 0 + n * ei.size ≤ m := ble_inv hb5
          have hb6 : z' ≤ 0 + n * ei.size := ble_inv hb6
          obtain ⟨hat, l, cs, fz, hlb, hblk, hc, hw, hf⟩ := hrow.1 _ _ _ _ _ hro
          have hown : (h.at b).own = true := by rw [hat]; rfl
          cases hr
          have e0 : Nat.add 0 (Nat.mul n ei.size) = n * ei.size := Nat.zero_add _
          have e1 : Nat.add 0 (Nat.mul (Nat.add n p.1) ei.size) = n * ei.size + p.1 * ei.size := (Nat.zero_add _).trans (Nat.add_mul _ _ _)
          rw [e0, e1]
          have hsz := hc.1
          have hsz2 := hc.2.1
          have hvnl := hvn.length
          rw [hnl] at hvnl
          have hcells : ∀ (μ' : Mu) (l' : Loc) (cs' : Array Value) (as : List Value), Mu.le μ μ' → VRs μ' p.2 as → l'.size = cs'.size → l'.off + n * ei.size + p.1 * ei.size ≤ cs'.size →
              (∀ i, i < n * ei.size → cs'[l'.off + i]? = cs[l.off + i]?) → (∀ i, i < p.1 * ei.size → cs'[l'.off + n * ei.size + i]? = as[i]?) →
              CellsR μ' (tget (tlist p.2 (n * ei.size) t')) (n * ei.size + p.1 * ei.size) l' cs' := by
            intro μ' l' cs' as hle hv h1 h2 h3 h4
            refine ⟨h1, by omega, fun i hi => ?_⟩
            rw [tget_tlist]
            by_cases hin : n * ei.size ≤ i ∧ i < n * ei.size + p.2.length
            · rw [if_pos hin]
              have ha : p.2[i - n * ei.size]? = some (p.2[i - n * ei.size]'(by omega)) := List.getElem?_eq_getElem (by omega)
              obtain ⟨v, hv', hr⟩ := hv.get _ _ ha
              rw [List.getD_eq_getElem?_getD, ha]
              refine ⟨v, ?_, hr, (List.all_eq_true.1 hno) _ (List.getElem_mem _)⟩
              have := h4 (i - n * ei.size) (by omega)
              rw [show l'.off + n * ei.size + (i - n * ei.size) = l'.off + i from by omega] at this
              rw [this, hv']
            · rw [if_neg hin]
              obtain ⟨v, hv', hr, ho⟩ := hc.2.2 i (by omega)
              exact ⟨v, by rw [h3 i (by omega), hv'], VR.mono hle _ _ hr, ho⟩
          by_cases hle : n + p.1 ≤ cap
          · -- in place
            have hc0 : cap ≠ 0 := by omega
            obtain ⟨q, hq, rfl, hqs⟩ := hl.resolve_left hc0
            rw [hlb] at hq; cases hq
            have hmul : (n + p.1) * ei.size ≤ cap * ei.size := Nat.mul_le_mul_right _ hle
            rw [Nat.add_mul] at hmul
            have hones : ∀ v ∈ cn.toList, v.oneCell' = true := by
              intro v hvm
              obtain ⟨i, hi, rfl⟩ := List.getElem_of_mem hvm
              have ha : p.2[i]? = some (p.2[i]'(by omega)) := List.getElem?_eq_getElem (by omega)
              obtain ⟨v, hv', hr'⟩ := hvn.get _ _ ha
              rw [List.getElem?_eq_getElem hi] at hv'; cases hv'
              exact hr'.oneCell ((List.all_eq_true.1 hno) _ (List.getElem_mem _))
            obtain ⟨w', hw', rs⟩ := run_storeCells' (P := P) (off := l.off + n * ei.size) cn.toList 0 cs w hblk (by omega) (fun j h1 h2 => hf (by omega) j (by omega) (by omega)) hones
            rw [Nat.add_zero] at rs
            have hget := fun j => get_splice cn.toList cs (l.off + n * ei.size) j (by omega)
            obtain ⟨s', x'⟩ := s.renew hown hlb (.row (tlist p.2 (n * ei.size) t') (n * ei.size + p.1 * ei.size) z' e false) w' rs.size rs.other (fun μ' hle' =>
              ⟨_, fz, rs.here, hcells μ' l _ cn.toList hle' (hvn.mono hle') (by simpa using hsz) (by simp; omega)
                (fun i hi => by rw [hget, if_neg (by omega)]) (fun i hi => by rw [hget, if_pos (by omega)]; congr 1; omega), (fun e => nomatch e),
                fun h1 i h2 h3 => hf (by omega) i h2 (by simpa using h3)⟩) rs.os rs.tape rs.output
            refine ⟨.slice (some ⟨l.blk, l.off + 0, none⟩) (n + p.1) cap, w', _, ?_, s', x', ⟨_, cap, rfl, hle, ⟨(fun e => nomatch e), _, Mu.set_same _ _ _⟩, .inr ⟨l, Mu.set_same _ _ _, rfl, hqs⟩⟩⟩
            rw [hrun _ n cap rfl, if_pos hle, run_bind_ok hcn]
            simp only [add_none, Nat.add_zero]
            rw [run_bind_ok hw']; rfl
          · -- a new row
            have hc := cellsOfArg_ok (P := P) (_E := E) sd (sz := ei.size) (x := .slice b 0 n ei.size false) (p := (n, funCells (tget t') (n * ei.size) 0)) (by
              show (Bool.rec none (Option.rec none (fun cs => some (n, cs)) (h.read b 0 (Nat.mul n ei.size))) (Nat.beq ei.size ei.size) : Option (Nat × List AV)) = _
              have : h.read b 0 (Nat.mul n ei.size) = some (funCells (tget t') (n * ei.size) 0) := by
                unfold Hp.read Hp.readK
                rw [hro]
                show rdRow 0 (n * ei.size) none some t' m = _
                unfold rdRow
                rw [show Nat.ble (Nat.add 0 (n * ei.size)) m = true from Nat.ble_eq_true_of_le hb5, ← getCells_fun]
              rw [this, Nat.beq_refl]) (vx := .slice (some a) n cap) ⟨a, cap, rfl, hn, htg, hl⟩
            obtain ⟨_, c2, c3, c4⟩ := hc
            obtain ⟨co, c5, c6⟩ := c4 n (Nat.le_refl _)
            have c2 : (funCells (tget t') (n * ei.size) 0).length = n * ei.size := c2
            have c6 : VRs μ (funCells (tget t') (n * ei.size) 0) co.toList := by
              have : List.take (n * ei.size) (funCells (tget t') (n * ei.size) 0) = funCells (tget t') (n * ei.size) 0 := by
                rw [List.take_of_length_le (by omega)]
              rw [← this]; exact c6
            obtain ⟨vs, c, rest, h1, h2, h3, h4⟩ := grows (some a) n cap _ co rfl rfl (by omega) c5 c6 c2
            obtain ⟨s1, x1⟩ := sd.put (o := .dead) hown hlb w.drew rfl (fun _ _ => rfl) trivial rfl rfl rfl
            have col := c6.length
            rw [c2] at col
            have cdl := hvd.length
            rw [hnl] at cdl
            obtain ⟨μ', s', x', hm⟩ : ∃ μ', Sim μ' ((h.put b .dead).new (.row (tlist p.2 (n * ei.size) t') (n * ei.size + p.1 * ei.size) z' e false)) (w.drew.alloc (.cells vs e)) ∧
                Ext' μ (h.put b .dead) w.drew μ' ((h.put b .dead).new (.row (tlist p.2 (n * ei.size) t') (n * ei.size + p.1 * ei.size) z' e false)) (w.drew.alloc (.cells vs e)) ∧ μ' h.next = some ⟨w.heap.size, 0, vs.size⟩ := by
              have hvl : vs.size = (co.toList ++ cd.toList ++ rest).length := by rw [← h2, Array.length_toList]
              simp only [List.length_append] at hvl
              obtain ⟨a1, a2⟩ := s1.alloc (.row (tlist p.2 (n * ei.size) t') (n * ei.size + p.1 * ei.size) z' e false) (.cells vs e) vs.size 0 fun μ' hle' =>
                ⟨vs, (0, 0), alloc_new _ _, (by
                  refine ⟨rfl, by simp; omega, fun i hi => ?_⟩
                  rw [tget_tlist]
                  by_cases hin : n * ei.size ≤ i ∧ i < n * ei.size + p.2.length
                  · rw [if_pos hin]
                    have ha : p.2[i - n * ei.size]? = some (p.2[i - n * ei.size]'(by omega)) := List.getElem?_eq_getElem (by omega)
                    obtain ⟨v, hv', hr⟩ := (hvd.mono hle').get _ _ ha
                    rw [List.getD_eq_getElem?_getD, ha]
                    refine ⟨v, ?_, hr, (List.all_eq_true.1 hno) _ (List.getElem_mem _)⟩
                    rw [Nat.zero_add, ← Array.getElem?_toList, h2, List.getElem?_append_left (by simp only [List.length_append]; omega), List.getElem?_append_right (by omega), col]
                    exact hv'
                  · rw [if_neg hin]
                    have hi' : i < n * ei.size := by omega
                    have ha : (funCells (tget t') (n * ei.size) 0)[i]? = some ((funCells (tget t') (n * ei.size) 0)[i]'(by omega)) := List.getElem?_eq_getElem (by omega)
                    obtain ⟨v, hv', hr⟩ := (c6.mono hle').get _ _ ha
                    have hg := getD_funCells (tget t') (n * ei.size) 0 i hi'
                    rw [List.getD_eq_getElem?_getD, ha, Nat.zero_add] at hg
                    have hg : (funCells (tget t') (n * ei.size) 0)[i]'(by omega) = tget t' i := hg
                    rw [hg] at hr
                    refine ⟨v, ?_, hr, ?_⟩
                    · rw [Nat.zero_add, ← Array.getElem?_toList, h2, List.getElem?_append_left (by simp only [List.length_append]; omega), List.getElem?_append_left (by omega)]
                      exact hv'
                    · have := (List.all_eq_true.1 c3) _ (List.getElem_mem (l := funCells (tget t') (n * ei.size) 0) (n := i) (by omega))
                      rwa [hg] at this), (fun e => nomatch e), fun _ i _ _ => by simp⟩
              exact ⟨_, a1, a2, Mu.set_same _ _ _⟩
            refine ⟨_, _, μ', h1, s', ((Ext'.heap μ h rfl rfl rfl rfl : Ext' μ h w μ h w.drew).trans x1).trans x', slice_new (g := w.heap.size) (c := c) (by rw [hm, h4]) h3 (fun e => nomatch e)⟩
end
end Go.Den
/-
  unsafe.String.
-/
namespace Go.Den
open Go.RowKit

section
variable{T:Type}{P:Program}{w:World}{μ:Mu}{h:Hp T}
theorem liesAt_byte{e u:TypeId}(hc:P.cellsOf e=1)(hu:P.underlying u=some (.int .u8))(he:P.underlying e=some (.int .u8))(count off n:Nat)(hn:off+n≤count):liesAt P P.depth e count off u n=true:=by
  have hd:P.depth=(2*(P.types.size+Made.depth)+1)+1:=rfl
  rw[hd]
  simp only[liesAt,Bool.or_eq_true]
  left
  rw[hd]
  have hs:∀d,sameLayout P (d+1) e u=true:=fun d=>by unfold sameLayout;rw[he,hu];simp
  unfold rowAt
  simp only[hc,Nat.one_ne_zero,if_false,Nat.div_one,Nat.mod_one,beq_self_eq_true,Bool.true_and,decide_eq_true hn,hs,Bool.true_or]
theorem run_freeze{b off n:Nat}{cs:Array Value}{e:TypeId}{fz:Nat×Nat}(hb:w.heap[b]? =some (.cells cs e fz)):
    ∃w' fz',(freeze ⟨b,off,none⟩ n).run P w=.ok () w'∧RowSet w w' b cs e fz':=by
  refine⟨w.freeze ⟨b,off,none⟩ n,?_⟩
  unfold World.freeze
  obtain⟨lo,hi⟩:=fz
  by_cases h0:n=0
  · subst h0
    exact⟨(lo,hi),by simp[freeze,Sem.run,World.freeze],by rw[if_pos rfl];exact .self hb⟩
  · rw[if_neg h0]
    refine⟨(if lo==hi then(off,off+n) else(min lo off,max hi (off+n))),by simp[freeze,Sem.run,World.freeze,h0],⟨?_,by simp,?_,rfl,rfl,rfl⟩⟩
    · simp only[Array.getElem?_modify,hb,if_true,Option.map_some]
    · intro k hk
      simp only[Array.getElem?_modify]
      rw[if_neg (fun e=>hk e.symm)]
theorem loadBytes_row{b off:Nat}{cs:Array Value}{e:TypeId}{fz:Nat×Nat}(hb:w.heap[b]? =some (.cells cs e fz))(bs:List UInt8)(hcs:∀j,j<bs.length→cs[off+j]? =(bs.map fun x=>Value.int .u8 x.toNat)[j]?):
    (loadBytes ⟨b,off,none⟩ .empty bs.length).run P w=.ok ⟨⟨bs⟩⟩ w:=by
  rw[Lib.run_loadBytes w bs ⟨b,off,none⟩ .empty (fun j x hx=>by
    have hj:j<bs.length:=(List.getElem?_eq_some_iff.1 hx).1
    rw[add_none,cell_row hb,hcs j hj];simp[hx])]
  congr 1
  apply ByteArray.ext;apply Array.ext';simp
theorem isPtrByte_inv {E : Env} (ok : EnvOk P E) {ats : Array TypeId} (hr : isPtrByte E (getL ats.toList 0) = true) : ∃ t u, ats[0]? = some t ∧ P.underlying t = some (.pointer u) ∧ P.underlying u = some (.int .u8) := by
  unfold isPtrByte at hr
  cases ht : getL ats.toList 0 with
  | none => rw [ht] at hr; cases hr
  | some t =>
    rw [ht] at hr
    have ht' : ats[0]? = some t := by rw [← Array.getElem?_toList, ← getL_eq]; exact ht
    cases hti : E.ty t with
    | none => have hr : (Option.rec false (fun ti => match ti.desc with
        | .pointer e => isByte E e
        | _ => false) (E.ty t) : Bool) = true := hr
              rw [hti] at hr; cases hr
    | some ti =>
      have hr : (Option.rec false (fun ti => match ti.desc with
        | .pointer e => isByte E e
        | _ => false) (E.ty t) : Bool) = true := hr
      rw [hti] at hr
      obtain ⟨_, _, k⟩ := ok.ty _ _ hti
      have hu := k.und
      have hr : (match ti.desc with
        | .pointer e => isByte E e
        | _ => false : Bool) = true := hr
      cases hd : ti.desc <;> rw [hd] at hr hu <;> simp only [Bool.false_eq_true] at hr
      exact ⟨t, _, ht', hu, isByte_inv ok hr⟩
theorem unsafeString_ok{E:Env}(ok:EnvOk P E)(s:Sim μ h w){ats:Array TypeId}{ty:TypeId}{x y:AV}{r:AV×Hp T}(hr0:(Bool.rec none (biString E x (natOf y) h) (isPtrByte E (getL ats.toList 0)):Option (AV×Hp T))=some r){vx vy:Value}(hx:VR μ x vx)(hy:VR μ y vy):
    Does P μ h w (Builtin.unsafeString_ ats ty #[vx,vy]) r.1 r.2:=by
  obtain⟨hp,hr1⟩:=bool_inv hr0
  clear hr0
  obtain⟨t,u,ht,hut,huu⟩:=isPtrByte_inv ok hp
  obtain⟨n,hn,hr⟩:=opt_inv hr1
  clear hr1
  obtain⟨kk,rfl⟩:=natOf_inv hn hy
  have hrun:∀(v:Option Addr),n≤9223372036854775807→(Builtin.unsafeString_ ats ty #[.pointer v,.int kk (n:Int)]).run P w=((match v with
    | none => if (n : Int) = 0 then pure (.string .empty) else runtimePanic (.error "unsafe.String: ptr is nil and len is not zero")
    |some a=>if(n:Int)=0 then pure (.string .empty) else do
        if ←variablesAt a (←elemOf t) (n:Int).toNat then do
          let s ←loadBytes a .empty (n:Int).toNat
          freeze a (n:Int).toNat
          pure (.string s)
        else unsupported (.unsafePointer "String: not so many bytes at ptr") : Sem Value)).run P w := by
    intro v hv
    have hdef:Builtin.unsafeString_ ats ty #[.pointer v,.int kk (n:Int)]=(do
        let n ←asInt (.int kk (n:Int))
        let some pt := ats[0]? | stuck "unsafe.String: no argument types"
        if n < 0 then runtimePanic (.error "unsafe.String: len out of range")
        if n > IntKind.i64.max then unsupported (.unsafePointer "String: a length above the largest int")
        match v with
        |none=>
          if n=0 then pure (.string .empty)
          else runtimePanic (.error "unsafe.String: ptr is nil and len is not zero")
        |some a=>
          if n=0 then pure (.string .empty)
          else if ←variablesAt a (←elemOf pt) n.toNat then do
            let s ←loadBytes a .empty n.toNat
            freeze a n.toNat
            pure (.string s)
          else unsupported (.unsafePointer "String: not so many bytes at ptr")) := rfl
    rw[hdef]
    rw[run_bind_ok (show(asInt (.int kk (n:Int))).run P w=.ok (n:Int) w from rfl)]
    have hmax:IntKind.i64.max=9223372036854775807:=rfl
    simp only[ht]
    rw[if_neg (by omega),if_neg (by rw[hmax];omega)]
  cases x<;>simp only at hr<;>try cases hr
  case nilp=>
    obtain⟨h0,hr⟩:=bool_inv hr
    cases hr
    obtain rfl:=beq_inv h0
    cases hx
    exact .here s (v:=.string .empty) (hrun none (by omega)) ⟨_,rfl,StrIs.empty⟩
  case ptr b o=>
    obtain⟨l,hl,rfl⟩:=hx
    cases h0:Nat.beq n 0 with
    |true=>
      rw[h0] at hr
      have hr:some (AV.str 0 0,h)=some r:=hr
      cases hr
      obtain rfl:=beq_inv h0
      exact .here s (v:=.string .empty) (hrun (some _) (by omega)) ⟨_,rfl,StrIs.empty⟩
    |false=>
      rw[h0] at hr
      have hn0:n≠0:=fun e=>by subst e;cases h0
      replace hr:usRow E b o n h (asRow (h.at b))=some r:=hr
      unfold usRow at hr
      have hrow:=s.rowOf (b:=b) hl rfl
      cases hro:asRow (h.at b) with
      |no=>rw[hro] at hr;cases hr
      |ext c m=>rw[hro] at hr;cases hr
      |row t' m z e whole=>
        rw[hro] at hr
        obtain⟨hb,hr2⟩:=bool_inv (show(Bool.rec none (strAns (h.put b (.row t' m (Nat.add m 1) e whole)) (cellBytes (getCells t' n o))) (band (isByte E e) (band (Nat.ble (Nat.add o n) m) (Nat.ble n (intMax .i64)))):Option (AV×Hp T))=some r from hr)
        obtain⟨hb1,hb2⟩:=band_inv hb
        obtain⟨hb2,hb3⟩:=band_inv hb2
        have hb2:o+n≤m:=ble_inv hb2
        have hb3:n≤9223372036854775807:=ble_inv hb3
        have heb:=isByte_inv ok hb1
        obtain⟨bl,hbl,hr3⟩:=opt_inv hr2
        cases hr3
        rw[getCells_fun] at hbl
        obtain⟨hat,l',cs,fz,hl',hblk,hc,hw,hf⟩:=hrow.1 _ _ _ _ _ hro
        rw[hl] at hl';cases hl'
        have hex:=hc.extract o n hb2
        obtain⟨bs,rfl,hbs⟩:=cellBytes_ok hbl hex
        have hbsl:bs.length=n:=by
          have:=hex.length
          rw[hbs] at this
          simpa using this
        obtain⟨w',fz',hfr,rs⟩:=run_freeze (P:=P) (off:=l.off+o) (n:=n) hblk
        obtain⟨s',x'⟩:=s.put (o:=.row t' m (Nat.add m 1) e whole) (by rw[hat];rfl) hl w' rs.size rs.other ⟨cs,fz',rs.here,hc,hw,fun h=>absurd h (by show¬m+1≤m;omega)⟩ rs.os rs.tape rs.output
        refine⟨.string ⟨⟨bs⟩⟩,w',μ,?_,s',x',strOf_ok μ bs⟩
        rw[hrun _ hb3]
        simp only
        rw[if_neg (by omega)]
        have he1:P.cellsOf e=1:=cellsOf_byte ok hb1
        have hvar:(variablesAt ⟨l.blk,l.off+o,none⟩ u n).run P w=.ok true w:=by
          have hsh:w.shape? l.blk=some (e,cs.size):=by simp[World.shape?,hblk]
          have h1:(shape l.blk).run P w=.ok (some (e,cs.size)) w:=by simp[shape,Sem.run,hsh]
          unfold variablesAt
          rw[run_bind_ok (show program.run P w=.ok P w from rfl),run_bind_ok h1]
          simp only[he1,Nat.div_one]
          have:=hc.2.1
          rw[liesAt_byte he1 huu heb cs.size (l.off+o) n (by omega)];rfl
        have hel:(elemOf t).run P w=.ok u w:=by unfold elemOf;rw[run_bind_ok (run_und hut)];rfl
        rw[Int.toNat_natCast,run_bind_ok hel,run_bind_ok hvar]
        simp only[if_true]
        have hload:(loadBytes ⟨l.blk,l.off+o,none⟩ .empty n).run P w=.ok ⟨⟨bs⟩⟩ w:=by
          rw[←hbsl]
          refine loadBytes_row hblk bs fun j hj=>?_
          rw[←hbs,Array.getElem?_toList,Array.getElem?_extract,if_pos (by have:=hc.2.1;omega)]
        rw[run_bind_ok hload,run_bind_ok hfr];rfl
end
end Go.Den
/-
  Maps.
-/
namespace Go.Den
open Go.RowKit

section
variable{T:Type}{P:Program}{w:World}{μ:Mu}{h:Hp T}
theorem EsR.get:∀{a:Es}{xs:List MapEntry},EsR μ a xs→∀(i:Nat)(e:AV×AV×Nat),a[i]? =some e→∃x,xs[i]? =some x∧VR μ e.1 x.key∧VR μ e.2.1 x.val∧e.2.2=x.born
  |[],_,_,i,e,h=>by simp at h
  |c::cs,_,⟨x,xs,e',h1,h2,h3,h4⟩,i,e,h=>by
    subst e'
    cases i with
    |zero=>simp at h;subst h;exact⟨x,rfl,h1,h2,h3⟩
    |succ i=>simp at h ⊢;exact EsR.get h4 i e h
theorem EsR.set:∀{a:Es}{xs:List MapEntry}{n:Nat}{e:AV×AV×Nat}{f:MapEntry→MapEntry},EsR μ a xs→(∀x,xs[n]? =some x→VR μ e.1 (f x).key∧VR μ e.2.1 (f x).val∧e.2.2=(f x).born)→EsR μ (setAt e n a) (xs.modify n f)
  |[],xs,n,e,f,h,_=>by
    cases(show xs=[] from h)
    cases n<;>exact(rfl:([]:List MapEntry)=[])
  |c::cs,_,0,e,f,⟨x,xs,e',h1,h2,h3,h4⟩,hf=>by
    subst e'
    obtain⟨a1,a2,a3⟩:=hf x rfl
    exact⟨f x,xs,rfl,a1,a2,a3,h4⟩
  |c::cs,_,n+1,e,f,⟨x,xs,e',h1,h2,h3,h4⟩,hf=>by
    subst e'
    exact⟨x,xs.modify n f,rfl,h1,h2,h3,EsR.set h4 fun y hy=>hf y (by simpa using hy)⟩
theorem EsR.del:∀{a:Es}{xs:List MapEntry}(n:Nat),EsR μ a xs→EsR μ (delAt n a) (xs.eraseIdx n)
  |[],xs,n,h=>by
    cases(show xs=[] from h)
    cases n<;>exact(rfl:([]:List MapEntry)=[])
  |c::cs,_,0,⟨x,xs,e',h1,h2,h3,h4⟩=>by subst e';exact h4
  |c::cs,_,n+1,⟨x,xs,e',h1,h2,h3,h4⟩=>by subst e';exact⟨x,xs.eraseIdx n,rfl,h1,h2,h3,EsR.del n h4⟩
theorem EsR.push:∀{a:Es}{xs:List MapEntry}{e:AV×AV×Nat}{x:MapEntry},EsR μ a xs→VR μ e.1 x.key→VR μ e.2.1 x.val→e.2.2=x.born→EsR μ (a++[e]) (xs++[x])
  |[],xs,e,x,h,h1,h2,h3=>by cases(show xs=[] from h);exact⟨x,[],rfl,h1,h2,h3,rfl⟩
  |c::cs,_,e,x,⟨y,ys,e',a1,a2,a3,a4⟩,h1,h2,h3=>by subst e';exact⟨y,ys++[x],rfl,a1,a2,a3,EsR.push a4 h1 h2 h3⟩
theorem beqBytes(a b:ByteArray):(a==b)=(a.toList==b.toList):=beq_toListBytes a b
theorem sameNow_ok{d:TypeDesc}{k y:AV}{vk vy:Value}{b:Bool}(hp:plainOk d k=true)(h:eqPl k y=some b)(hk:VR μ k vk)(hy:VR μ y vy):Instr.sameNow d vk vy=some b∧(b=true→Instr.sameBits 10000 vy vk=true):=by
  cases k with
  |bool a=>
    cases d<;>simp only[plainOk] at hp<;>try cases hp
    cases y<;>simp only[eqPl,eqBl] at h<;>cases h
    cases hk;cases hy
    rw[beqB_eq]
    refine⟨rfl,fun e=>?_⟩
    show(_==_)=true
    simp at e ⊢;exact e.symm
  |int k a=>
    cases d<;>simp only[plainOk] at hp<;>try cases hp
    cases y<;>simp only[eqPl,eqInt] at h<;>try cases h
    cases hk;cases hy
    split at h
    · rename_i e;subst e;cases h
      rw[ibeq_eq]
      refine⟨by simp[Instr.sameNow],fun e=>?_⟩
      show(_==_&&_==_)=true
      simp at e ⊢;exact e.symm
    · cases h
  |str l c=>
    cases d<;>simp only[plainOk] at hp<;>try cases hp
    cases y<;>simp only[eqPl,eqStr] at h<;>cases h
    obtain⟨s,rfl,hs⟩:=hk
    obtain⟨s',rfl,hs'⟩:=hy
    have e1:=hs.eq hs'
    rw[←natbeq,←natbeq,←band_eq,←beqBytes] at e1
    refine⟨congrArg some e1,fun e=>?_⟩
    rw[←e1] at e
    show(s'==s)=true
    rw[beqBytes] at e ⊢
    simp at e ⊢;exact e.symm
  |_=>simp[plainOk] at hp
/-- what is found, in both -/
def HitR(μ:Mu)(_es:Es)(xs:List MapEntry)(vk:Value)(i:Nat)(r:Hit)(r':Option (Nat×Value)):Prop:=match r,r' with
  |none,none=>True
  |some (v,born,j),some (j',v')=>j=j'∧∃n x,j=i+n∧xs[n]? =some x∧x.val=v'∧VR μ v v'∧x.born=born∧Instr.sameBits 10000 x.key vk=true
  |_,_=>False
theorem findP_ok{d:TypeDesc}{k:AV}{vk:Value}(hp:plainOk d k=true)(hk:VR μ k vk):∀{es:Es}{xs:List MapEntry}(i:Nat){r:Hit},findP k es i=some r→EsR μ es xs→∃r',Instr.findNow d vk xs i=some r'∧HitR μ es xs vk i r r'
  |[],xs,i,r,h,hes=>by cases h;cases(show xs=[] from hes);exact⟨none,rfl,trivial⟩
  |e::es,_,i,r,h,⟨x,xs,e',h1,h2,h3,h4⟩=>by
    subst e'
    obtain⟨t,ht,h⟩:=opt_inv (show(Option.rec none (fun t=>Bool.rec (findP k es (Nat.add i 1)) (some (some (e.2.1,e.2.2,i))) t) (eqPl k e.1):Option Hit)=some r from h)
    obtain⟨hs,hb⟩:=sameNow_ok hp ht hk h1
    unfold Instr.findNow
    rw[hs]
    cases t with
    |true=>
      cases h
      exact⟨some (i,x.val),rfl,rfl,0,x,rfl,rfl,rfl,h2,h3.symm,hb rfl⟩
    |false=>
      obtain⟨r',hr',hh⟩:=findP_ok hp hk (i+1) (show findP k es (i+1)=some r from h) h4
      refine⟨r',hr',?_⟩
      cases r with
      |none=>cases r' with
        |none=>trivial
        |some=>exact hh.elim
      |some q=>
        obtain⟨v,born,j⟩:=q
        cases r' with
        |none=>exact hh.elim
        |some q'=>
          obtain⟨j',v'⟩:=q'
          obtain⟨e1,n,y,e2,e3,e4⟩:=hh
          exact⟨e1,n+1,y,by omega,by simpa using e3,e4⟩
theorem findK_ok{E:Env}(ok:EnvOk P E){kt:TypeId}{k:AV}{vk:Value}(hk:VR μ k vk){es:Es}{xs:List MapEntry}{r:Hit}(h:findK E kt k es=some r)(hes:EsR μ es xs):
    ∃r',(Instr.findKey kt vk xs).run P w=.ok r' w∧HitR μ es xs vk 0 r r'∧∀b n,(Instr.checkKey b (n+1) kt vk).run P w=.ok () w:=by
  obtain⟨i,hi,h⟩:=opt_inv h
  obtain⟨_,_,ty⟩:=ok.ty _ _ hi
  obtain⟨hp,h⟩:=bool_inv h
  obtain⟨r',hr',hh⟩:=findP_ok hp hk 0 h hes
  refine⟨r',?_,hh,fun b n=>?_⟩
  · unfold Instr.findKey
    rw[run_bind_ok ty.rund,hr'];rfl
  · unfold Instr.checkKey
    rw[run_bind_ok ty.rund]
    cases k<;>simp only[plainOk] at hp<;>(try cases hp)<;>cases hd:i.desc<;>rw[hd] at hp<;>simp only[Bool.false_eq_true] at hp
    · cases hk;rfl
    · cases hk;rfl
    · obtain⟨_,rfl,_⟩:=hk;rfl
theorem withMap_inv{E:Env}(ok:EnvOk P E){t:TypeId}{k:TypeId→TypeId→Option (AV×Hp T)}{r:AV×Hp T}(h:withMap E t k=some r):∃kt e,P.underlying t=some (.map kt e)∧k kt e=some r:=by
  obtain⟨ti,hti,h⟩:=opt_inv h
  obtain⟨_,_,ty⟩:=ok.ty _ _ hti
  have hu:=ty.und
  cases hd:ti.desc<;>rw[hd] at h hu<;>simp only at h<;>try cases h
  exact⟨_,_,hu,h⟩
theorem esOf_inv{o:Ob T}{p:Es×Nat}(h:esOf o=some p):o=.map p.1 p.2:=by cases o<;>simp only[esOf] at h<;>cases h;rfl
/-- the model's map behind a map of the interpreter's -/
theorem Sim.mapAt(s:Sim μ h w){b:Go.Den.P}{lb:Loc}(hm:μ b=some lb){es:Es}{clock:Nat}(hat:h.at b=.map es clock):∃l xs,μ b=some l∧w.heap[l.blk]? =some (.map xs clock)∧EsR μ es xs.toList:=by
  have hob:=s.ob b lb (by rw[hat];simp) hm
  rw[hat] at hob
  obtain⟨xs,h1,h2⟩:=hob
  exact⟨lb,xs,hm,h1,h2⟩
theorem zeroOf_ok{E:Env}(ok:EnvOk P E){e:TypeId}{ei:TI}(he:E.ty e=some ei){z:AV}(hz:zeroOf ei=some z):∃v,(zeroValue e).run P w=.ok v w∧VR μ z v:=by
  obtain⟨_,v,ty⟩:=ok.ty _ _ he
  exact⟨v,ty.rzero,ty.zval μ z hz⟩
theorem lookAns_ok{b:Bool}{v:AV}{x:Value}{t:Bool}(hv:VR μ v x):VR μ (lookAns b v t) (if b then .tuple #[x,.bool t] else x):=by
  cases b
  · exact hv
  · exact⟨_,rfl,_,_,rfl,hv,_,_,rfl,rfl,rfl⟩
theorem lookup_ok{E:Env}(ok:EnvOk P E)(s:Sim μ h w){t:TypeId}{m k:AV}{b:Bool}{r:AV×Hp T}(hr0:exLookup E t m k b h=some r){vm vk:Value}(hm:VR μ m vm)(hk:VR μ k vk):Does P μ h w (Instr.lookup t vm vk b) r.1 r.2:=by
  obtain⟨kt,e,hu,hr1⟩:=withMap_inv ok hr0
  clear hr0
  obtain⟨p,hp,hr⟩:=opt_inv hr1
  clear hr1
  have:∃xs:Array MapEntry,EsR μ p.1 xs.toList∧(Instr.lookup t vm vk b).run P w=(do
      Instr.checkKey xs.isEmpty 10000 kt vk
      let (v,ok) ←match ←Instr.findKey kt vk xs.toList with
        |some (_,v)=>pure (v,true)
        |none=>pure (←zeroValue e,false)
      pure (if b then .tuple #[v,.bool ok] else v):Sem Value).run P w:=by
    cases m<;>simp only[mapEs] at hp<;>try cases hp
    · cases hm
      refine⟨#[],(rfl:([]:List MapEntry)=[]),?_⟩
      unfold Instr.lookup
      rw[run_bind_ok (run_und hu)];rfl
    · obtain⟨l,xs,hl,hblk,hes⟩:=s.mapAt hm.choose_spec.1 (esOf_inv hp)
      obtain⟨l',hl',rfl⟩:=hm
      rw[hl] at hl';cases hl'
      refine⟨xs,hes,?_⟩
      unfold Instr.lookup
      rw[run_bind_ok (run_und hu)]
      simp only
      rw[run_bind_ok (run_getObj hblk (by intros;simp))]
      rfl
  obtain⟨xs,hes,hrun⟩:=this
  obtain⟨rr,hrr,hr⟩:=opt_inv hr
  obtain⟨r',hf,hh,hck⟩:=findK_ok (w:=w) ok hk hrr hes
  refine Does.of_run hrun ?_
  refine Does.of_run (run_bind_ok (hck _ 9999)) ?_
  refine Does.of_run (run_bind_ok hf) ?_
  cases rr with
  |none=>
    cases r' with
    |some=>exact hh.elim
    |none=>
      obtain⟨ei,hei,hr⟩:=opt_inv hr
      obtain⟨z,hz,hr⟩:=opt_inv hr
      cases hr
      obtain⟨v,hv,hvr⟩:=zeroOf_ok (w:=w) (μ:=μ) ok hei hz
      refine .here s ?_ (lookAns_ok hvr)
      simp only
      rw[run_bind_ok hv];rfl
  |some q=>
    cases r' with
    |none=>exact hh.elim
    |some q'=>
      obtain⟨v,born,j⟩:=q
      obtain⟨j',v'⟩:=q'
      obtain⟨_,n,x,_,_,_,hvr,_⟩:=hh
      cases hr
      exact .here s rfl (lookAns_ok hvr)
theorem keyStays{k vk:Value}(h:Instr.sameBits 10000 k vk=true):(Instr.keyThatStays k vk).run P w=.ok vk w:=by
  unfold Instr.keyThatStays
  rw[if_pos h];rfl
theorem toList_modify(xs:Array MapEntry)(n:Nat)(f:MapEntry→MapEntry):(xs.modify n f).toList=xs.toList.modify n f:=by simp
theorem mapUpdate_ok{E:Env}(ok:EnvOk P E)(s:Sim μ h w){t:TypeId}{m k x:AV}{r:AV×Hp T}(hr0:exMapUpdate E t m k x h=some r){vm vk vx:Value}(hm:VR μ m vm)(hk:VR μ k vk)(hx:VR μ x vx):
    r.1=.undef∧∃w' μ',(Instr.mapUpdate t vm vk vx).run P w=.ok () w'∧Sim μ' r.2 w'∧Ext' μ h w μ' r.2 w':=by
  cases m<;>simp only[exMapUpdate] at hr0<;>try cases hr0
  rename_i b
  obtain⟨kt,e,hu,hr1⟩:=withMap_inv ok hr0
  clear hr0
  obtain⟨p,hp,hr⟩:=opt_inv hr1
  clear hr1
  have hat:=esOf_inv hp
  obtain⟨l,xs,hl,hblk,hes⟩:=s.mapAt hm.choose_spec.1 hat
  obtain⟨l',hl',rfl⟩:=hm
  obtain rfl:l=l':=by rw[hl] at hl';exact Option.some.inj hl'
  obtain⟨rr,hrr,hr⟩:=opt_inv hr
  obtain⟨r',hf,hh,hck⟩:=findK_ok (w:=w) ok hk hrr hes
  have hown:(h.at b).own=true:=by rw[hat];rfl
  have start:∀(x':Sem Unit) w',(match r' with
      |some (i,_)=>do
        let key ←Instr.keyThatStays (((xs[i]?).map (·.key)).getD vk) vk
        setObj l.blk (.map (xs.modify i fun e=>{ e with key,val:=vx }) p.2)
      |none=>setObj l.blk (.map (xs.push { key:=vk,val:=vx,born:=p.2 }) (p.2+1)):Sem Unit).run P w=.ok () w'→(Instr.mapUpdate t (.map (some l.blk)) vk vx).run P w=.ok () w':=by
    intro _ w' h1
    unfold Instr.mapUpdate
    rw[run_bind_ok (run_und hu)]
    simp only
    rw[run_bind_ok (run_getObj hblk (by intros;simp))]
    simp only
    rw[run_bind_ok (hck _ 9999),run_bind_ok hf]
    exact h1
  cases rr with
  |none=>
    cases r' with
    |some=>exact hh.elim
    |none=>
      cases hr
      obtain⟨w',hw',s',x'⟩:=s.putObj (Pr:=P) hown hl hblk (by intros;simp) (.map (xs.push { key:=vk,val:=vx,born:=p.2 }) (p.2+1)) (.map (appL p.1 [(k,x,p.2)]) (Nat.add p.2 1)) fun w' hw'=>
        ⟨_,hw',by rw[appL_eq,Array.toList_push];exact hes.push hk hx rfl⟩
      exact⟨rfl,w',μ,start (pure ()) w' hw',s',x'⟩
  |some q=>
    cases r' with
    |none=>exact hh.elim
    |some q'=>
      obtain⟨v,born,j⟩:=q
      obtain⟨j',v'⟩:=q'
      obtain⟨e1,n,y,e2,hy,e3,e4,e5,e6⟩:=hh
      have e2:j=n:=by omega
      subst e2
      have e1:j=j':=e1
      subst e1
      have hy':xs[j]? =some y:=by rw[←Array.getElem?_toList];exact hy
      cases hr
      obtain⟨w',hw',s',x'⟩:=s.putObj (Pr:=P) hown hl hblk (by intros;simp) (.map (xs.modify j fun e=>{ e with key:=vk,val:=vx }) p.2) (.map (setAt (k,x,born) j p.1) p.2) fun w' hw'=>
        ⟨_,hw',by
          rw[toList_modify]
          refine hes.set fun z hz=>⟨hk,hx,?_⟩
          rw[hy] at hz;cases hz
          exact e5.symm⟩
      refine⟨rfl,w',μ,start (pure ()) w' ?_,s',x'⟩
      simp only[hy',Option.map_some,Option.getD_some]
      rw[run_bind_ok (keyStays e6)]
      exact hw'
theorem mapEntry_ok{E:Env}(ok:EnvOk P E)(s:Sim μ h w){t:TypeId}{m k:AV}{r:AV×Hp T}(hr0:exMapEntry E t m k h=some r){vm vk:Value}(hm:VR μ m vm)(hk:VR μ k vk):Does P μ h w (Instr.mapEntry t vm vk) r.1 r.2:=by
  cases m<;>simp only[exMapEntry] at hr0<;>try cases hr0
  rename_i b
  obtain⟨kt,e,hu,hr1⟩:=withMap_inv ok hr0
  clear hr0
  obtain⟨p,hp,hr⟩:=opt_inv hr1
  clear hr1
  have hat:=esOf_inv hp
  obtain⟨l,xs,hl,hblk,hes⟩:=s.mapAt hm.choose_spec.1 hat
  obtain⟨l',hl',rfl⟩:=hm
  obtain rfl:l=l':=by rw[hl] at hl';exact Option.some.inj hl'
  obtain⟨rr,hrr,hr⟩:=opt_inv hr
  obtain⟨r',hf,hh,hck⟩:=findK_ok (w:=w) ok hk hrr hes
  have hown:(h.at b).own=true:=by rw[hat];rfl
  have start:(Instr.mapEntry t (.map (some l.blk)) vk).run P w=((match r' with
      |some (i,v)=>do
        let key ←Instr.keyThatStays (((xs[i]?).map (·.key)).getD vk) vk
        setObj l.blk (.map (xs.modify i fun e=>{ e with key }) p.2)
        pure (.tuple #[v,goInt (((xs[i]?).map (·.born)).getD 0)])
      |none=>do
        let zero ←zeroValue e
        setObj l.blk (.map (xs.push { key:=vk,val:=zero,born:=p.2 }) (p.2+1))
        pure (.tuple #[zero,goInt p.2]):Sem Value)).run P w:=by
    unfold Instr.mapEntry
    rw[run_bind_ok (run_und hu)]
    simp only
    rw[run_bind_ok (run_getObj hblk (by intros;simp))]
    simp only
    rw[run_bind_ok (hck _ 9999),run_bind_ok hf]
    cases r'<;>rfl
  refine Does.of_run start ?_
  cases rr with
  |none=>
    cases r' with
    |some=>exact hh.elim
    |none=>
      obtain⟨ei,hei,hr⟩:=opt_inv hr
      obtain⟨z,hz,hr⟩:=opt_inv hr
      cases hr
      obtain⟨v,hv,hvr⟩:=zeroOf_ok (w:=w) (μ:=μ) ok hei hz
      obtain⟨w',hw',s',x'⟩:=s.putObj (Pr:=P) hown hl hblk (by intros;simp) (.map (xs.push { key:=vk,val:=v,born:=p.2 }) (p.2+1)) (.map (appL p.1 [(k,z,p.2)]) (Nat.add p.2 1)) fun w' hw'=>
        ⟨_,hw',by rw[appL_eq,Array.toList_push];exact hes.push hk hvr rfl⟩
      refine⟨.tuple #[v,goInt p.2],w',μ,?_,s',x',⟨_,rfl,_,_,rfl,hvr,_,_,rfl,rfl,rfl⟩⟩
      simp only
      rw[run_bind_ok hv,run_bind_ok hw'];rfl
  |some q=>
    cases r' with
    |none=>exact hh.elim
    |some q'=>
      obtain⟨v,born,j⟩:=q
      obtain⟨j',v'⟩:=q'
      obtain⟨e1,n,y,e2,hy,e3,e4,e5,e6⟩:=hh
      have e2:j=n:=by omega
      subst e2
      have e1:j=j':=e1
      subst e1
      have hy':xs[j]? =some y:=by rw[←Array.getElem?_toList];exact hy
      cases hr
      obtain⟨w',hw',s',x'⟩:=s.putObj (Pr:=P) hown hl hblk (by intros;simp) (.map (xs.modify j fun e=>{ e with key:=vk }) p.2) (.map (setAt (k,v,born) j p.1) p.2) fun w' hw'=>
        ⟨_,hw',by
          rw[toList_modify]
          refine hes.set fun z hz=>?_
          rw[hy] at hz;cases hz
          exact⟨hk,by rw[e3];exact e4,e5.symm⟩⟩
      refine⟨.tuple #[v',goInt y.born],w',μ,?_,s',x',⟨_,rfl,_,_,rfl,e4,_,_,rfl,by rw[e5];rfl,rfl⟩⟩
      simp only[hy',Option.map_some,Option.getD_some]
      rw[run_bind_ok (keyStays e6),run_bind_ok hw'];rfl
theorem delete_ok{E:Env}(ok:EnvOk P E)(s:Sim μ h w){ats:Array TypeId}{ty:TypeId}{m k:AV}{r:AV×Hp T}(hr0:biDelete E (getL ats.toList 0) m k h=some r){vm vk:Value}(hm:VR μ m vm)(hk:VR μ k vk):Does P μ h w (Builtin.delete_ ats ty #[vm,vk]) r.1 r.2:=by
  cases m<;>simp only[biDelete] at hr0<;>try cases hr0
  rename_i b
  obtain⟨t,ht,hr1⟩:=opt_inv hr0
  clear hr0
  have ht:ats[0]? =some t:=by rw[←Array.getElem?_toList,←getL_eq];exact ht
  obtain⟨kt,e,hu,hr2⟩:=withMap_inv ok hr1
  clear hr1
  obtain⟨p,hp,hr⟩:=opt_inv hr2
  clear hr2
  have hat:=esOf_inv hp
  obtain⟨l,xs,hl,hblk,hes⟩:=s.mapAt hm.choose_spec.1 hat
  obtain⟨l',hl',rfl⟩:=hm
  obtain rfl:l=l':=by rw[hl] at hl';exact Option.some.inj hl'
  obtain⟨rr,hrr,hr⟩:=opt_inv hr
  obtain⟨r',hf,hh,hck⟩:=findK_ok (w:=w) ok hk hrr hes
  have hown:(h.at b).own=true:=by rw[hat];rfl
  have start:∀w',(match r' with
      |some (i,_)=>setObj l.blk (.map (xs.eraseIdxIfInBounds i) p.2)
      |none=>setObj l.blk (.map xs p.2):Sem Unit).run P w=.ok () w'→(Builtin.delete_ ats ty #[.map (some l.blk),vk]).run P w=.ok (.tuple #[]) w':=by
    intro w' h1
    unfold Builtin.delete_
    simp only[ht,List.getElem?_toArray,List.getElem?_cons_zero,List.getElem?_cons_succ]
    rw[run_bind_ok (run_und hu)]
    simp only
    rw[run_bind_ok (run_getObj hblk (by intros;simp))]
    simp only
    rw[run_bind_ok (hck _ 9999),run_bind_ok hf]
    cases r'<;>(rw[run_bind_ok h1];rfl)
  cases rr with
  |none=>
    cases r' with
    |some=>exact hh.elim
    |none=>
      cases hr
      obtain⟨w',hw',s',x'⟩:=s.putObj (Pr:=P) hown hl hblk (by intros;simp) (.map xs p.2) (.map p.1 p.2) fun w' hw'=>⟨_,hw',hes⟩
      exact⟨_,w',μ,start w' hw',s',x',VR.undef μ⟩
  |some q=>
    cases r' with
    |none=>exact hh.elim
    |some q'=>
      obtain⟨v,born,j⟩:=q
      obtain⟨j',v'⟩:=q'
      obtain⟨e1,n,y,e2,hy,e3,e4,e5,e6⟩:=hh
      have e2:j=n:=by omega
      subst e2
      have e1:j=j':=e1
      subst e1
      cases hr
      obtain⟨w',hw',s',x'⟩:=s.putObj (Pr:=P) hown hl hblk (by intros;simp) (.map (xs.eraseIdxIfInBounds j) p.2) (.map (delAt j p.1) p.2) fun w' hw'=>
        ⟨_,hw',by
          have:(xs.eraseIdxIfInBounds j).toList=xs.toList.eraseIdx j:=by simp
          rw[this];exact hes.del j⟩
      exact⟨_,w',μ,start w' hw',s',x',VR.undef μ⟩
theorem hasBorn_ok : ∀ {es : Es} {xs : List MapEntry} {born : Nat}, hasBorn born es = true → EsR μ es xs → ∀ {v : AV} {vv : Value}, VR μ v vv →
    ∃ i, xs.findIdx? (fun e => (e.born : Int) == (born : Int)) = some i ∧ EsR μ (setVal born v es) (xs.modify i fun e => { e with val := vv })
  | [], _, _, h, _, _, _, _ => by cases h
  | e :: es, _, born, h, ⟨x, xs, e', h1, h2, h3, h4⟩, v, vv, hv => by
    subst e'
    cases hb : Nat.beq e.2.2 born with
    | true =>
      have hxb : x.born = born := by rw [← h3]; exact beq_inv hb
      refine ⟨0, by rw [List.findIdx?_cons, if_pos (by rw [hxb]; simp)], ?_⟩
      have : setVal born v (e :: es) = (e.1, v, born) :: es := by
        show (Bool.rec (e :: setVal born v es) ((e.1, v, born) :: es) (Nat.beq e.2.2 born) : Es) = _
        rw [hb]
      rw [this]
      exact ⟨{ x with val := vv }, xs, rfl, h1, hv, hxb.symm, h4⟩
    | false =>
      have hxb : x.born ≠ born := by rw [← h3]; intro e0; rw [e0, Nat.beq_refl] at hb; cases hb
      have h' : hasBorn born es = true := by
        have h : or (Nat.beq e.2.2 born) (hasBorn born es) = true := h
        rw [hb] at h
        exact h
      obtain ⟨i, hi, hes⟩ := hasBorn_ok h' h4 hv
      refine ⟨i + 1, ?_, ?_⟩
      · rw [List.findIdx?_cons, hi]
        rw [if_neg (by intro e0; exact hxb (Int.ofNat.inj (by simpa using e0)))]; rfl
      · have : setVal born v (e :: es) = e :: setVal born v es := by
          show (Bool.rec (e :: setVal born v es) ((e.1, v, born) :: es) (Nat.beq e.2.2 born) : Es) = _
          rw [hb]
        rw [this]
        exact ⟨x, _, rfl, h1, h2, h3, hes⟩
theorem entryStore_ok(s:Sim μ h w){t:TypeId}{m k x:AV}{r:AV×Hp T}(hr0:exEntryStore m (natOf k) x h=some r){vm vk vx:Value}(hm:VR μ m vm)(hk:VR μ k vk)(hx:VR μ x vx):
    r.1=.undef∧∃w' μ',(Instr.entryStore t vm vk vx).run P w=.ok () w'∧Sim μ' r.2 w'∧Ext' μ h w μ' r.2 w':=by
  cases m<;>simp only[exEntryStore] at hr0<;>try cases hr0
  rename_i b
  obtain⟨born,hbn,hr1⟩:=opt_inv hr0
  clear hr0
  obtain⟨kk,rfl⟩:=natOf_inv hbn hk
  obtain⟨p,hp,hr⟩:=opt_inv hr1
  clear hr1
  obtain⟨hb,hr⟩:=bool_inv hr
  cases hr
  have hat:=esOf_inv hp
  obtain⟨l,xs,hl,hblk,hes⟩:=s.mapAt hm.choose_spec.1 hat
  obtain⟨l',hl',rfl⟩:=hm
  obtain rfl:l=l':=by rw[hl] at hl';exact Option.some.inj hl'
  have hown:(h.at b).own=true:=by rw[hat];rfl
  obtain⟨i,hi,hes'⟩:=hasBorn_ok hb hes hx
  obtain⟨w',hw',s',x'⟩:=s.putObj (Pr:=P) hown hl hblk (by intros;simp) (.map (xs.modify i fun e=>{ e with val:=vx }) p.2) (.map (setVal born x p.1) p.2) fun w' hw'=>
    ⟨_,hw',by rw[toList_modify];exact hes'⟩
  refine⟨rfl,w',μ,?_,s',x'⟩
  unfold Instr.entryStore
  simp only
  rw[run_bind_ok (run_getObj hblk (by intros;simp))]
  simp only
  rw[run_bind_ok (show(asInt (.int kk (born:Int))).run P w=.ok (born:Int) w from rfl)]
  have:xs.findIdx? (fun e=>(e.born:Int)==(born:Int))=some i:=by
    rw[←hi,←List.findIdx?_toArray]
  rw[this]
  exact hw'
theorem clear_ok{E:Env}(ok:EnvOk P E)(s:Sim μ h w){ats:Array TypeId}{ty:TypeId}{x:AV}{r:AV×Hp T}(hr0:withElemO E (getL ats.toList 0) (fun e ei=>exClear x h e ei)=some r){vx:Value}(hx:VR μ x vx):Does P μ h w (Builtin.clear_ ats ty #[vx]) r.1 r.2:=by
  obtain⟨t,ht,hr1⟩:=opt_inv hr0
  clear hr0
  have ht:ats[0]? =some t:=by rw[←Array.getElem?_toList,←getL_eq];exact ht
  obtain⟨e,ei,hu,he,hr⟩:=withElem_inv ok hr1
  clear hr1
  obtain⟨_,z,k⟩:=ok.ty _ _ he
  cases x<;>simp only[exClear] at hr<;>try cases hr
  case nils=>
    cases hx
    refine .here s (v:=.tuple #[]) ?_ (VR.undef μ)
    unfold Builtin.clear_
    simp only[ht,List.getElem?_toArray,List.getElem?_cons_zero]
    rw[run_bind_ok (run_und hu)];rfl
  case slice b o n zz tg=>
    obtain⟨hb,hr⟩:=bool_inv hr
    obtain⟨h1,h2⟩:=band_inv hb
    have h1:=beq_inv h1
    have h2:=beq_inv h2
    rw[len_eq] at h2
    obtain⟨h',hw,hr⟩:=opt_inv hr
    cases hr
    obtain⟨a,cap,rfl,hn,⟨_,_,hm0⟩,hl⟩:=hx
    have hzl:=(k.cells μ).length
    simp only[Array.length_toList] at hzl
    have hrep:=repl_ok (k.cells μ) n
    obtain⟨l,w',h'',hl',hrun,s',x',hg⟩:=s.write (Pr:=P) (good:=fun o=>o=some h') (bad:=none) (fun e=>nomatch e) (k:=some) hm0 hw hrep (repl_ones k.ones n)
    cases hg
    refine⟨.tuple #[],w',μ,?_,s',x',VR.undef μ⟩
    unfold Builtin.clear_
    simp only[ht,List.getElem?_toArray,List.getElem?_cons_zero]
    rw[run_bind_ok (run_und hu)]
    cases n with
    |zero=>
      have:cyc z.cells (0*z.cells.size)=#[]:=by rw[Nat.zero_mul];apply Array.ext';simp[cyc]
      rw[this] at hrun
      have hrun:(Result.ok () w:Result Unit)=.ok () w':=hrun
      cases hrun
      rfl
    |succ n=>
      obtain⟨q,hq,rfl,_⟩:=hl.resolve_left (by omega)
      obtain rfl:q=l:=by rw[hq] at hl';exact Option.some.inj hl'
      simp only
      rw[run_bind_ok k.rzero]
      rw[run_bind_ok (show(storeCells ⟨q.blk,q.off+o,none⟩ (Builtin.zeroCells z.cells (n+1)).toList).run P w=.ok () w' from hrun)]
      rfl
end
end Go.Den
/-
  Operands, frames, and an operation's step.
-/
namespace Go.Den
open Go.RowKit

structure FIOk(I:FI):Prop where
  init:∀l t,I.get (I.init l) t=l.getD t .undef
  set:∀f t v u,I.get (I.set f t v) u=if u=t then v else I.get f u
  force:∀{α:Type}(f:I.T)(k:I.T→α),I.force f k=k f
theorem ofValueF_ok(μ:Mu):∀(n:Nat)(v:Value),okValueF n v=true→VR μ (ofValueF n v) v:=by
  intro n
  induction n with
  |zero=>intro v h;cases h
  |succ n ih=>
    have list:∀l:List Value,l.all (okValueF n)=true→VRs μ (l.map (ofValueF n)) l:=by
      intro l
      induction l with
      |nil=>intro _;exact(rfl:([]:List Value)=[])
      |cons v l ihl=>intro h;rw[List.all_cons,Bool.and_eq_true] at h;exact⟨v,l,rfl,ih v h.1,ihl h.2⟩
    intro v h
    cases v<;>simp only[okValueF] at h<;>try (cases h;done)
    · exact rfl
    · exact rfl
    · exact bytesOf_ok μ _
    · rename_i a;cases a<;>first|exact rfl|(simp only[Bool.false_eq_true] at h)
    · rename_i a l c
      cases a with
      |some a=>simp only[Bool.false_eq_true] at h
      |none=>
        cases l with
        |succ l=>simp only[Bool.false_eq_true] at h
        |zero=>
          cases c with
          |succ c=>simp only[Bool.false_eq_true] at h
          |zero=>exact rfl
    · rename_i a;cases a<;>first|exact rfl|(simp only[Bool.false_eq_true] at h)
    · exact rfl
    · exact rfl
    · rw[Bool.and_eq_true] at h
      exact⟨_,rfl,list _ h.1,h.2⟩
    · exact⟨_,rfl,list _ h⟩

/-- the package-level variables lie at the bottom of the heap -/
def Globs(μ:Mu)(G:Nat):Prop:=∀g,g<G→∃l,μ (pOf g)=some l∧l.blk=g∧l.off=0
theorem Globs.mono{μ μ':Mu}{G:Nat}(h:Mu.le μ μ')(g:Globs μ G):Globs μ' G:=fun i hi=>let ⟨l,a,b⟩:=g i hi;⟨l,h _ _ a,b⟩
noncomputable def okOpnd (G:Nat) (o:Operand):Bool:=match o with
  |.tmp _=>true
  |.const v=>okValue v
  |.global g=>Nat.blt g G
  |.func _=>true
section
variable{α:Type}{P:Program}{μ:Mu}
theorem eval_ok{C:Cx α}{G:Nat}(gl:Globs μ G){o:Operand}(ho:okOpnd G o=true){f:C.I.T}{a:Act}(ht:∀t,o=.tmp t→VR μ (C.I.get f t) (a.tmps.getD t undef)):VR μ (eval C o f) (a.eval o):=by
  cases o with
  |tmp t=>exact ht t rfl
  |const v=>
    show VR μ (forceV (ofValue v) (fun v=>v)) v
    rw[forceV_eq]
    exact ofValueF_ok μ 3 v ho
  |global g=>
    obtain⟨l,hl,hb,hof⟩:=gl g (by simpa[okOpnd] using ho)
    refine⟨l,hl,?_⟩
    show Value.pointer (some ⟨g,0,none⟩)=_
    rw[hb,hof]
  |func fn=>exact⟨.func fn,#[],#[],rfl,rfl,(rfl:([]:List Value)=[]),(rfl:([]:List Value)=[]),trivial⟩
end
theorem optK_inv{α:Type}{C:Cx α}{good:α→Prop}(hbad:¬good C.bad){k:K α C.I.T}{o:Option (AV×Hp C.I.T)}(hg:good (optK C k o)):∃v h,o=some (v,h)∧good (k v h):=by
  unfold optK at hg
  obtain⟨p,hp,hg⟩:=inv_opt hbad hg
  obtain⟨v,⟨m,n⟩⟩:=p
  refine⟨v,⟨m,n⟩,hp,?_⟩
  have hg:good (forceV v (fun v=>forceT m (fun m=>k v ⟨m,n⟩))):=hg
  rwa [forceV_eq,forceT_eq] at hg
theorem asPtr_inv{α:Type}{good:α→Prop}{bad:α}(hbad:¬good bad){v:AV}{k:P→Nat→α}(hg:good (PtrV.rec bad k (asPtr v))):∃b o,v=.ptr b o∧good (k b o):=by
  cases v<;>first|exact absurd hg hbad|exact⟨_,_,rfl,hg⟩
theorem asBool_inv{α:Type}{good:α→Prop}{bad:α}(hbad:¬good bad){v:AV}{k:Bool→α}(hg:good (BoolV.rec bad k (asBool' v))):∃b,v=.bool b∧good (k b):=by
  cases v<;>first|exact absurd hg hbad|exact⟨_,rfl,hg⟩

section
variable{α:Type}{C:Cx α}{P:Program}{μ:Mu}{h:Hp C.I.T}{w:World}{good:α→Prop}{o:Oper}{a:Act}
  {k:K α C.I.T} {next:Act→World→Prop} {Q:Exit→Act→World→Prop}
/-- all functions, in a frame of a round or of none -/
abbrev Fo(ro:Option Nat):Fence:={ Fence.wide with round:=ro }
theorem callsFo{ro:Option Nat}{n:Nat}{P:Program}{f:FuncId}{args:Array Value}{w:World}{R:Ending→World→Prop}(h:Calls P f args w R):CallsIn (Fo ro) n P f args w R:=callsIn_wide.2 h
theorem wpIn_of{ro:Option Nat}{P:Program}{o:Oper}{a:Act}{w:World}{next:Act→World→Prop}{Q:Exit→Act→World→Prop}(hd:∀c,o.op≠.defer c)(h:o.uponIn (Fo ro) 0 P a next Q ((execOp a.eval o).run P w)):o.wpIn (Fo ro) 0 P a w next Q:=
  ⟨fun _ _=>trivial,by rw[Oper.semAt_eq _ _ _ hd];exact h⟩
/-- what follows an operation holds wherever it may stand -/
def Goes(C:Cx α)(μ:Mu)(h:Hp C.I.T)(w:World)(good:α→Prop)(k:K α C.I.T)(a:Act)(dst:Option Tmp)(next:Act→World→Prop):Prop:=
  ∀(μ':Mu)(av:AV)(h':Hp C.I.T)(v:Value)(w':World),Sim μ' h' w'→Ext' μ h w μ' h' w'→VR μ' av v→good (k av h')→next (a.put dst v) w'
theorem Goes.value{ro:Option Nat}(g:Goes C μ h w good k a o.dst next){sm:Sem Value}{av:AV}{h':Hp C.I.T}(he:execOp a.eval o=(do pure (.value (←sm))))(d:Does P μ h w sm av h')(hg:good (k av h'))(hd:∀c,o.op≠.defer c:=by intro c h;cases h):o.wpIn (Fo ro) 0 P a w next Q:=by
  obtain⟨v,w',μ',hr,s,x,hv⟩:=d
  refine wpIn_of hd ?_
  rw[he,run_bind_ok hr]
  exact g _ _ _ _ _ s x hv hg
theorem Goes.skip{ro:Option Nat}(g:Goes C μ h w good k a o.dst next){sm:Sem Unit}{μ':Mu}{h':Hp C.I.T}{w':World}(he:execOp a.eval o=(do sm;pure .skip))(hr:sm.run P w=.ok () w')(s:Sim μ' h' w')(x:Ext' μ h w μ' h' w')(hg:good (k .undef h'))(hd:∀c,o.op≠.defer c:=by intro c h;cases h):o.wpIn (Fo ro) 0 P a w next Q:=by
  refine wpIn_of hd ?_
  rw[he,run_bind_ok hr]
  exact g _ _ _ _ _ s x (VR.undef μ') hg
theorem Goes.here{ro:Option Nat}(g:Goes C μ h w good k a o.dst next)(s:Sim μ h w){av:AV}{v:Value}(he:(execOp a.eval o).run P w=.ok (.value v) w)(hv:VR μ av v)(hg:good (k av h))(hd:∀c,o.op≠.defer c:=by intro c h;cases h):o.wpIn (Fo ro) 0 P a w next Q:=by
  refine wpIn_of hd ?_
  rw[he]
  exact g _ _ _ _ _ s (.refl _ _ _) hv hg
end
end Go.Den
/-
  An operation's step.
-/
namespace Go.Den
open Go.RowKit

section
variable{T:Type}{P:Program}{w:World}{μ:Mu}{h:Hp T}
theorem builtin_ok{E:Env}(ok:EnvOk P E)(s:Sim μ h w){b:Builtin}{ats:Array TypeId}{ty:TypeId}{cs:Array Bool}{args:List AV}{r:AV×Hp T}(hr:builtinA E b ats.toList args h=some r){vargs:Array Value}(hv:VRs μ args vargs.toList):
    ∃sm,builtin b ats ty cs vargs=(do pure (.value (←sm)))∧Does P μ h w sm r.1 r.2:=by
  obtain⟨l⟩:=vargs
  match args,hv with
  |[],hv=>cases hr
  |[x],hv=>
    obtain⟨vx,vs,rfl,hx,hv⟩:=hv
    cases(show vs=[] from hv)
    have hr:bi1 E b ats.toList x h=some r:=hr
    cases b<;>simp only[bi1] at hr<;>try (cases hr;done)
    · exact⟨_,rfl,biCap_ok ok s hr hx⟩
    · exact⟨_,rfl,clear_ok ok s hr hx⟩
    · exact⟨_,rfl,biLen_ok ok s hr hx⟩
    · exact⟨_,rfl,sliceData_ok s hr hx⟩
  |[x,y],hv=>
    obtain⟨vx,vs,rfl,hx,hv⟩:=hv
    obtain⟨vy,vs,rfl,hy,hv⟩:=hv
    cases(show vs=[] from hv)
    have hr:bi2 E b ats.toList x y h=some r:=hr
    cases b<;>simp only[bi2] at hr<;>try (cases hr;done)
    · exact⟨_,rfl,append_ok ok s hr hx hy⟩
    · exact⟨_,rfl,copy_ok ok s hr hx hy⟩
    · exact⟨_,rfl,delete_ok ok s hr hx hy⟩
    · exact⟨_,rfl,max_ok s hr hx hy⟩
    · exact⟨_,rfl,min_ok s hr hx hy⟩
    · exact⟨_,rfl,unsafeString_ok ok s hr hx hy⟩
  |_::_::_::_,hv=>cases hr
end

/-- does an operand name what is there? -/
noncomputable def okOpnds (G:Nat) (l:List Operand):Bool:=l.all (okOpnd G)
def plainFn(fn:Fn):Bool:=match fn with
  |.yield _=>false
  |_=>true
noncomputable def okOp (_P:Program) (E:Env) (G:Nat) (o:Op):Bool:=okOpnds G o.operands.toList&&match o with
  |.convert src _ _=>(E.ty src).isSome
  |.slice _ _ _ hi mx=>!mx.isSome||hi.isSome
  |.makeFunc fn _ _=>plainFn fn
  |_=>true
section
variable{α:Type}
/-- a call of yield: a round -/
def Rounds(P:Program)(vargs:Array Value)(w:World)(fn':Fn)(R:Ending→World→Prop):Prop:=∃l F tmps as bd,fn'=.yield l∧(Instr.yield l vargs).run P w=.ok (.round l F tmps as bd) w∧RoundIn (Fo none) 0 P l F tmps as bd w R
theorem roundFo{ro:Option Nat}{P:Program}{l:Nat}{f:FuncId}{tmps:Array Value}{as bd:Code}{w:World}{R:Ending→World→Prop}(h:RoundIn (Fo none) 0 P l f tmps as bd w R):RoundIn (Fo ro) 0 P l f tmps as bd w R:=h
/-- what a call does -/
def CallOk(P:Program)(C:Cx α)(G:Nat)(good:α→Prop)(call:Caller α C.I.T):Prop:=
  ∀(μ:Mu)(h:Hp C.I.T)(w:World)(fn fn':Fn)(args:List AV)(vargs:Array Value)(k:K α C.I.T),Sim μ h w→Globs μ G→FnR μ fn fn'→VRs μ args vargs.toList→good (call fn args h k)→
    (∃f,fn'=.func f∧
    ((∃v w' μ' av h',(callFunc f vargs).run P w=.ok (.value v) w'∧Sim μ' h' w'∧Ext' μ h w μ' h' w'∧VR μ' av v∧good (k av h'))∨
     ((callFunc f vargs).run P w=.ok (.enter f vargs) w∧Calls P f vargs w fun e w'=>∃v μ' av h',e=.returned v∧Sim μ' h' w'∧Ext' μ h w μ' h' w'∧VR μ' av v∧good (k av h'))))∨
    Rounds P vargs w fn' fun e w'=>∃v μ' av h',e=.returned v∧Sim μ' h' w'∧Ext' μ h w μ' h' w'∧VR μ' av v∧good (k av h')
theorem evalLK_eq{C:Cx α}{f:C.I.T}(l:List Operand):∀(k:List AV→α),evalLK C f l k=k (l.map fun x=>eval C x f):=by
  induction l with
  |nil=>intro k;rfl
  |cons x l ih=>
    intro k
    show forceV (eval C x f) (fun v=>evalLK C f l (fun l=>k (v::l)))=_
    rw[forceV_eq,ih];rfl
theorem evalParts_eq{C:Cx α}{f:C.I.T}(l:List (Nat×Operand)):evalParts C f l=l.map fun p=>(p.1,eval C p.2 f):=by
  induction l with
  |nil=>rfl
  |cons x l ih=>show _::evalParts C f l=_;rw[ih];rfl
variable{C:Cx α}{P:Program}{μ:Mu}{h:Hp C.I.T}{w:World}{good:α→Prop}{o:Oper}{a:Act}
  {k:K α C.I.T} {next:Act→World→Prop} {Q:Exit→Act→World→Prop} {G:Nat} {f:C.I.T}
theorem VRs.map{C:Cx α}{f:C.I.T}:∀{l:List Operand},(∀x∈l,VR μ (eval C x f) (a.eval x))→VRs μ (l.map fun x=>eval C x f) (l.map a.eval)
  |[],_=>(rfl:([]:List Value)=[])
  |x::l,hv=>⟨_,_,rfl,hv x (by simp),VRs.map fun y hy=>hv y (by simp[hy])⟩
theorem PartsR.map{C:Cx α}{f:C.I.T}:∀{l:List (Nat×Operand)},(∀x∈l.map (·.2),VR μ (eval C x f) (a.eval x))→PartsR μ (l.map fun p=>(p.1,eval C p.2 f)) (l.map fun p=>(p.1,a.eval p.2))
  |[],_=>.nil
  |x::l,hv=>.cons (hv x.2 (by simp)) (PartsR.map fun y hy=>hv y (by simp at hy ⊢;exact .inr hy))
theorem evalN_eq{C:Cx α}{f:C.I.T}(x:Option Operand):evalN C f x=bnd (x.map fun x=>eval C x f):=by cases x<;>rfl
theorem BndR.of{C:Cx α}{f:C.I.T}{x:Option Operand}(hv:∀y,x=some y→VR μ (eval C y f) (a.eval y)):BndR μ (x.map fun x=>eval C x f) (x.map a.eval):=by
  cases x with
  |none=>trivial
  |some y=>exact hv y rfl
end
end Go.Den
/-
  An operation's step, in the model.
-/
namespace Go.Den
open Go.RowKit

section
variable{α:Type}{C:Cx α}{P:Program}{μ:Mu}{h:Hp C.I.T}{w:World}{good:α→Prop}{o:Oper}{a:Act}
  {k:K α C.I.T} {next:Act→World→Prop} {Q:Exit→Act→World→Prop} {G:Nat} {f:C.I.T}
theorem run_invoke{P:Program}{E:Env}(ok:EnvOk P E){t:TypeId}{name:String}{F:FuncId}(hm:methF E t name=some F){v:Value}{args:Array Value}{w:World}:
    (invoke (.fn (.method name) #[]) (#[.iface t v]++args)).run P w=(callFunc F (#[v]++args)).run P w:=by
  unfold methF at hm
  split at hm
  · rename_i i hi
    obtain⟨ti,z,k⟩:=ok.ty t i hi
    split at hm
    · rename_i m hf
      split at hm
      · rename_i hp
        split at hm
        · rename_i f b hfn
          have hfind:ti.methods.find? (fun m=>m.name==name)=some m:=by
            rw[k.meths] at hf
            simpa using hf
          have hpath:m.path.toList=[]:=hp
          have hmeth:(method (P.types.size+Made.depth) t v name).run P w=.ok (F,v) w:=by
            show(method ((P.types.size+99)+1) t v name).run P w=_
            unfold method
            rw[run_bind_ok (run_info k.info),hfind]
            simp only[hpath]
            rw[run_bind_ok (show(follow [] t (.val v)).run P w=.ok (t,.val v) w from rfl)]
            simp only[hfn]
            have hd:=k.rund (w:=w)
            cases b with
            |true=>
              have hm:(Bool.rec none (some f) (isPtrD i.desc):Option FuncId)=some F:=hm
              cases hd':i.desc with
              |pointer e=>
                rw[hd'] at hm hd
                cases hm
                refine run_bind_ok (a:=v) (w':=w) ?_ |>.trans rfl
                unfold receiverAt
                rw[run_bind_ok hd]
                rfl
              |_=>rw[hd'] at hm;cases hm
            |false=>
              have hm:(Bool.rec none (some f) (not (isPtrD i.desc)):Option FuncId)=some F:=hm
              cases hd':i.desc<;>rw[hd'] at hm hd<;>first|(cases hm;done)|skip
              all_goals
                cases hm
                refine run_bind_ok (a:=v) (w':=w) ?_ |>.trans rfl
                unfold receiverAt
                rw[run_bind_ok hd]
                rfl
          show(do
            let some recv := (#[Value.iface t v] ++ args)[0]? | stuck "call: a method without a receiver"
            callMethod recv name ((#[Value.iface t v]++args).extract 1 (#[Value.iface t v]++args).size)).run P w=_
          have e0:(#[Value.iface t v]++args)[0]? =some (.iface t v):=by
            rw[Array.getElem?_append_left (show 0<(#[Value.iface t v]:Array Value).size from Nat.zero_lt_one)];rfl
          have e1:(#[Value.iface t v]++args).extract 1 (#[Value.iface t v]++args).size=args:=by
            apply Array.ext'
            simp
          rw[e0,e1]
          show(callMethod (.iface t v) name args).run P w=_
          unfold callMethod
          rw[run_bind_ok (show program.run P w=.ok P w from rfl),run_bind_ok hmeth]
        · cases hm
      · cases hm
    · cases hm
  · cases hm
theorem exec_wp{ro:Option Nat}(hbad:¬good C.bad)(ok:EnvOk P C.E){call:Caller α C.I.T}(hcall:CallOk P C G good call)(hop:okOp P C.E G o.op=true)
    (hv:∀x∈o.op.operands.toList,VR μ (eval C x f) (a.eval x)) (s:Sim μ h w) (gl:Globs μ G) (hg:good (exec o.op C call f h k)) (g:Goes C μ h w good k a o.dst next):o.wpIn (Fo ro) 0 P a w next Q:=by
  obtain⟨dst,op,type,pos,after,guard⟩:=o
  cases op
  case move x=>
    have hg:good (forceV (eval C x f) (fun v=>k v h)):=hg
    rw[forceV_eq] at hg
    exact g.here s rfl (hv x (by simp[Op.operands])) hg
  case assign x=>
    have hg:good (forceV (eval C x f) (fun v=>k v h)):=hg
    rw[forceV_eq] at hg
    exact g.here s rfl (hv x (by simp[Op.operands])) hg
  case pick c x y=>
    have hg:good (BoolV.rec C.bad (fun t=>Bool.rec (forceV (eval C y f) (fun v=>k v h)) (forceV (eval C x f) (fun v=>k v h)) t) (asBool' (eval C c f))):=hg
    obtain⟨b,hb,hg⟩:=asBool_inv hbad hg
    have hc:=hv c (by simp[Op.operands])
    rw[hb] at hc
    have hc:a.eval c=.bool b:=hc
    cases b with
    |true=>
      have hg:good (forceV (eval C x f) (fun v=>k v h)):=hg
      rw[forceV_eq] at hg
      refine g.here s (v:=a.eval x) ?_ (hv x (by simp[Op.operands])) hg
      unfold execOp;simp only[hc];rfl
    |false=>
      have hg:good (forceV (eval C y f) (fun v=>k v h)):=hg
      rw[forceV_eq] at hg
      refine g.here s (v:=a.eval y) ?_ (hv y (by simp[Op.operands])) hg
      unfold execOp;simp only[hc];rfl
  case alloc e=>
    obtain⟨v,h',hr,hg⟩:=optK_inv hbad (show good (optK C k (exAlloc e (C.E.ty e) h)) from hg)
    exact g.value rfl (exAlloc_ok ok s hr) hg
  case box e x=>
    have hg:good (forceV (eval C x f) (fun v=>Bool.rec C.bad (h.newK (rowOf e v.cells) (fun b h=>k (.ptr b 0) h)) (Nat.ble 1 (len v.cells)))):=hg
    rw[forceV_eq] at hg
    obtain⟨hn,hg⟩:=inv_bool hbad hg
    rw[newK_eq] at hg
    exact g.value rfl (box_ok s e (hv x (by simp[Op.operands])) hn) hg
  case build t ps=>
    obtain⟨v,h',hr,hg⟩:=optK_inv hbad (show good (optK C k (exBuild C.E (C.E.ty t) (evalParts C f ps.toList) h)) from hg)
    rw[evalParts_eq] at hr
    refine g.value rfl (build_ok ok s ?_ hr) hg
    have:=PartsR.map (μ:=μ) (a:=a) (C:=C) (f:=f) (l:=ps.toList) fun x hx=>hv x (by simpa[Op.operands] using hx)
    simpa using this
  case buildSlice t n ps=>
    obtain⟨v,h',hr,hg⟩:=optK_inv hbad (show good (optK C k (withElem C.E t (fun e ei=>exBuildSlice n (evalParts C f ps.toList) h e ei))) from hg)
    rw[evalParts_eq] at hr
    refine g.value rfl (buildSlice_ok ok s ?_ hr) hg
    have:=PartsR.map (μ:=μ) (a:=a) (C:=C) (f:=f) (l:=ps.toList) fun x hx=>hv x (by simpa[Op.operands] using hx)
    simpa using this
  case insert t m x y=>
    obtain⟨v,h',hr,hg⟩:=optK_inv hbad (show good (optK C k (exMapUpdate C.E t (eval C m f) (eval C x f) (eval C y f) h)) from hg)
    obtain⟨e1,w',μ',hrun,s',x'⟩:=mapUpdate_ok (P:=P) ok s hr (hv m (by simp[Op.operands])) (hv x (by simp[Op.operands])) (hv y (by simp[Op.operands]))
    have e1:v=.undef:=e1
    subst e1
    exact g.skip rfl hrun s' x' hg
  case load t x=>
    obtain⟨b,off,hp,hg⟩:=asPtr_inv hbad (show good (PtrV.rec C.bad (fun b off=>Option.rec C.bad (fun i=>ldCell C h k b off i) (C.E.ty t)) (asPtr (eval C x f))) from hg)
    obtain⟨i,hi,hg⟩:=inv_opt hbad hg
    have hx:=hv x (by simp[Op.operands])
    rw[hp] at hx
    obtain⟨av,u,hu,hvr,hg⟩:=ldCell_ok (P:=P) ok hbad s hi hg hx
    exact g.value rfl (.here s hu hvr) hg
  case store t x y=>
    obtain⟨b,off,hp,hg⟩:=asPtr_inv hbad (show good (PtrV.rec C.bad (fun b off=>Option.rec C.bad (fun i=>forceV (eval C y f) (fun v=>stCell C h k b off v i)) (C.E.ty t)) (asPtr (eval C x f))) from hg)
    obtain⟨i,hi,hg⟩:=inv_opt hbad hg
    rw[forceV_eq] at hg
    have hx:=hv x (by simp[Op.operands])
    rw[hp] at hx
    obtain⟨w',h',hr,s',x',hg⟩:=stCell_ok (P:=P) ok hbad s hi hg hx (hv y (by simp[Op.operands]))
    exact g.skip rfl hr s' x' hg
  case nilCheck x=>
    obtain⟨v,h',hr,hg2⟩:=optK_inv hbad (show good (optK C k (exNil (eval C x f) h)) from hg)
    clear hg
    obtain⟨u,hu,hvr,e⟩:=nil_ok (P:=P) (w:=w) (ρ:=a.eval) (o:=⟨dst,.nilCheck x,type,pos,after,guard⟩) rfl (hv x (by simp[Op.operands])) hr
    have e:h'=h:=e
    subst e
    exact g.here s hu hvr hg2
  case binOp b t x y q=>
    obtain⟨v,hr,hg⟩:=inv_opt hbad (show good (Option.rec C.bad (fun v=>k v h) (binG C.E b t x y (eval C x f) (eval C y f))) from hg)
    obtain⟨u,hu,hvr⟩:=binG_ok (w:=w) ok hr (hv x (by simp[Op.operands])) (hv y (by simp[Op.operands]))
    exact g.value rfl (.here s hu hvr) hg
  case unOp b t x=>
    obtain⟨v,hr,hg⟩:=inv_opt hbad (show good (Option.rec C.bad (fun v=>k v h) (unA b (eval C x f))) from hg)
    obtain⟨u,hu,hvr⟩:=unA_ok (P:=P) (w:=w) hr (hv x (by simp[Op.operands]))
    exact g.value rfl (.here s hu hvr) hg
  case convert src d x=>
    obtain⟨v,h',hr,hg⟩:=optK_inv hbad (show good (optK C k (convA C.E h src d (eval C x f))) from hg)
    have hc:(C.E.ty src).isSome=true:=by simp only[okOp,Bool.and_eq_true] at hop;exact hop.2
    exact g.value rfl (convert_ok ok s (hv x (by simp[Op.operands])) hc hr) hg
  case makeInterface t x=>
    obtain⟨v,h',hr,hg⟩:=optK_inv hbad (show good (optK C k (exMkIface C.E t (eval C x f) h)) from hg)
    exact g.value rfl (mkIface_ok ok s hr (hv x (by simp[Op.operands]))) hg
  case makeFunc fn xs ys=>
    have hg:good (evalLK C f xs.toList (fun a=>evalLK C f ys.toList (fun b=>k (.func fn a b) h))):=hg
    rw[evalLK_eq,evalLK_eq] at hg
    have hfn:FnR μ fn fn:=by
      have hp:plainFn fn=true:=by simp only[okOp,Bool.and_eq_true] at hop;exact hop.2
      cases fn<;>first|exact rfl|cases hp
    have h1:VRs μ (xs.toList.map fun x=>eval C x f) (xs.map a.eval).toList:=by
      rw[Array.toList_map]
      exact VRs.map fun x hx=>hv x (by simp[Op.operands] at hx ⊢;exact .inl hx)
    have h2:VRs μ (ys.toList.map fun x=>eval C x f) (ys.map a.eval).toList:=by
      rw[Array.toList_map]
      exact VRs.map fun x hx=>hv x (by simp[Op.operands] at hx ⊢;exact .inr hx)
    have hvr:VR μ (.func fn (xs.toList.map fun x=>eval C x f) (ys.toList.map fun x=>eval C x f)) (.func fn (xs.map a.eval) (ys.map a.eval)):=⟨fn,_,_,rfl,hfn,h1,h2,by
      have hp:plainFn fn=true:=by simp only[okOp,Bool.and_eq_true] at hop;exact hop.2
      cases fn<;>first|exact trivial|cases hp⟩
    exact g.here s rfl hvr hg
  case makeMap t r=>
    cases r with
    |some=>exact absurd hg hbad
    |none=>
      have hg:good (h.newK (.map [] 0) (fun b h=>k (.map b) h)):=hg
      rw[newK_eq] at hg
      exact g.value rfl (makeMap_ok s t) hg
  case makeSlice t x y=>
    obtain⟨v,h',hr,hg⟩:=optK_inv hbad (show good (optK C k (withElem C.E t (fun e ei=>exMakeSlice (natOf (eval C x f)) (natOf (eval C y f)) h e ei))) from hg)
    exact g.value rfl (makeSlice_ok ok s (hv x (by simp[Op.operands])) (hv y (by simp[Op.operands])) hr) hg
  case slice t x lo hi mx=>
    obtain⟨v,h',hr,hg2⟩:=optK_inv hbad (show good (optK C k (Option.rec none (fun m=>withH h (sliceA C.E h t (eval C x f) (evalN C f lo) (evalN C f hi) m)) (maxOf (evalN C f mx)))) from hg)
    obtain⟨m,hm,hr⟩:=opt_inv hr
    obtain⟨hr,e⟩:=withH_inv hr
    have e:h'=h:=e
    subst e
    rw[evalN_eq] at hm hr
    rw[evalN_eq] at hr
    have hs:(mx.map a.eval).isSome=true→(hi.map a.eval).isSome=true:=by
      simp only[okOp,Bool.and_eq_true] at hop
      intro h1
      have h2:=hop.2
      simp only[Option.isSome_map] at h1 ⊢
      rw[h1] at h2
      simpa using h2
    obtain⟨u,hu,hvr⟩:=sliceA_ok (P:=P) ok s (hv x (by simp[Op.operands]))
      (BndR.of (μ:=μ) (a:=a) (C:=C) (f:=f) (x:=lo) fun y e=>hv y (by simp[Op.operands,e]))
      (BndR.of (μ:=μ) (a:=a) (C:=C) (f:=f) (x:=hi) fun y e=>hv y (by simp[Op.operands,e]))
      (BndR.of (μ:=μ) (a:=a) (C:=C) (f:=f) (x:=mx) fun y e=>hv y (by simp[Op.operands,e])) hs hm hr
    exact g.value rfl (.here s hu hvr) hg2
  case fieldAddr t x i=>
    obtain⟨b,off,hp,hg⟩:=asPtr_inv hbad (show good (PtrV.rec C.bad (fun b off=>Option.rec C.bad (fun o=>k (.ptr b (Nat.add off o)) h) (fldOff C.E t i)) (asPtr (eval C x f))) from hg)
    obtain⟨q,hq,hg⟩:=inv_opt hbad hg
    have hx:=hv x (by simp[Op.operands])
    rw[hp] at hx
    obtain⟨u,hu,hvr⟩:=fieldAt_ok (P:=P) (w:=w) ok hq hx
    exact g.value rfl (.here s hu hvr) hg
  case field t x i=>
    obtain⟨v,h',hr,hg⟩:=optK_inv hbad (show good (optK C k (exField C.E t (eval C x f) i h)) from hg)
    exact g.value rfl (field_ok ok s hr (hv x (by simp[Op.operands]))) hg
  case indexAddr t x y=>
    obtain⟨v,h',hr,hg⟩:=optK_inv hbad (show good (optK C k (exIndexAddr C.E t (eval C x f) (natOf (eval C y f)) h)) from hg)
    exact g.value rfl (indexAt_ok ok s hr (hv x (by simp[Op.operands])) (hv y (by simp[Op.operands]))) hg
  case index t x y=>
    obtain⟨v,h',hr,hg⟩:=optK_inv hbad (show good (optK C k (exIndex C.E t (eval C x f) (natOf (eval C y f)) h)) from hg)
    exact g.value rfl (index_ok ok s hr (hv x (by simp[Op.operands])) (hv y (by simp[Op.operands]))) hg
  case lookup t x y b=>
    obtain⟨v,h',hr,hg⟩:=optK_inv hbad (show good (optK C k (exLookup C.E t (eval C x f) (eval C y f) b h)) from hg)
    exact g.value rfl (lookup_ok ok s hr (hv x (by simp[Op.operands])) (hv y (by simp[Op.operands]))) hg
  case mapUpdate t m x y=>
    obtain⟨v,h',hr,hg⟩:=optK_inv hbad (show good (optK C k (exMapUpdate C.E t (eval C m f) (eval C x f) (eval C y f) h)) from hg)
    obtain⟨e1,w',μ',hrun,s',x'⟩:=mapUpdate_ok (P:=P) ok s hr (hv m (by simp[Op.operands])) (hv x (by simp[Op.operands])) (hv y (by simp[Op.operands]))
    have e1:v=.undef:=e1
    subst e1
    exact g.skip rfl hrun s' x' hg
  case mapEntry t x y=>
    obtain⟨v,h',hr,hg⟩:=optK_inv hbad (show good (optK C k (exMapEntry C.E t (eval C x f) (eval C y f) h)) from hg)
    exact g.value rfl (mapEntry_ok ok s hr (hv x (by simp[Op.operands])) (hv y (by simp[Op.operands]))) hg
  case entryStore t m x y=>
    obtain⟨v,h',hr,hg⟩:=optK_inv hbad (show good (optK C k (exEntryStore (eval C m f) (natOf (eval C x f)) (eval C y f) h)) from hg)
    obtain⟨e1,w',μ',hrun,s',x'⟩:=entryStore_ok (P:=P) (t:=t) s hr (hv m (by simp[Op.operands])) (hv x (by simp[Op.operands])) (hv y (by simp[Op.operands]))
    have e1:v=.undef:=e1
    subst e1
    exact g.skip rfl hrun s' x' hg
  case range t x=>
    obtain⟨v,h',hr,hg⟩:=optK_inv hbad (show good (optK C k (exRange C.E t (eval C x f) h)) from hg)
    exact g.value rfl (range_ok ok s hr (hv x (by simp[Op.operands]))) hg
  case next x b=>
    obtain⟨v,h',hr,hg⟩:=optK_inv hbad (show good (optK C k (exNext (eval C x f) b h)) from hg)
    exact g.value rfl (next_ok s hr (hv x (by simp[Op.operands]))) hg
  case entry x=>
    obtain⟨v,h',hr,hg⟩:=optK_inv hbad (show good (optK C k (exEntry (eval C x f) h)) from hg)
    exact g.value rfl (entry_ok s hr (hv x (by simp[Op.operands]))) hg
  case typeAssert x t u b=>
    obtain⟨v,h',hr,hg⟩:=optK_inv hbad (show good (optK C k (exAssert C.E u (eval C x f) b h)) from hg)
    exact g.value rfl (assert_ok ok s hr (hv x (by simp[Op.operands]))) hg
  case extract x i=>
    obtain⟨v,h',hr,hg⟩:=optK_inv hbad (show good (optK C k (exExtract (eval C x f) i h)) from hg)
    exact g.value rfl (extract_ok s hr (hv x (by simp[Op.operands]))) hg
  case call c=>
    have hargs:∀x∈c.args.toList,VR μ (eval C x f) (a.eval x):=fun x hx=>hv x (by
      obtain⟨callee,args,ats⟩:=c
      cases callee<;>simp[Op.operands,Call.operands] at hx ⊢<;>simp[hx])
    have hvs:VRs μ (c.args.toList.map fun x=>eval C x f) (c.args.map a.eval).toList:=by
      rw[Array.toList_map];exact VRs.map hargs
    obtain⟨callee,args,ats⟩:=c
    cases callee with
    |invoke x name=>
      have hg:good (evalLK C f args.toList (fun l=>callI C call (eval C x f) name l h k)):=hg
      rw[evalLK_eq] at hg
      have hx:=hv x (by simp[Op.operands,Call.operands])
      generalize eval C x f=fv at hg hx
      cases fv<;>try exact absurd hg hbad
      rename_i t y
      obtain⟨vy,e,hy⟩:=hx
      have hg:good (match methF C.E t name with|some F=>call (.func F) (y::(args.toList.map fun x=>eval C x f)) h k|none=>C.bad):=hg
      cases hm:methF C.E t name with
      |none=>rw[hm] at hg;exact absurd hg hbad
      |some F=>
        rw[hm] at hg
        have hcc:=hcall μ h w (.func F) (.func F) _ (#[vy]++args.map a.eval) k s gl rfl (by
          simp only[Array.toList_append]
          exact VRs.append (as:=[y]) (vs:=[vy]) ⟨vy,[],rfl,hy,rfl⟩ hvs) hg
        have hrun:(execOp a.eval ⟨dst,.call ⟨.invoke x name,args,ats⟩,type,pos,after,guard⟩).run P w=(callFunc F (#[vy]++args.map a.eval)).run P w:=by
          show(do let d ←resolve a.eval ⟨.invoke x name,args,ats⟩ type;invoke d.target d.args:Sem Next).run P w=_
          rw[show resolve a.eval ⟨.invoke x name,args,ats⟩ type=pure { target:=.fn (.method name) #[],args:=#[.iface t vy]++args.map a.eval } from by
            show(pure { target:=.fn (.method name) #[],args:=#[a.eval x]++args.map a.eval }:Sem Deferred)=_
            rw[e],run_bind_ok run_pure]
          exact run_invoke ok hm
        rcases hcc with⟨fid,hfid,hc⟩|⟨l,F,tmps,as,bd,hl,hr,hround⟩
        · cases hfid
          rcases hc with⟨v,w',μ',av,h',hr,s',x',hvr,hg'⟩|⟨hr,hcalls⟩
          · refine wpIn_of (by intro c h;cases h) ?_
            rw[hrun,hr]
            exact g _ _ _ _ _ s' x' hvr hg'
          · refine wpIn_of (by intro c h;cases h) ?_
            rw[hrun,hr]
            refine⟨fun h=>Bool.noConfusion h,callsFo (Calls.mono hcalls fun e w' he=>?_)⟩
            obtain⟨v,μ',av,h',rfl,s',x',hvr,hg'⟩:=he
            exact g _ _ _ _ _ s' x' hvr hg'
        · cases hl
    |builtin b=>
      have hg:good (evalLK C f args.toList (fun l=>optK C k (builtinA C.E b ats.toList l h))):=hg
      rw[evalLK_eq] at hg
      obtain⟨v,h',hr,hg⟩:=optK_inv hbad hg
      obtain⟨sm,he,d⟩:=builtin_ok (P:=P) (ty:=type) (cs:=args.map fun|.const _=>true|_=>false) ok s hr hvs
      exact g.value (sm:=sm) he d hg
    |value x=>
      have hg:good (evalLK C f args.toList (fun l=>callV C call (eval C x f) l h k)):=hg
      rw[evalLK_eq] at hg
      have hx:=hv x (by simp[Op.operands,Call.operands])
      generalize eval C x f=fv at hg hx
      cases fv<;>try exact absurd hg hbad
      rename_i fn first cap
      obtain⟨fn',vs,ws,e,hfn,h1,h2,hy⟩:=hx
      have hg:good (call fn (first++(args.toList.map fun x=>eval C x f)++cap) h k):=hg
      have hcc:=hcall μ h w fn fn' _ (vs++args.map a.eval++ws) k s gl hfn (by
        simp only[Array.toList_append]
        exact(h1.append hvs).append h2) hg
      have hres:∀t,t=fn'→resolve a.eval ⟨.value x,args,ats⟩ type=pure { target:=.fn t ws,args:=vs++args.map a.eval }:=by
        intro t ht
        show Deferred.ofValue (a.eval x) (args.map a.eval)=_
        rw[e,ht];rfl
      rcases hcc with⟨fid,rfl,hc⟩|⟨l,F,tmps,as,bd,rfl,hr,hround⟩
      · have hrun:(execOp a.eval ⟨dst,.call ⟨.value x,args,ats⟩,type,pos,after,guard⟩).run P w=(callFunc fid (vs++args.map a.eval++ws)).run P w:=by
          show(do let d ←resolve a.eval ⟨.value x,args,ats⟩ type;invoke d.target d.args:Sem Next).run P w=_
          rw[hres _ rfl,run_bind_ok run_pure]
          rfl
        rcases hc with⟨v,w',μ',av,h',hr,s',x',hvr,hg'⟩|⟨hr,hcalls⟩
        · refine wpIn_of (by intro c h;cases h) ?_
          rw[hrun,hr]
          exact g _ _ _ _ _ s' x' hvr hg'
        · refine wpIn_of (by intro c h;cases h) ?_
          rw[hrun,hr]
          refine⟨fun h=>Bool.noConfusion h,callsFo (Calls.mono hcalls fun e w' he=>?_)⟩
          obtain⟨v,μ',av,h',rfl,s',x',hvr,hg'⟩:=he
          exact g _ _ _ _ _ s' x' hvr hg'
      · have hws:ws=#[]:=by
          cases fn<;>try exact hfn.elim
          cases(show cap=[] from hy)
          have:ws.toList=[]:=h2
          exact Array.toList_eq_nil_iff.1 this
        have hrun:(execOp a.eval ⟨dst,.call ⟨.value x,args,ats⟩,type,pos,after,guard⟩).run P w=(Instr.yield l (vs++args.map a.eval++ws)).run P w:=by
          show(do let d ←resolve a.eval ⟨.value x,args,ats⟩ type;invoke d.target d.args:Sem Next).run P w=_
          rw[hres _ rfl,run_bind_ok run_pure,hws,Array.append_empty]
          rfl
        refine wpIn_of (by intro c h;cases h) ?_
        rw[hrun,hr]
        refine⟨fun h=>Bool.noConfusion h,RoundIn.mono (roundFo hround) fun e w' he=>?_⟩
        obtain⟨v,μ',av,h',rfl,s',x',hvr,hg'⟩:=he
        exact g _ _ _ _ _ s' x' hvr hg'
  all_goals exact absurd hg hbad
end
end Go.Den
