/-
  A part of the proof: the program's table of files: a file is made.
-/
import Derived.Test.YtpjkiikmjddpiaaGreatDoorMkf
namespace Go.Den
open Go.RowKit
set_option maxRecDepth 100000
theorem write_row{h:H}{q:P}{t:Tm}{m z o:Nat}{e:TypeId}{w:Bool}{cs:List AV}(ha:h.at q=.row t m z e w)(hz:z≤o)(ho:o+cs.length≤m):h.write q o cs=some (h.put q (.row (tlist cs o t) m z e w)):=by
  unfold Hp.write Hp.writeK
  rw[ha]
  show(wrRow h q o cs none some t m z e w:Option H)=_
  unfold wrRow
  rw[len_eq,Nat.ble_eq_true_of_le hz,show Nat.ble (Nat.add o cs.length) m=true from Nat.ble_eq_true_of_le ho]
  show forceT (tlist cs o t) (fun t=>h.putK q (.row t m z e w) some)=_
  rw[forceT_eq,putK_eq]
theorem read1_row{h:H}{q:P}{t:Tm}{m z o:Nat}{e:TypeId}{w:Bool}(ha:h.at q=.row t m z e w)(ho:o<m):h.read1 q o=some (tget t o):=by
  unfold Hp.read1 Hp.read1K
  rw[ha]
  show(rd1Row o none some t m:Option AV)=_
  unfold rd1Row
  rw[show Nat.ble (Nat.add o 1) m=true from Nat.ble_eq_true_of_le ho]
  show forceV (tget t o) some=_
  rw[forceV_eq]
theorem c109{h:H}{q:P}{t:Tm}{e:TypeId}{n m:Int}(ha:h.at q=.row t 1 0 e true)(ht:tget t 0=.int .i64 n){k:KV}(hk:∀w t',k (.int .i64 w) (h.put q (.row t' 1 0 e true))):W1 (.func 109) [.ptr q 0,.int .i64 m] h k:=by
  refine x109 ?_
  refine cnd_t rfl ?_
  have e1:extA (.aAdd .i64) [.ptr q 0,.int .i64 m] h=some (.int .i64 (wrap .i64 (iadd n m)),h.put q (.row (tlist [.int .i64 (wrap .i64 (iadd n m))] 0 t) 1 0 e true)):=by
    show(Option.rec none (fun v=>Option.rec none (fun n=>Option.rec none (fun m=>Option.rec none (fun h=>some (.int .i64 (wrap .i64 (iadd n m)),h)) (h.write q 0 [.int .i64 (wrap .i64 (iadd n m))])) (isI .i64 (.int .i64 m))) (isI .i64 v)) (h.read1 q 0):Option (AV×H))=_
    rw[read1_row ha Nat.one_pos,ht]
    show(Option.rec none (fun h=>some (.int .i64 (wrap .i64 (iadd n m)),h)) (h.write q 0 [.int .i64 (wrap .i64 (iadd n m))]):Option (AV×H))=_
    rw[write_row (cs:=[.int .i64 (wrap .i64 (iadd n m))]) ha (Nat.le_refl _) (Nat.le_refl 1)]
  rw[e1,oK_some]
  exact hk _ _
theorem c85{h:H}{q:P}{t:Tm}{e:TypeId}{n m:Int}(ha:h.at q=.row t 1 0 e true)(ht:tget t 0=.int .i64 n){k:KV}(hk:∀w t',k (.int .i64 w) (h.put q (.row t' 1 0 e true))):W1 (.func 85) [.ptr q 0,.int .i64 m] h k:=by
  refine w85 (n:=1) sw_ok (g85 ?_)
  unfold s85_0
  rw[exNil_p,oK_some,fAddr_i]
  refine c109 ha ht fun w t'=>?_
  rw[asI_k]
  exact hk w t'
/-! ### Maps whose keys are texts -/
theorem appL_eq'{α:Type}:∀(l r:List α),appL l r=l++r
  |[],_=>rfl
  |a::l,r=>by show a::appL l r=_;rw[appL_eq' l r];rfl
theorem keys_none{p:List UInt8}:∀{es:Es}{fs:List Fl}(i:Nat),es.map (·.1)=fs.map (fun f=>S f.1)→textOf fs p=none→findP (S p) es i=some none
  |[],[],_,_,_=>rfl
  |[],_::_,_,h,_=>by cases h
  |_::_,[],_,h,_=>by cases h
  |(k,v,b)::es,f::fs,i,h,hn=>by
    rw[List.map_cons,List.map_cons] at h
    injection h with h1 h2
    have h1:k=S f.1:=h1
    subst h1
    have ne:f.1≠p:=fun e=>by rw[textOf,if_pos e] at hn;cases hn
    have hn':textOf fs p=none:=by rw[textOf,if_neg ne] at hn;exact hn
    rw[findP_c,strEq_enc,decide_eq_false fun q=>ne q.symm]
    exact keys_none (Nat.add i 1) h2 hn'
theorem keys_last{p:List UInt8}{v:AV}{b:Nat}:∀{es:Es}(i:Nat),findP (S p) es i=some none→∃j,findP (S p) (es++[(S p,v,b)]) i=some (some (v,b,j))
  |[],i,_=>⟨i,by
    show findP (S p) ((S p,v,b)::[]) i=_
    rw[findP_c,strEq_enc,decide_eq_true rfl]⟩
  |(k,v',b')::es,i,h=>by
    have e:∀(es:Es)(i:Nat),findP (S p) ((k,v',b')::es) i=(Option.rec none (fun t=>Bool.rec (findP (S p) es (Nat.add i 1)) (some (some (v',b',i))) t) (eqPl (S p) k):Option Hit):=fun _ _=>rfl
    rw[e] at h
    show∃j,findP (S p) ((k,v',b')::(es++[(S p,v,b)])) i=_
    rw[e]
    cases q:eqPl (S p) k with
    |none=>rw[q] at h;cases h
    |some t=>
      rw[q] at h
      cases t with
      |true=>cases h
      |false=>exact keys_last (es:=es) (Nat.add i 1) h
theorem lookVT(q:P)(l c:Nat)(h:H):exLookup env 85 (.map q) (.str l c) false h=(Option.rec none (fun p=>exLook3 env 201 false (findP (.str l c) p.1 0) h) (esOf (h.at q)):Option (AV×H)):=by kernel_rfl
theorem lookVTn(h:H):exLook3 env 201 false (some none) h=some (.nilp,h):=by kernel_rfl
theorem updVT(q:P)(l c:Nat)(v:AV)(h:H):exMapUpdate env 85 (.map q) (.str l c) v h=(Option.rec none (fun p=>mapPut q (.str l c) v p.1 p.2 (findP (.str l c) p.1 0) h) (esOf (h.at q)):Option (AV×H)):=by kernel_rfl
theorem updFT(q:P)(l c:Nat)(v:AV)(h:H):exMapUpdate env 84 (.map q) (.str l c) v h=(Option.rec none (fun p=>mapPut q (.str l c) v p.1 p.2 (findP (.str l c) p.1 0) h) (esOf (h.at q)):Option (AV×H)):=by kernel_rfl
theorem lenFT(q:P)(h:H):biLen env [84] (.map q) h=(Option.rec none (fun p=>some (.int .i64 (.ofNat (len p.1)),h)) (esOf (h.at q)):Option (AV×H)):=by kernel_rfl
theorem eqVn:binA env .eql 201 .nilp .nilp=some (.bool true):=by kernel_rfl
theorem exBat(h:H):exBuild env (env.ty 175) [] h=some (.agg [.int .i64 (.ofNat 0)],h):=by kernel_rfl
theorem put_none{q:P}{p:List UInt8}{v:AV}{es:Es}{ck:Nat}{h:H}(hn:findP (S p) es 0=some none):mapPut q (S p) v es ck (findP (S p) es 0) h=some (.undef,h.put q (.map (es++[(S p,v,ck)]) (ck+1))):=by
  rw[hn,←appL_eq'];rfl
theorem c62{h:H}{pT pF pV:P}{es:Es}{ck:Nat}{p:List UInt8}(hT:AtP h pT 0 [.nils,.map pF,.map pV])(nT:pT.nat<h.next.nat)(nV:pV.nat<h.next.nat)(hV:h.at pV=.map es ck)(hn:findP (S p) es 0=some none){k:KV}
    (hk:∀h' v ck',FrX (fun c=>c=pV) h h'→h'.at pV=.map (es++[(S p,v,ck)]) ck'→k (.tuple []) h'):W1 (.func 62) [.ptr pT 0,S p] h k:=by
  have neT:pT≠pV:=fun e=>at_map hT (by rw[e];exact hV)
  refine w62 (n:=2) sw_ok (g62 ?_)
  unfold s62_0
  rw[exNil_p,oK_some,fAddr_i]
  refine hT.ld1 (j:=2) (by show 2<3;decide) ?_
  show oK (exLookup env 85 (.map pV) (S p) false h) _
  rw[lookVT,hV]
  show oK (exLook3 env 201 false (findP (S p) es 0) h) _
  rw[hn,lookVTn,oK_some,eqVn,oV_b,asB_b]
  refine cnd_t rfl ?_
  rw[exNil_p,oK_some,fAddr_i]
  refine hT.ld1 (j:=2) (by show 2<3;decide) ?_
  show oK (exBuild env (env.ty 175) [] h) _
  rw[exBat,oK_some,asG_g]
  refine chk_i (by simp) (newK_i ?_)
  have x1:Exh h (h.new (rowOf 175 [.int .i64 (.ofNat 0)])):=.new
  have a1:(h.new (rowOf 175 [.int .i64 (.ofNat 0)])).at h.next=.row (tlist [.int .i64 (.ofNat 0)] 0 .e) 1 0 175 true:=at_new_same _ _
  generalize h.new (rowOf 175 [.int .i64 (.ofNat 0)])=h1 at x1 a1 ⊢
  have x11:=x1.1
  have hV1:h1.at pV=.map es ck:=by rw[x1.2 _ nV];exact hV
  show oK (exMapUpdate env 85 (.map pV) (S p) (.ptr h.next 0) h1) _
  rw[updVT,hV1]
  show oK (mapPut pV (S p) (.ptr h.next 0) es ck (findP (S p) es 0) h1) _
  rw[put_none hn,oK_some]
  have ne:h.next≠pV:=fun e=>by rw[←e] at nV;exact Nat.lt_irrefl _ nV
  have hV2:(h1.put pV (.map (es++[(S p,.ptr h.next 0,ck)]) (ck+1))).at pV=.map (es++[(S p,.ptr h.next 0,ck)]) (ck+1):=at_put_same _ _ _
  have hT2:AtP (h1.put pV (.map (es++[(S p,.ptr h.next 0,ck)]) (ck+1))) pT 0 [.nils,.map pF,.map pV]:=(hT.ext x1 nT).frame (at_put_o neT)
  have a2:(h1.put pV (.map (es++[(S p,.ptr h.next 0,ck)]) (ck+1))).at h.next=.row (tlist [.int .i64 (.ofNat 0)] 0 .e) 1 0 175 true:=by rw[at_put_o ne];exact a1
  have x2:FrX (fun c=>c=pV) h (h1.put pV (.map (es++[(S p,.ptr h.next 0,ck)]) (ck+1))):=x1.frx.trans (.put rfl)
  generalize h1.put pV (.map (es++[(S p,.ptr h.next 0,ck)]) (ck+1))=h2 at hV2 hT2 a2 x2 ⊢
  refine j62_1 ?_
  unfold s62_1
  rw[exNil_p,oK_some,fAddr_i]
  refine hT2.ld1 (j:=2) (by show 2<3;decide) ?_
  show oK (exLookup env 85 (.map pV) (S p) false h2) _
  rw[lookVT,hV2]
  obtain⟨j,hj⟩:=keys_last (v:=.ptr h.next 0) (b:=ck) 0 hn
  show oK (exLook3 env 201 false (findP (S p) (es++[(S p,.ptr h.next 0,ck)]) 0) h2) _
  rw[hj]
  show oK (some (.ptr h.next 0,h2)) _
  rw[oK_some]
  refine c85 (n:=.ofNat 0) a2 (by kernel_rfl) fun w t'=>?_
  rw[asI_k]
  refine hk _ (.ptr h.next 0) (ck+1) ⟨by rw[next_put];exact x2.1,fun c hc hne=>?_⟩ (by rw[at_put_o ne.symm];exact hV2)
  rw[at_put_o fun e=>by subst e;exact Nat.lt_irrefl _ hc,x2.2 c hc hne]
theorem FsP.snoc{h:H}{p x:List UInt8}{q:P}{b:Nat}:∀{es:Es}{fs:List Fl},FsP h es fs→RopeP 4 h (.ptr q 0) x→FsP h (es++[(S p,.ptr q 0,b)]) (fs++[(p,x)])
  |[],[],_,hr=>⟨rfl,hr,⟨q,rfl⟩,trivial⟩
  |_::_,_::_,⟨h1,h2,h3,h4⟩,hr=>⟨h1,h2,h3,FsP.snoc h4 hr⟩
  |[],_::_,h,_=>h.elim
  |_::_,[],h,_=>h.elim
theorem FsP.none{h:H}{p:List UInt8}{es:Es}{fs:List Fl}(hf:FsP h es fs)(hn:textOf fs p=none):findP (S p) es 0=some none:=by
  rcases hf.look (p:=p) 0 with⟨_,e⟩|⟨x,_,_,_,e,_⟩
  · exact e
  · rw[hn] at e;cases e
theorem c37{h:H}{pT pF pV q:P}{fs:List Fl}{p x:List UInt8}(tb:TabP h pT pF pV fs)(hn:textOf fs p=none)(hr:RopeP 4 h (.ptr q 0) x){k:KV}
    (hk:∀h',FrX (fun c=>c=pF∨c=pV) h h'→TabP h' pT pF pV (fs++[(p,x)])→k (.int .i64 (Int.ofNat 0)) h'):W1 (.func 37) [.ptr pT 0,S p,.ptr q 0,.int .i64 (Int.ofNat 0)] h k:=by
  obtain⟨es,ck,hF,hfs,hlen⟩:=tb.files
  obtain⟨ev,cv,hV,hkeys⟩:=tb.vers
  have nF:=hfs.none hn
  have nV:=keys_none 0 hkeys hn
  have neF:pT≠pF:=fun e=>at_map tb.row (by rw[e];exact hF)
  have neV:pT≠pV:=fun e=>at_map tb.row (by rw[e];exact hV)
  refine w37 (n:=1) sw_ok (g37 ?_)
  unfold s37_0
  refine cnd_t rfl ?_
  rw[exNil_p,oK_some,fAddr_i]
  refine tb.row.ld1 (j:=1) (by show 1<3;decide) ?_
  show oK (exMapUpdate env 84 (.map pF) (S p) (.ptr q 0) h) _
  rw[updFT,hF]
  show oK (mapPut pF (S p) (.ptr q 0) es ck (findP (S p) es 0) h) _
  rw[put_none nF,oK_some]
  have x1:FrX (fun c=>c=pF) h (h.put pF (.map (es++[(S p,.ptr q 0,ck)]) (ck+1))):=.put rfl
  have hF1:(h.put pF (.map (es++[(S p,.ptr q 0,ck)]) (ck+1))).at pF=.map (es++[(S p,.ptr q 0,ck)]) (ck+1):=at_put_same _ _ _
  have hV1:(h.put pF (.map (es++[(S p,.ptr q 0,ck)]) (ck+1))).at pV=.map ev cv:=by rw[at_put_o tb.ne.symm];exact hV
  have hT1:AtP (h.put pF (.map (es++[(S p,.ptr q 0,ck)]) (ck+1))) pT 0 [.nils,.map pF,.map pV]:=tb.row.frame (at_put_o neF)
  have n1:(h.put pF (.map (es++[(S p,.ptr q 0,ck)]) (ck+1))).next=h.next:=rfl
  generalize h.put pF (.map (es++[(S p,.ptr q 0,ck)]) (ck+1))=h1 at x1 hF1 hV1 hT1 n1 ⊢
  refine c62 hT1 (by rw[n1];exact tb.nT) (by rw[n1];exact tb.nV) hV1 nV fun h2 v ck' x2 hV2=>?_
  have x12:FrX (fun c=>c=pF∨c=pV) h h2:=(x1.weak fun c e=>.inl e).trans (x2.weak fun c e=>.inr e)
  have hF2:h2.at pF=.map (es++[(S p,.ptr q 0,ck)]) (ck+1):=by rw[x2.2 pF (by rw[n1];exact tb.nF) tb.ne];exact hF1
  have ok:∀q' cs,AtP h q' 0 cs→cs.length=5→¬(q'=pF∨q'=pV):=fun q' cs ha _ e=>e.elim (fun e=>by subst e;exact at_map ha hF) fun e=>by subst e;exact at_map ha hV
  refine hk h2 x12 ⟨hT1.frame (x2.2 pT (by rw[n1];exact tb.nT) neV),Nat.lt_of_lt_of_le tb.nT x12.1,Nat.lt_of_lt_of_le tb.nF x12.1,Nat.lt_of_lt_of_le tb.nV x12.1,tb.ne,⟨_,_,hF2,(hfs.mono fun v s r=>r.frx x12 ok).snoc (hr.frx x12 ok),by rw[List.length_append,List.length_append,hlen];rfl⟩,⟨_,_,hV2,by rw[List.map_append,List.map_append,hkeys];rfl⟩⟩
/-! ### Create -/
def crE(fs:List Fl)(p:List UInt8):Nat:=if valB p=true then(if(textOf fs p).isSome=true then 3 else 0) else 1
def crF(fs:List Fl)(p x:List UInt8):List Fl:=if crE fs p=0 then fs++[(p,x)] else fs
theorem crE_0{fs:List Fl}{p:List UInt8}:crE fs p=0↔valB p=true∧textOf fs p=none:=by
  unfold crE
  by_cases a:valB p=true
  · rw[if_pos a]
    cases e:textOf fs p with
    |none=>simp[a]
    |some y=>simp
  · rw[if_neg a]
    simp[a]
theorem c21{h:H}{pT pF pV:P}{fs:List Fl}{p x:List UInt8}(tb:TabP h pT pF pV fs)(h50:fs.length<50)(hp:p.length≤1000000)(hx:x.length≤2048){k:KV}
    (hk:∀h',FrX (fun c=>c=pF∨c=pV) h h'→TabP h' pT pF pV (crF fs p x)→k (.int .i64 (Int.ofNat (crE fs p))) h'):W1 (.func 21) [.ptr pT 0,S p,S x] h k:=by
  refine w21 (n:=1) sw_ok (g21 ?_)
  unfold s21_0
  rw[eqTb,oV_b,asB_b]
  refine cnd_f rfl ?_
  refine c33 hp fun h1 x1=>?_
  have tb1:=tb.ext x1
  rw[asB_b,bn_not]
  refine cnd_i (fun e=>?_) (fun e=>?_)
  · have e:valB p=false:=by cases w:valB p with
      |true=>rw[w] at e;cases e
      |false=>rfl
    have e1:crE fs p=1:=by unfold crE;rw[if_neg (by rw[e];decide)]
    have e2:crF fs p x=fs:=by unfold crF;rw[e1];rfl
    rw[e1,e2] at hk
    exact hk _ x1.frx tb1
  have e:valB p=true:=by cases w:valB p with
    |true=>rfl
    |false=>rw[w] at e;cases e
  rw[exNil_p,oK_some,fAddr_i]
  refine tb1.row.ld1 (j:=1) (by show 1<3;decide) ?_
  refine tb1.get p fun v hv=>?_
  rw[ext_0,ext_1,asB_b]
  refine cnd_i (fun q=>?_) (fun q=>?_)
  · have e1:crE fs p=3:=by unfold crE;rw[if_pos e,if_pos q]
    have e2:crF fs p x=fs:=by unfold crF;rw[e1];rfl
    rw[e1,e2] at hk
    exact hk _ x1.frx tb1
  have hn:textOf fs p=none:=by
    cases w:textOf fs p with
    |none=>rfl
    |some y=>rw[w] at q;cases q
  have e1:crE fs p=0:=crE_0.2 ⟨e,hn⟩
  have e2:crF fs p x=fs++[(p,x)]:=by unfold crF;rw[if_pos e1]
  rw[e1,e2] at hk
  rw[exNil_p,oK_some,fAddr_i]
  refine tb1.row.ld1 (j:=1) (by show 1<3;decide) ?_
  obtain⟨es,ck,hF,hfs,hlen⟩:=tb1.files
  show oK (biLen env [84] (.map pF) h1) _
  rw[lenFT,hF]
  show oK (some (.int .i64 (.ofNat (len es)),h1)) _
  rw[oK_some,asI_k,len_eq,hlen,ile]
  refine cnd_f (decide_eq_false (by omega)) ?_
  refine c36 hx fun h2 q2 x2 r2=>?_
  rw[ext_0,ext_1,asI_k]
  refine c37 (tb1.ext x2) hn r2 fun h3 x3 t3=>?_
  rw[asI_k]
  exact hk h3 ((x1.trans x2).frx.trans x3) t3
end Go.Den
