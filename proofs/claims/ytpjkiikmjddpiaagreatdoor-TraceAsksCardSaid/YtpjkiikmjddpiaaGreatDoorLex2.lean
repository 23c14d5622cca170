/-
  A part of the proof: a text's characters.
-/
import Derived.Test.YtpjkiikmjddpiaaGreatDoorLex1
namespace Go.Den
open Go.RowKit
set_option maxRecDepth 100000
noncomputable def eiOf (t:TypeId):TI:=Option.rec ei8 (fun t=>t) (env.ty t)
theorem fits_n{ei:TI}{n:Nat}(h1:band (Nat.beq (len ei.zero) ei.size) (Nat.ble 1 ei.size)=true)(hb:Nat.ble ei.bytes 128=true)(hn:n≤1099511627776):fitsMem ei n=true:=by
  have hb:=Nat.le_of_ble_eq_true hb
  have e:fitsMem ei n=band (band (Nat.beq (len ei.zero) ei.size) (Nat.ble 1 ei.size)) (band (Nat.ble n 1099511627776) (Nat.ble (Nat.mul n ei.bytes) 140737488355328)):=rfl
  have h3:n*ei.bytes≤1099511627776*128:=Nat.mul_le_mul hn hb
  rw[e,h1,Nat.ble_eq_true_of_le hn,Nat.ble_eq_true_of_le (show Nat.mul n ei.bytes≤140737488355328 from h3)];rfl
noncomputable def Z69:Tm:=tlist [.int .u8 (.ofNat 0),.int .i64 (.ofNat 0),.int .i64 (.ofNat 0)] 0 .e
theorem bld69(a b c:AV)(h:H):withElem env 76 (fun e ei=>exBuildSlice 1 [(0,.agg [a,b,c])] h e ei)=some (.slice h.next 0 1 3 true,h.new (.row (tlist [a,b,c] 0 Z69) 3 0 81 true)):=by kernel_rfl
theorem app66(x y:AV)(h:H):builtinA env .append [76,76] [x,y] h=exAppend (some false) x y h 81 (eiOf 81):=by kernel_rfl
theorem exB69(a b c:Int)(h:H):exBuild env (env.ty 81) [(0,.int .u8 a),(1,.int .i64 b),(2,.int .i64 c)] h=some (.agg [.int .u8 a,.int .i64 b,.int .i64 c],h):=by kernel_rfl
theorem sz69:(eiOf 81).size=3:=by kernel_rfl
theorem fits69{n:Nat}(hn:n≤1099511627776):fitsMem (eiOf 81) n=true:=fits_n (by kernel_rfl) (by kernel_rfl) hn
/-- one more character -/
theorem app69{lo:Nat}{h:H}{v:AV}{L:List (List AV)}{a b c:AV}(hb:BufN 81 3 lo h v L)(hl:L.length+1≤1099511627776)(hlo:lo≤h.next.nat){k:KV}(hk:∀v' h',BufN 81 3 lo h' v' (L++[[a,b,c]])→Kp 81 lo h h'→k v' h'):
    oK (withElem env 76 (fun e ei=>exBuildSlice 1 [(0,.agg [a,b,c])] h e ei)) fun x h'=>oK (builtinA env .append [76,76] [v,x] h') k:=by
  rw[bld69,oK_some,app66]
  exact app_new hb rfl sz69 (fits69 hl) hlo hk
def rn(x:UInt8)(i j:Nat):List AV:=[ub x,.int .i64 (.ofNat i),.int .i64 (.ofNat j)]
def rns:Nat→List UInt8→List (List AV)
  |_,[]=>[]
  |i,x::s=>rn x i (i+1)::rns (i+1) s
theorem rns_len:∀(s:List UInt8)(i:Nat),(rns i s).length=s.length
  |[],_=>rfl
  |x::s,i=>by show(rns (i+1) s).length+1=s.length+1;rw[rns_len s]
theorem rns_app:∀(a b:List UInt8)(i:Nat),rns i (a++b)=rns i a++rns (i+a.length) b
  |[],b,i=>rfl
  |x::a,b,i=>by
    show rn x i (i+1)::rns (i+1) (a++b)=rn x i (i+1)::(rns (i+1) a++_)
    rw[rns_app a b (i+1)]
    congr 3
    show i+1+a.length=i+(a.length+1);omega
theorem rns_get:∀(s:List UInt8)(i j:Nat)(hj:j<s.length)(hj':j<(rns i s).length),(rns i s)[j]=rn s[j] (i+j) (i+j+1)
  |x::s,i,0,_,_=>rfl
  |x::s,i,j+1,hj,hj'=>by
    have h1:j<s.length:=by simpa using hj
    have h2:j<(rns (i+1) s).length:=by rw[rns_len];exact h1
    show(rns (i+1) s)[j]=rn s[j] _ _
    rw[rns_get s (i+1) j h1 h2]
    congr 1<;>omega
theorem rns_take(s:List UInt8)(i:Nat)(hi:i<s.length):rns 0 (s.take (i+1))=rns 0 (s.take i)++[rn s[i] i (i+1)]:=by
  rw[List.take_succ_eq_append_getElem hi,rns_app]
  have:(s.take i).length=i:=by rw[List.length_take];omega
  rw[this,Nat.zero_add];rfl
theorem c30_1{hE:H}{s:List UInt8}{k:KV}(hs:∀x∈s,x≠63)(hl:s.length≤1000000)(hk:∀h' v',Exh hE h'→BufN 81 3 hE.next.nat h' v' (rns 0 s)→k v' h'):∀(n i:Nat){h:H}{v:AV},2*(s.length-i)<n→i≤s.length→Exh hE h→BufN 81 3 hE.next.nat h v (rns 0 (s.take i))→(r30 W1 k n).a1 s.length (enc s) v (Int.ofNat i) h
  |0,_,_,_,hn,_,_,_=>absurd hn (Nat.not_lt_zero _)
  |n+1,i,h,v,hn,hi,hx,hb=>by
    refine j30_1 ?_
    unfold s30_1
    rw[ilt]
    refine cnd_i (fun e=>?_) (fun e=>?_)
    · have e:i<s.length:=of_decide_eq_true e
      have hne:s[i]≠63:=hs _ (List.getElem_mem e)
      obtain⟨m,rfl⟩:∃m,n=m+1:=⟨n-1,by omega⟩
      rw[iaddN,wrapN (by omega),fI_eq]
      refine and_q (b:=false) (fun k' hk'=>?_) ?_
      · rw[natI_eq]
        refine idxS_i e ?_
        rw[show ibeq (Int.ofNat s[i].toNat) (Int.ofNat 63)=decide (s[i]=63) from ieqB s[i] 63,decide_eq_false hne];exact hk'
      rw[Bool.and_false]
      refine and_i (fun e=>nomatch e) (fun _=>?_)
      refine cnd_f rfl ?_
      refine j30_2 ?_
      unfold s30_2
      rw[natI_eq]
      refine idxS_i e ?_
      rw[iaddN,wrapN (by omega),fI_eq,exB69,oK_some]
      refine app69 hb (by rw[rns_len,List.length_take];omega) hx.1 fun v' h' hb' hk'=>?_
      rw[fI_eq]
      refine c30_1 hs hl hk m (i+1) (by omega) e (hx.kp (Nat.le_refl _) hk') ?_
      rw[rns_take s i e];exact hb'
    · have e:i=s.length:=by have:=of_decide_eq_false e;omega
      subst e
      rw[List.take_length] at hb
      exact hk _ _ hx hb
theorem c30{s:List UInt8}{h:H}{k:KV}(hs:∀x∈s,x≠63)(hl:s.length≤1000000)(hk:∀h' v',Exh h h'→BufN 81 3 h.next.nat h' v' (rns 0 s)→k v' h'):W1 (.func 30) [S s] h k:=by
  refine w30 (n:=2*s.length+2) sw_ok (g30 ?_)
  unfold s30_0
  exact c30_1 hs hl hk _ 0 (by omega) (Nat.zero_le _) Exh.refl (.inl ⟨rfl,rfl⟩)
/-! ### Without backslashes nothing is left out -/
/-- characters and their places -/
def Rns(L:List (List AV))(B:List UInt8):Prop:=L.length=B.length∧∀i (hi:i<B.length) (hi':i<L.length),∃f t:Nat,f≤1000001∧t≤1000001∧L[i]=rn B[i] f t
theorem c29_1{hE:H}{L:List (List AV)}{B:List UInt8}{v0:AV}{k:KV}(hL:Rns L B)(hs:∀x∈B,x≠92)(hl:B.length≤1000000)(hr:Rd 3 hE v0 L)(hk:∀h' v',Exh hE h'→BufN 81 3 hE.next.nat h' v' L→k v' h'):∀(n i:Nat){h:H}{v:AV},2*(B.length-i)<n→i≤B.length→Exh hE h→BufN 81 3 hE.next.nat h v (L.take i)→(r29 W1 k n).a1 v0 v (Int.ofNat i) h
  |0,_,_,_,hn,_,_,_=>absurd hn (Nat.not_lt_zero _)
  |n+1,i,h,v,hn,hi,hx,hb=>by
    refine j29_1 ?_
    unfold s29_1
    have hr':=hr.ext hx
    rw[hr'.len,hL.1,ilt]
    refine cnd_i (fun e=>?_) (fun e=>?_)
    · have e:i<B.length:=of_decide_eq_true e
      have e':i<L.length:=by rw[hL.1];exact e
      have hne:B[i]≠92:=hs _ (List.getElem_mem e)
      obtain⟨m,rfl⟩:∃m,n=m+1:=⟨n-1,by omega⟩
      obtain⟨f,t,_,_,hc⟩:=hL.2 i e e'
      rw[natI_eq]
      refine hr'.fld (j:=0) e' (by rw[hc];exact Nat.zero_lt_succ _) ?_
      simp only[hc,rn,List.getElem_cons_zero]
      unfold ub
      rw[asI_k]
      refine and_q (b:=decide (i+1<B.length)) (fun k' hk'=>?_) ?_
      · rw[iaddN,wrapN (by omega),fI_eq,hr'.len,hL.1,ilt];exact hk'
      rw[show ibeq (Int.ofNat B[i].toNat) (Int.ofNat 92)=decide (B[i]=92) from ieqB B[i] 92,decide_eq_false hne]
      refine and_i (fun e=>nomatch e) (fun _=>?_)
      refine cnd_f rfl ?_
      rw[natI_eq]
      refine hr'.all e' (by rw[hc];rfl) ?_
      rw[hc]
      refine app69 hb (by rw[List.length_take];omega) hx.1 fun v' h' hb' hk'=>?_
      refine j29_2 ?_
      unfold s29_2
      rw[iaddN,wrapN (by omega),fI_eq]
      refine c29_1 hL hs hl hr hk m (i+1) (by omega) e (hx.kp (Nat.le_refl _) hk') ?_
      rw[List.take_succ_eq_append_getElem e',hc];exact hb'
    · have e:i=L.length:=by have:=of_decide_eq_false e;have:=hL.1;omega
      subst e
      rw[List.take_length] at hb
      exact hk _ _ hx hb
theorem c29{L:List (List AV)}{B:List UInt8}{v0:AV}{h:H}{k:KV}(hL:Rns L B)(hs:∀x∈B,x≠92)(hl:B.length≤1000000)(hr:Rd 3 h v0 L)(hk:∀h' v',Exh h h'→BufN 81 3 h.next.nat h' v' L→k v' h'):W1 (.func 29) [v0] h k:=by
  refine w29 (n:=2*B.length+2) sw_ok (g29 ?_)
  unfold s29_0
  exact c29_1 hL hs hl hr hk _ 0 (by omega) (Nat.zero_le _) Exh.refl (.inl ⟨rfl,rfl⟩)
theorem rns_ok(s:List UInt8)(hl:s.length≤1000000):Rns (rns 0 s) s:=
  ⟨rns_len s 0,fun i hi hi'=>⟨i,i+1,by omega,by omega,by rw[rns_get s 0 i hi hi',Nat.zero_add]⟩⟩
theorem Rns.snoc{L:List (List AV)}{B:List UInt8}{x:UInt8}{f t:Nat}(hL:Rns L B)(hf:f≤1000001)(ht:t≤1000001):Rns (L++[rn x f t]) (B++[x]):=by
  refine⟨by simp[hL.1],fun i hi hi'=>?_⟩
  by_cases e:i<B.length
  · have e':i<L.length:=by rw[hL.1];exact e
    rw[List.getElem_append_left e,List.getElem_append_left e']
    exact hL.2 i e e'
  · have ei:i=B.length:=by rw[List.length_append,List.length_singleton] at hi;omega
    subst ei
    refine⟨f,t,hf,ht,?_⟩
    rw[List.getElem_append_right (by rw[hL.1];exact Nat.le_refl _),List.getElem_append_right (Nat.le_refl _)]
    simp
/-- a text's characters, and a line's end -/
def Rs(h:H)(v:AV)(B:List UInt8):Prop:=∃L,Rd 3 h v L∧Rns L B
theorem Rs.ext{h h':H}{v:AV}{B:List UInt8}(hr:Rs h v B)(hx:Exh h h'):Rs h' v B:=by
  obtain⟨L,a,b⟩:=hr;exact⟨L,a.ext hx,b⟩
/-- a character; 0 beyond the end -/
def bt(B:List UInt8)(i:Nat):UInt8:=B.getD i 0
theorem bt_lt{B:List UInt8}{i:Nat}(h:i<B.length):bt B i=B[i]:=by unfold bt;rw[List.getD_eq_getElem?_getD,List.getElem?_eq_getElem h];rfl
theorem bt_ge{B:List UInt8}{i:Nat}(h:B.length≤i):bt B i=0:=by unfold bt;rw[List.getD_eq_getElem?_getD,List.getElem?_eq_none h];rfl
theorem Rs.at0{h:H}{v:AV}{B:List UInt8}(hr:Rs h v B){i:Nat}(hi:i<B.length){K:AV→Prop}(hk:K (ub B[i])):elemA 3 i v fun a=>fAddr 0 a fun a=>ld1 a h K:=by
  obtain⟨L,r,hL⟩:=hr
  have e':i<L.length:=by rw[hL.1];exact hi
  obtain⟨f,t,_,_,hc⟩:=hL.2 i hi e'
  refine r.fld (j:=0) e' (by rw[hc];exact Nat.zero_lt_succ _) ?_
  simp only[hc,rn,List.getElem_cons_zero]
  exact hk
theorem Rs.len{h:H}{v:AV}{B:List UInt8}(hr:Rs h v B){K:Nat→Prop}:lenV v K=K B.length:=by
  obtain⟨L,r,hL⟩:=hr
  rw[r.len,hL.1]
def isLetter(x:UInt8):Bool:=(decide (97≤x.toNat)&&decide (x.toNat≤122))||(decide (65≤x.toNat)&&decide (x.toNat≤90))||decide (x.toNat=95)
def isDigit(x:UInt8):Bool:=decide (48≤x.toNat)&&decide (x.toNat≤57)
def isWhite(x:UInt8):Bool:=decide (x.toNat=32)||decide (x.toNat=9)||(decide (11≤x.toNat)&&decide (x.toNat≤13))
end Go.Den
