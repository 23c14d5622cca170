/-
 Proof.
-/
import Derived.Test.YtcnmehbkpaoolaaGreatDoorLex7
import Derived.Lib.MakeNoZero
noncomputable section
namespace Go.Den
open Go.RowKit
set_option maxRecDepth 100000
theorem Blq{n:Nat}(hn:n≤1099511627776){h:H}{k:KV}(hk:k (.slice h.next 0 n 1 false) (h.new (.row .e 0 0 TB false))):W1 (.func 290) [.int .i64 (Int.ofNat n)] h k:=by
 intro μ w fn' vargs s gl hfn hv
 have hfn':fn'=.func 290:=by cases fn'<;>simp only[FnR] at hfn<;>first|(cases hfn;rfl)|cases hfn
 obtain⟨v,vs,e,h1,h2⟩:=hv
 have h2:vs=[]:=h2
 have h1:v=.int .i64 (Int.ofNat n):=h1
 subst h2 h1
 have hva:vargs=#[.int .i64 (Int.ofNat n)]:=by apply Array.ext';simpa using e
 subst hva
 obtain⟨cs,hr,hle,_⟩:=Lib.run_makeNoZero (P:=PP) w #[3] 115 TB Proofs.Tryz.underlying115 n (by omega)
 have hrun:(callFunc 290 #[.int .i64 (Int.ofNat n)]).run PP w=.ok (.value (.slice (some ⟨w.heap.size,0,none⟩) n cs.size)) (w.drew.drew.alloc (.cells cs TB)):=by
  rw[run_callFunc_extern (e:=Extern.BytealgMakeNoZero.makeNoZero #[3] #[115]) Proofs.Tryz.func290 (by kernel_rfl) (by kernel_rfl) (by kernel_rfl) (by kernel_rfl)]
  rw[show(Extern.BytealgMakeNoZero.makeNoZero #[3] #[115] #[.int .i64 (Int.ofNat n)]).run PP w=_ from hr]
  rfl
 obtain⟨s1,x1⟩:=Sim.alloc (s.heap (w':=w.drew.drew) rfl) (.row .e 0 0 TB false) (.cells cs TB) cs.size 0 (fun μ' _=>by
  refine⟨_,_,Fe w.drew.drew _,⟨rfl,by show 0+0≤cs.size;omega,fun j hj=>absurd hj (Nat.not_lt_zero _)⟩,(fun e=>nomatch e),fun _ i _ hi=>?_⟩
  intro hh
  omega)
 refine .inl ⟨290,hfn',.inl ⟨_,_,_,_,_,hrun,s1,(Cr.heap μ h (w:=w) (w':=w.drew.drew) rfl rfl rfl rfl).trans x1,?_,hk⟩⟩
 refine⟨_,_,rfl,hle,⟨(fun e=>nomatch e),_,Mu.Cc _ _ _⟩,.inr ⟨_,Mu.Cc _ _ _,rfl,?_⟩⟩
 show 0+0+cs.size*1≤cs.size
 omega
theorem A1v(x:AV)(h:H):Aq env .cap [115] [x] h=Alx x h:=by kernel_rfl
theorem Bf1(x y:AV)(h:H):Aq env .copy [115,115] [x,y] h=Sz x y h TB ei8:=by kernel_rfl
theorem Biz(b:P)(n:Nat)(h:H):slice3 env h 115 (.slice b 0 n 1 false) none (some (Bc (.int .i64 (Int.ofNat 0)))) none=Ff h (Tc b 0 n 1 false 0 0 none):=by kernel_rfl
theorem Bls{h:H}{b:P}{t:Tm}{n:Nat}{k:KV}(ha:h.at b=.row t 2 0 149 true)(hb:b.nat<h.next.nat)(h0:Bh t 0=.ptr b 0)(h1:Bh t 1=.Ad)(hn:n≤1099511627776)(hk:∀h',Bld true h' b []→k (.tuple []) h'):W1 (.func 258) [.ptr b 0,.int .i64 (Int.ofNat n)] h k:=by
 refine A9q (n:=1) Bl (Bjv ?_)
 unfold Adp
 rw[Bj,Ae,Ev]
 refine Cz ha (by decide) ?_
 rw[h1,A1v,show(Alx AV.Ad h:Option (AV×H))=some (.int .i64 (Int.ofNat 0),h) from rfl,Ae,Au,As,As]
 have e1:wrap .i64 (Bn (wrap .i64 (Int.ofNat 2*Int.ofNat 0)) (Int.ofNat n))=Int.ofNat n:=by
  rw[show wrap .i64 (Int.ofNat 2*Int.ofNat 0)=Int.ofNat 0 by kernel_rfl,Hj,show Int.ofNat 0+Int.ofNat n=Int.ofNat n by show(0:Int)+(n:Int)=(n:Int);omega]
  exact Cg (by omega)
 rw[e1,Bj,Ae,Ev]
 refine Cz ha (by decide) ?_
 rw[h1]
 refine Blq hn ?_
 have ha1:(h.new (.row .e 0 0 TB false)).at b=.row t 2 0 149 true:=by rw[Dd hb];exact ha
 refine Cz ha1 (by decide) ?_
 rw[h1,Au3,Biz]
 have e2:(Ff (h.new (.row .e 0 0 TB false)) (Tc h.next 0 n 1 false 0 0 none):Option (AV×H))=some (.slice h.next 0 0 1 false,h.new (.row .e 0 0 TB false)):=by
  cases n<;>rfl
 rw[e2,Ae,Bj,Ae,Ev]
 refine Cz ha1 (by decide) ?_
 rw[h1,Bf1]
 have e3:∃h3,(Sz (.slice h.next 0 0 1 false) .Ad (h.new (.row .e 0 0 TB false)) TB ei8:Option (AV×H))=some (.int .i64 (Int.ofNat 0),h3)∧h3=(h.new (.row .e 0 0 TB false)).put h.next (.row .e 0 0 TB false):=by
  refine⟨_,?_,rfl⟩
  show(Un 0 ((h.new (.row .e 0 0 TB false)).write h.next 0 []):Option (AV×H))=_
  have:(h.new (.row .e 0 0 TB false)).write h.next 0 []=some ((h.new (.row .e 0 0 TB false)).put h.next (.row .e 0 0 TB false)):=by
   unfold Hp.write Hp.Gm
   rw[Ay]
   show(h.new (.row .e 0 0 TB false)).Po h.next (.row .e 0 0 TB false) some=_
   rw[Lh]
  rw[this];rfl
 obtain⟨h3,e3,e4⟩:=e3
 rw[e3,Ae,Au,Bj,Ae,Ev]
 have hbn:b≠h.next:=fun e=>by subst e;exact absurd hb (Nat.lt_irrefl _)
 have a3:h3.at b=.row t 2 0 149 true:=by rw[e4,Cd hbn];exact ha1
 have n3:h3.next.nat=h.next.nat+1:=by rw[e4];exact Be (o:=.row .e 0 0 TB false)
 refine Bld.fin (g:=true) (l:=[]) a3 (by omega) h0 (.inr ⟨h.next,.e,0,0,false,rfl,by omega,by rw[e4,Bk],Nat.le_refl _,Nat.le_refl _,fun i hi=>absurd hi (Nat.not_lt_zero _),.inl rfl⟩) fun h' hb'=>hk h' hb'
theorem Blv{h:H}{n:Nat}{k:KV}(hn1:1≤n)(hn:n≤1099511627776)(hk:∀h',Bld true h' h.next []→k (.tuple []) h'):W1 (.func 208) [.ptr h.next 0,.int .i64 (Int.ofNat n)] (h.new Wr) k:=by
 refine A9v (n:=2) Bl (Bj0 ?_)
 unfold Adv
 refine A0n (t:=Ai [.Fq,.Ad] 0 .e) (Ay _ _) (.inl (by kernel_rfl)) fun h1 t1 a1 p1 q1 n1 f1=>?_
 have q1:Bh t1 1=.Ad:=q1
 refine Bo (by rw[Fl];exact decide_eq_false (by show¬((n:Int)<((0:Nat):Int));omega)) ?_
 refine A4s ?_
 unfold Adu
 rw[Bj,Ae,Ev]
 refine Cz a1 (by decide) ?_
 rw[q1,A1v,show(Alx AV.Ad h1:Option (AV×H))=some (.int .i64 (Int.ofNat 0),h1) from rfl,Ae,Au,Bj,Ae,Ev]
 refine Cz a1 (by decide) ?_
 rw[q1,Qz,show wrap .i64 (Jj (Int.ofNat 0) (Int.ofNat 0))=Int.ofNat 0 by kernel_rfl,As]
 refine Cj (by rw[Fl];exact decide_eq_true (by show((0:Nat):Int)<(n:Int);omega)) ?_
 exact Bls a1 (by rw[n1,Be];omega) p1 q1 hn fun h' hb'=>hk h' hb'
def isU(x:UInt8):Bool:=decide (65≤x.toNat)&&decide (x.toNat≤90)
def Apy(x:UInt8):UInt8:=if isU x then x+32 else x
def Ld(s:List UInt8):List UInt8:=s.map Apy
theorem Aif{s:List UInt8}(h:s.any isU=false):Ld s=s:=by
 unfold Ld
 rw[List.any_eq_false] at h
 conv=>rhs;rw[←List.map_id s]
 apply List.map_congr_left
 intro x hx
 have:=h x hx
 unfold Apy
 rw[if_neg this];rfl
theorem Aak{i:Nat}(h:i<9223372036854775807):wrap .i64 (Bn (Int.ofNat i) (Int.ofNat 1))=Int.ofNat (i+1):=by
 rw[Hj,show Int.ofNat i+Int.ofNat 1=Int.ofNat (i+1) from rfl]
 exact Cg (by omega)
theorem upK{x:UInt8}{h:H}{k:Bool→H→Prop}(hk:k (isU x) h):An (fun k6=>gate true (Ex (Int.ofNat 65) (Int.ofNat x.toNat)) (k6 (Ex (Int.ofNat x.toNat) (Int.ofNat 90)) h) (k6 false h)) k:=by
 refine Sk ?_
 have:(Ex (Int.ofNat 65) (Int.ofNat x.toNat)&&Ex (Int.ofNat x.toNat) (Int.ofNat 90))=isU x:=by
  rw[Je,Je];unfold isU
  congr 1<;>(rw[Bool.eq_iff_iff,decide_eq_true_eq,decide_eq_true_eq];exact Int.ofNat_le)
 rw[this];exact hk
def ascii(s:List UInt8):Prop:=∀x∈s,x.toNat<128
theorem Av6{s:List UInt8}{k:KV}{e:Nat}(hs:ascii s)(hl:s.length≤1099511627776):∀(n i:Nat)(u:Bool),s.length-i+e+1≤n→i≤s.length→(∀n',e≤n'→(Ng W1 k n').a5 s.length (enc s) true (u||(s.drop i).any isU) h0)→(Ng W1 k n).a1 s.length (enc s) true u (Int.ofNat i) h0
 |0,_,_,hn,_,_=>absurd hn (by omega)
 |n+1,i,u,hn,hi,hk=>by
  refine A43 ?_
  unfold Aeg
  rw[Fl]
  refine Az (fun e'=>?_) (fun e'=>?_)
  · have e':i<s.length:=Int.ofNat_lt.1 (of_decide_eq_true e')
    rw[Ap]
    refine Cn e' ?_
    have hx:(s[i]).toNat<128:=hs _ (List.getElem_mem e')
    refine Bo (by rw[Je];exact decide_eq_false fun h=>by have:=Int.ofNat_le.1 h;omega) ?_
    have hd:s.drop i=s[i]::s.drop (i+1):=List.drop_eq_getElem_cons e'
    refine Rt (b:=isU s[i]) (fun k' hk'=>upK hk') ?_
    rw[Aak (by omega),As]
    refine Av6 (e:=e) hs hl n (i+1) _ (by omega) e' ?_
    intro n' hn'
    have:=hk n' hn'
    rw[hd,List.any_cons,←Bool.or_assoc] at this
    exact this
  · have e':¬i<s.length:=fun h=>(of_decide_eq_false e') (Int.ofNat_lt.2 h)
    have hd:s.drop i=[]:=by rw[List.drop_eq_nil_iff];omega
    have:=hk n (by omega)
    rw[hd] at this
    simpa using this
theorem A2r{x:UInt8}(h:isU x=true):wrap .u8 (Bn (Int.ofNat x.toNat) (Int.ofNat 32))=Int.ofNat (Apy x).toNat:=by
 unfold Apy
 rw[if_pos h]
 have hx:x.toNat≤90:=by unfold isU at h;simp at h;exact h.2
 have:(x+32).toNat=x.toNat+32:=by
  rw[UInt8.toNat_add];show(x.toNat+32)%256=_;omega
 rw[this,Hj,Fy]
 show IntKind.wrap .u8 ((x.toNat+32:Nat):Int)=((x.toNat+32:Nat):Int)
 simp[IntKind.wrap,IntKind.bits,IntKind.signed]
 omega
theorem Aie{s:List UInt8}{p i:Nat}(hp:p≤i)(h:((s.drop p).take (i-p)).any isU=false):Ld (s.take i)=Ld (s.take p)++(s.drop p).take (i-p):=by
 have e:s.take i=s.take p++(s.drop p).take (i-p):=by
  have:=List.take_add (l:=s) (i:=p) (j:=i-p)
  rw[show p+(i-p)=i by omega] at this;exact this
 rw[e]
 unfold Ld
 rw[List.map_append]
 congr 1
 exact Aif h
theorem Al0{s:List UInt8}{k:KV}{b:P}(hl:s.length≤1099511627776)(hne:s≠[])(hk:∀h,k (S (Ld s)) h):∀(n i p:Nat)(g:Bool)(h:H),3*(s.length-i)+1≤n→i≤s.length→p≤i→((s.drop p).take (i-p)).any isU=false→Bld g h b (Ld (s.take p))→(Ng W1 k n).a2 s.length (enc s) (.ptr b 0) (Int.ofNat p) (Int.ofNat i) h
 |0,_,_,_,_,hn,_,_,_,_=>absurd hn (by omega)
 |n+1,i,p,g,h,hn,hi,hp,ha,hb=>by
  refine A42 ?_
  unfold Aef
  rw[Fl]
  refine Az (fun e'=>?_) (fun e'=>?_)
  · have e':i<s.length:=Int.ofNat_lt.1 (of_decide_eq_true e')
    have htk:s.take (i+1)=s.take i++[s[i]]:=by rw[List.take_add_one,List.getElem?_eq_getElem e'];rfl
    rw[Ap]
    refine Cn e' ?_
    refine upK ?_
    refine Az (fun eu=>?_) (fun eu=>?_)
    · rw[A2r eu,As]
      have step:∀g' h',Bld g' h' b (Ld (s.take i))→(Ng W1 k n).a3 s.length (enc s) (.ptr b 0) (Int.ofNat i) (Int.ofNat (Apy s[i]).toNat) h':=by
       intro g' h' hb'
       obtain⟨m,rfl⟩:∃m,n=m+2:=⟨n-2,by omega⟩
       refine A41 ?_
       unfold Aee
       refine Awa hb' (by unfold Ld;rw[List.length_map,List.length_take];omega) fun h2 hb2=>?_
       rw[Aak (by omega),As]
       refine At0 ?_
       unfold Za
       rw[Aak (by omega),As]
       refine Al0 hl hne hk m (i+1) (i+1) false h2 (by omega) e' (Nat.le_refl _) (by simp) ?_
       rw[htk];unfold Ld at hb2 ⊢;rw[List.map_append];exact hb2
      rw[Fl]
      refine Az (fun e2=>?_) (fun e2=>?_)
      · have e2:p<i:=Int.ofNat_lt.1 (of_decide_eq_true e2)
        rw[Ap,Ap]
        refine Wj hp (by omega) ?_
        refine c61 hb (fun h=>?_) ?_ fun v h' hb'=>?_
        · have:=congrArg List.length h
          simp at this;omega
        · unfold Ld;rw[List.length_map,List.length_take,List.length_take,List.length_drop];omega
        · refine step false h' ?_
          rw[Aie hp ha];exact hb'
      · have e2:p=i:=by
         have:¬p<i:=fun h=>(of_decide_eq_false e2) (Int.ofNat_lt.2 h)
         omega
        subst e2
        exact step g h hb
    · obtain⟨m,rfl⟩:∃m,n=m+1:=⟨n-1,by omega⟩
      refine At0 ?_
      unfold Za
      rw[Aak (by omega),As]
      refine Al0 hl hne hk m (i+1) p g h (by omega) e' (by omega) ?_ hb
      have e3:(s.drop p).take (i+1-p)=(s.drop p).take (i-p)++[s[i]]:=by
       rw[show i+1-p=(i-p)+1 by omega,List.take_add_one,List.getElem?_drop,show p+(i-p)=i by omega,List.getElem?_eq_getElem e'];rfl
      rw[e3,List.any_append,ha];simp[eu]
  · have e':i=s.length:=by
     have:¬i<s.length:=fun h=>(of_decide_eq_false e') (Int.ofNat_lt.2 h)
     omega
    subst e'
    have hlow:Ld s=Ld (s.take p)++(s.drop p).take (s.length-p):=by
     have:=Aie hp ha
     rw[List.take_length] at this;exact this
    have hlne:Ld s≠[]:=by unfold Ld;simpa using hne
    have hll:(Ld s).length≤9223372036854775807:=by unfold Ld;rw[List.length_map];omega
    rw[Fl]
    refine Az (fun e2=>?_) (fun e2=>?_)
    · have e2:p<s.length:=Int.ofNat_lt.1 (of_decide_eq_true e2)
      rw[Ap]
      refine Wj hp (Nat.le_refl _) ?_
      refine c61 hb (fun h=>?_) ?_ fun v h' hb'=>?_
      · have:=congrArg List.length h
        simp at this;omega
      · unfold Ld;rw[List.length_map,List.length_take,List.length_take,List.length_drop];omega
      · rw[←hlow] at hb'
        refine c63 hb' (.inr hlne) hll fun h2=>?_
        rw[Cl];exact hk h2
    · have e2:p=s.length:=by
       have:¬p<s.length:=fun h=>(of_decide_eq_false e2) (Int.ofNat_lt.2 h)
       omega
      subst e2
      rw[List.take_length] at hb
      refine c63 hb (.inr hlne) hll fun h2=>?_
      rw[Cl];exact hk h2
theorem Bl5(s:List UInt8)(hs:ascii s)(hl:s.length≤1099511627776):Pure PP G h0 161 [S s] (S (Ld s)):=by
 refine A96 (n:=4*s.length+10) Bl (Bkb ?_)
 unfold Aeh
 refine Av6 (e:=3*s.length+2) hs hl _ 0 false (by omega) (Nat.zero_le _) ?_
 intro n' hn'
 rw[List.drop_zero,Bool.false_or]
 obtain⟨m,rfl⟩:∃m,n'=m+1:=⟨n'-1,by omega⟩
 refine A40 ?_
 unfold Aed
 refine Cj rfl ?_
 refine Az (fun e=>?_) (fun e=>?_)
 · rw[Br] at e
   have e:s.any isU=false:=by simpa using e
   rw[Aif e]
 · rw[Br] at e
   have e:s.any isU=true:=by simpa using e
   have hne:s≠[]:=fun h=>by subst h;cases e
   have hpos:1≤s.length:=by
    cases s with
    |nil=>exact absurd rfl hne
    |cons _ _=>simp
   refine Ek ?_
   refine Blv hpos hl fun h' hb'=>?_
   refine Al0 hl hne (fun _=>rfl) m 0 0 true h' (by omega) (Nat.zero_le _) (Nat.le_refl _) (by simp) ?_
   exact hb'
theorem Bl4(L:List UInt8)(x:UInt8)(hx:x.toNat<128):Pure PP G h0 162 [S L,.int .i32 (Int.ofNat x.toNat)] (.int .i64 (Xk L x)):=by
 refine A95 (n:=1) Bl (Bka ?_)
 unfold Aec
 refine Sk ?_
 have e1:(Ex (Int.ofNat 0) (Int.ofNat x.toNat)&&Cs (Int.ofNat x.toNat) (Int.ofNat 128))=true:=by
  rw[ile,ilt,decide_eq_true (Nat.zero_le _),decide_eq_true hx];rfl
 refine Cj e1 ?_
 have e2:wrap .u8 (Int.ofNat x.toNat)=Int.ofNat x.toNat:=by
  rw[Fy]
  simp[IntKind.wrap,IntKind.bits,IntKind.signed]
  omega
 rw[e2,As]
 refine Dz (A8r L x) ?_
 rw[Au]
def Apx:List UInt8:=[48,49,50,51,52,53,54,55,56,57,97,98,99,100,101,102]
def Ali(c:UInt8):Nat:=if c.toNat≤57 then c.toNat-48 else c.toNat-87
theorem Az1:∀x∈Apx,Xk Gg x=Int.ofNat (Ali x):=by
 intro x hx
 simp only[Apx,List.mem_cons,List.not_mem_nil,or_false] at hx
 rcases hx with rfl|rfl|rfl|rfl|rfl|rfl|rfl|rfl|rfl|rfl|rfl|rfl|rfl|rfl|rfl|rfl<;>kernel_rfl
theorem A8f:∀x∈Apx,Ali x≤15:=by decide
theorem Ay9:∀x∈Gg,Apy x∈Apx:=by decide
theorem Atm:∀x∈Apx,x.toNat<128:=by decide
theorem Azn:∀x∈Gg,x.toNat<128:=by decide
theorem Ayz:∀x∈Zs,x∈Gg:=by decide
def Bax(B v:Nat)(ds:List UInt8):Nat:=ds.foldl (fun v c=>(v*B+Ali c)&&&4095) v
def Qh:List UInt8:=[39,34,63,92,97,98,102,110,114,116,118]
def Alg:List UInt8:=[39,34,63,92,7,8,12,10,13,9,11]
def Tq(x:UInt8):Option UInt8:=
 if x=39 then some 39 else if x=34 then some 34 else if x=63 then some 63 else if x=92 then some 92 else if x=97 then some 7 else if x=98 then some 8
 else if x=102 then some 12 else if x=110 then some 10 else if x=114 then some 13 else if x=116 then some 9 else if x=118 then some 11 else none
theorem Ax8:∀x∈Qh,∃i y,Xk Qh x=Int.ofNat i∧Tq x=some y∧∃h:i<Alg.length,Alg[i]=y:=by
 intro x hx
 simp only[Qh,List.mem_cons,List.not_mem_nil,or_false] at hx
 rcases hx with rfl|rfl|rfl|rfl|rfl|rfl|rfl|rfl|rfl|rfl|rfl
 · exact⟨0,_,by kernel_rfl,rfl,by decide,rfl⟩
 · exact⟨1,_,by kernel_rfl,rfl,by decide,rfl⟩
 · exact⟨2,_,by kernel_rfl,rfl,by decide,rfl⟩
 · exact⟨3,_,by kernel_rfl,rfl,by decide,rfl⟩
 · exact⟨4,_,by kernel_rfl,rfl,by decide,rfl⟩
 · exact⟨5,_,by kernel_rfl,rfl,by decide,rfl⟩
 · exact⟨6,_,by kernel_rfl,rfl,by decide,rfl⟩
 · exact⟨7,_,by kernel_rfl,rfl,by decide,rfl⟩
 · exact⟨8,_,by kernel_rfl,rfl,by decide,rfl⟩
 · exact⟨9,_,by kernel_rfl,rfl,by decide,rfl⟩
 · exact⟨10,_,by kernel_rfl,rfl,by decide,rfl⟩
theorem Ark{x:UInt8}(h:x∉Qh):Tq x=none:=by
 simp[Qh] at h
 obtain⟨h1,h2,h3,h4,h5,h6,h7,h8,h9,h10,h11⟩:=h
 unfold Tq
 rw[if_neg h1,if_neg h2,if_neg h3,if_neg h4,if_neg h5,if_neg h6,if_neg h7,if_neg h8,if_neg h9,if_neg h10,if_neg h11]
def Zt(s:List UInt8)(n f B:Nat):UInt8×Nat:=if n≤f then(0,0) else(UInt8.ofNat (Bax B 0 (Ld ((s.drop f).take (n-f)))),n)
def Ey(s:List UInt8):UInt8×Nat:=match s with
 |[]=>(0,0)
 |c::r=>match Tq c with
  |some y=>(y,1)
  |none=>if c=120 then Zt (c::r) (1+Cm r Gg) 1 16 else Zt (c::r) (min (Cm (c::r) Zs) 3) 0 8
theorem A4n{a b:Nat}{K:Int→Prop}(ha:a≤9223372036854775807)(hb:b≤9223372036854775807)(hk:K (Int.ofNat (a&&&b))):Aby Nat.land .i64 (Int.ofNat a) (Int.ofNat b) K:=by
 show(Bool.rec False (fN (Nat.land a b) (fun n=>K (.ofNat n))) (Ah (Nat.ble a (intMax .i64)) (Nat.ble b (intMax .i64))):Prop)
 rw[Nat.ble_eq_true_of_le (show a≤intMax .i64 from ha),Nat.ble_eq_true_of_le (show b≤intMax .i64 from hb)]
 exact hk
theorem A4b{h:H}{p:P}{s:List UInt8}{i:Nat}(ha:h.at p=.iter s.length (enc s) i):Sy (.ptr p 0) true h=Nl p s.length (enc s) i h:=by
 unfold Sy
 simp only[ha]
 rfl
theorem Bi4(l c:Nat)(h:H):Nz env 9 (.str l c) h=some (.ptr h.next 0,h.new (.iter l c 0)):=by kernel_rfl
theorem wrap_u8(n:Nat):wrap .u8 (Int.ofNat n)=Int.ofNat (UInt8.ofNat n).toNat:=by
 rw[Fy]
 have:(UInt8.ofNat n).toNat=n%256:=by simp
 rw[this]
 simp[IntKind.wrap,IntKind.bits,IntKind.signed]
theorem Av9 {ds : List UInt8} {B n5 : Nat} {p : P} {k : KV} (hds : ∀ x ∈ ds, x ∈ Apx) (hB : B ≤ 16) : ∀ (n i v : Nat) (h : H), ds.length - i < n → i ≤ ds.length → v ≤ 4095 → h.at p = .iter ds.length (enc ds) i →
    (∀ h', k (.tuple [ub (UInt8.ofNat (Bax B v (ds.drop i))), .int .i64 (Int.ofNat n5)]) h') → (Zm W1 k n).a1 (Int.ofNat n5) (Int.ofNat B) (Int.ofNat v) (.ptr p 0) h
  | 0, _, _, _, hn, _, _, _, _ => absurd hn (Nat.not_lt_zero _)
  | n + 1, i, v, h, hn, hi, hv, ha, hk => by
    refine A5d ?_
    unfold Afe
    rw [A4b ha]
    by_cases e : i < ds.length
    · have hd : ds.drop i = ds[i] :: ds.drop (i + 1) := List.drop_eq_getElem_cons e
      have hx := hds _ (List.getElem_mem e)
      have hx1 := Atm _ hx
      have e1 : Nl p ds.length (enc ds) i h = some (.tuple [.bool true, .int .i64 (.ofNat i), .int .i32 (.ofNat (ds[i]).toNat)], h.put p (.iter ds.length (enc ds) (Nat.add i 1))) := by
        unfold Nl
        rw [Nat.ble_eq_true_of_le (show Nat.add i 1 ≤ ds.length from e), Aoo e]
        have : Nat.ble 128 (ds[i]).toNat = false := by
          cases hb : Nat.ble 128 (ds[i]).toNat with
          | false => rfl
          | true => exact absurd (Nat.le_of_ble_eq_true hb) (by omega)
        rw [this]
      rw [e1, Ae, Ep, Ce]
      refine Cj rfl ?_
      rw [A1m, Au]
      have hdl := A8f _ hx
      have hm : v * B ≤ 4095 * 16 := Nat.mul_le_mul hv hB
      have w1 : wrap .i64 (Int.ofNat v * Int.ofNat B) = Int.ofNat (v * B) := by
        rw [show Int.ofNat v * Int.ofNat B = Int.ofNat (v * B) from rfl]; exact Cg (by omega)
      rw [w1, As]
      refine Dz (Bl4 Gg ds[i] hx1) ?_
      rw [Au, Az1 _ hx]
      have w2 : wrap .i64 (Bn (Int.ofNat (v * B)) (Int.ofNat (Ali ds[i]))) = Int.ofNat (v * B + Ali ds[i]) := by
        rw [Hj, show Int.ofNat (v * B) + Int.ofNat (Ali ds[i]) = Int.ofNat (v * B + Ali ds[i]) from rfl]; exact Cg (by omega)
      rw [w2, As]
      refine A4n (by omega) (by omega) ?_
      refine Av9 hds hB n (i + 1) _ _ (by omega) e Nat.and_le_right (Bk _ _ _) ?_
      rw [hd] at hk
      exact hk
    · have hd : ds.drop i = [] := by rw [List.drop_eq_nil_iff]; omega
      have e1 : Nl p ds.length (enc ds) i h = some (.tuple [.bool false], h) := by
        unfold Nl
        have : Nat.ble (Nat.add i 1) ds.length = false := by
          cases hb : Nat.ble (Nat.add i 1) ds.length with
          | false => rfl
          | true => exact absurd (Nat.le_of_ble_eq_true hb) (by show ¬ i + 1 ≤ _; omega)
        rw [this]
      rw [e1, Ae, Ep, Ce]
      refine Bo rfl ?_
      rw [wrap_u8, As]
      rw [hd] at hk
      exact hk h
theorem Av8{s:List UInt8}{n f B m:Nat}{k:KV}(hl:s.length≤1099511627776)(hn:n≤s.length)(hd:∀x∈(s.drop f).take (n-f),x∈Gg)(hB:B≤16)(hm:s.length+2≤m)
 (hk:∀h',k (.tuple [ub (Zt s n f B).1,.int .i64 (Int.ofNat (Zt s n f B).2)]) h'):(Zm W1 k (m+1)).a2 s.length (enc s) (Int.ofNat n) (Int.ofNat B) (Int.ofNat f) h0:=by
 refine A5c ?_
 unfold Afd
 rw[Je]
 unfold Zt at hk
 refine Az (fun e=>?_) (fun e=>?_)
 · have e:n≤f:=Int.ofNat_le.1 (of_decide_eq_true e)
   rw[if_pos e] at hk;exact hk _
 · have e:¬n≤f:=fun h=>(of_decide_eq_false e) (Int.ofNat_le.2 h)
   rw[if_neg e] at hk
   rw[Ap,Ap]
   refine Wj (by omega) hn ?_
   have ll:((s.drop f).take (n-f)).length≤s.length:=by rw[List.length_take,List.length_drop];omega
   refine Dz (Bl5 _ (fun x hx=>Azn x (hd x hx)) (by omega)) ?_
   rw[Cl,Bi4,Ae]
   have l2:(Ld ((s.drop f).take (n-f))).length≤s.length:=by unfold Ld;rw[List.length_map];exact ll
   refine Av9 (fun x hx=>?_) hB _ 0 0 _ (by omega) (Nat.zero_le _) (Nat.zero_le _) (Ay _ _) ?_
   · obtain⟨y,hy,rfl⟩:=List.mem_map.1 hx
     exact Ay9 y (hd y hy)
   · rw[List.drop_zero];exact hk
theorem Arc(s set:List UInt8):s.take (Cm s set)=s.takeWhile (·∈set):=(List.prefix_iff_eq_take.1 (List.takeWhile_prefix _)).symm
theorem Afh{s set:List UInt8}{x:UInt8}{n:Nat}(hn:n≤Cm s set)(hx:x∈s.take n):x∈set:=by
 have h1:x∈s.take (Cm s set):=List.take_subset_take_left _ hn hx
 rw[Arc] at h1
 have:=List.all_eq_true.1 List.all_takeWhile x h1
 simpa using this
theorem Bje(n:Nat)(h:H):Aq env .min [3,3] [.int .i64 (Int.ofNat n),.int .i64 (Int.ofNat 3)] h=some (.int .i64 (Int.ofNat (min n 3)),h):=by
 have e:Aq env .min [3,3] [.int .i64 (Int.ofNat n),.int .i64 (Int.ofNat 3)] h=some (.int .i64 (Bool.rec (Int.ofNat n) (Int.ofNat 3) (Cs (Int.ofNat 3) (Int.ofNat n))),h):=by kernel_rfl
 rw[e,ilt]
 by_cases hc:3<n
 · rw[decide_eq_true hc,Nat.min_eq_right (by omega)]
 · rw[decide_eq_false hc,Nat.min_eq_left (by omega)]
theorem Bgg(s:List UInt8)(hl:s.length≤1099511627776):Pure PP G h0 108 [S s] (.tuple [ub (Ey s).1,.int .i64 (Int.ofNat (Ey s).2)]):=by
 refine Bav (n:=s.length+10) Bl (Bk0 ?_)
 unfold Aff
 cases s with
 |nil=>exact Cj rfl rfl
 |cons c r=>
  refine Bo (Ks c r) ?_
  refine Cn (s:=c::r) (Nat.zero_lt_succ _) ?_
  refine Dz (A8r Qh c) ?_
  rw[Au,Je]
  by_cases hin:c∈Qh
  · obtain⟨i,y,e1,e2,e3,e4⟩:=Ax8 c hin
    have ee:Ey (c::r)=(y,1):=by show(match Tq c with|some y=>(y,1)|none=>_)=_;rw[e2]
    show cnd (decide (Int.ofNat 0≤Xk Qh c)) _ _
    rw[e1]
    refine Cj (decide_eq_true (Int.ofNat_le.2 (Nat.zero_le _))) ?_
    rw[Ap]
    refine Cn (s:=Alg) e3 ?_
    show AV.tuple [_,_]=AV.tuple [_,_]
    rw[ee,e4];rfl
  · have hneg:Xk Qh c<0:=(Zn Qh c).2 hin
    have es:=Ark hin
    refine Bo (decide_eq_false fun h=>by have:(0:Int)≤Xk Qh c:=h;omega) ?_
    refine Dz (Aqo As9 (by decide) (c::r) (by omega)) ?_
    rw[Au,Bje,Ae,Au]
    refine Cn (s:=c::r) (Nat.zero_lt_succ _) ?_
    rw[toNat_eq _ 120 (by decide)]
    have hlr:r.length≤1099511627776:=by simp at hl;omega
    refine Az (fun e=>?_) (fun e=>?_)
    · have e:c=120:=of_decide_eq_true e
      refine Ft (s:=c::r) (Nat.le_add_left 1 _) ?_
      refine Dz (Aqo Ak8 (by decide) r (by omega)) ?_
      have hr:=Lg r Gg
      have w1:wrap .i64 (Bn (Int.ofNat 1) (Int.ofNat (Cm r Gg)))=Int.ofNat (1+Cm r Gg):=by
       rw[Hj,show Int.ofNat 1+Int.ofNat (Cm r Gg)=Int.ofNat (1+Cm r Gg) from rfl];exact Cg (by omega)
      rw[Au,w1,As]
      refine Av8 (s:=c::r) (n:=1+Cm r Gg) (f:=1) (B:=16) hl (by simp;omega) (fun x hx=>?_) (Nat.le_refl _) (by omega) fun h'=>?_
      · rw[List.drop_succ_cons,List.drop_zero,show 1+Cm r Gg-1=Cm r Gg by omega] at hx
        exact Afh (Nat.le_refl _) hx
      · have ee:Ey (c::r)=Zt (c::r) (1+Cm r Gg) 1 16:=by
         show(match Tq c with|some y=>(y,1)|none=>_)=_
         rw[es];exact if_pos e
        rw[ee]
    · have e:¬c=120:=of_decide_eq_false e
      have hr:=Lg (c::r) Zs
      refine Av8 (s:=c::r) (n:=min (Cm (c::r) Zs) 3) (f:=0) (B:=8) hl (by omega) (fun x hx=>?_) (by decide) (by omega) fun h'=>?_
      · rw[List.drop_zero,Nat.sub_zero] at hx
        exact Ayz x (Afh (Nat.min_le_left _ _) hx)
      · have ee:Ey (c::r)=Zt (c::r) (min (Cm (c::r) Zs) 3) 0 8:=by
         show(match Tq c with|some y=>(y,1)|none=>_)=_
         rw[es];exact if_neg e
        rw[ee]
theorem Aov(s:List UInt8):(Ey s).2≤s.length:=by
 cases s with
 |nil=>exact Nat.le_refl _
 |cons c r=>
  show(match Tq c with|some y=>(y,1)|none=>if c=120 then Zt (c::r) (1+Cm r Gg) 1 16 else Zt (c::r) (min (Cm (c::r) Zs) 3) 0 8:UInt8×Nat).2≤_
  have key:∀n f B,n≤(c::r).length→(Zt (c::r) n f B).2≤(c::r).length:=by
   intro n f B hn
   unfold Zt
   split
   · exact Nat.zero_le _
   · exact hn
  cases Tq c with
  |some y=>exact Nat.le_add_left 1 _
  |none=>
   have h1:=Lg r Gg
   have h2:=Lg (c::r) Zs
   show(if c=120 then _ else _:UInt8×Nat).2≤_
   split
   · exact key _ _ _ (by simp;omega)
   · exact key _ _ _ (by omega)
def Nh:List UInt8→Bool
 |[]=>false
 |c::_=>decide (c=34)||decide (c=39)
def Ol:List (List UInt8):=[[],[76],[117],[85],[117,56]]
def Dg:List (List UInt8)→List UInt8→List UInt8×Bool
 |[],_=>([],false)
 |s::ss,text=>if(decide (text.take s.length=s)&&Nh (text.drop s.length)) then(s,true) else Dg ss text
def Bb(text:List UInt8):List UInt8×Bool:=Dg Ol text
def T5b:Tm:=Option.rec .e (fun t=>t) (Xd (Vw 1) 5 [(0,.str 0 0),(1,.str 1 76),(2,.str 1 117),(3,.str 1 85),(4,.str 2 14453)] (Ai (Ju [.str 0 0] 5) 0 .e))
theorem b5b(h:H):Ao env 44 (fun e ei=>Ak 5 [(0,(.str 0 0)),(1,(.str 1 76)),(2,(.str 1 117)),(3,(.str 1 85)),(4,(.str 2 14453))] h e ei)=some (.slice h.next 0 5 1 true,h.new (.row T5b 5 0 9 true)):=by kernel_rfl
theorem A33{h:H}{b:P}(ha:h.at b=.row T5b 5 0 9 true){r:Nat}(hr:r<5){K:Nat→Nat→Prop}(hk:∀t rest,Ol.drop r=t::rest→rest=Ol.drop (r+1)→K t.length (enc t)):Bz 1 r (.slice b 0 5 1 true) fun v=>ld1 v h fun v=>asS v K:=by
 have key:∀t,Ol.drop r=t::Ol.drop (r+1)→Bh T5b r=S t→Bz 1 r (.slice b 0 5 1 true) fun v=>ld1 v h fun v=>asS v K:=by
  intro t ht e
  have hb:Bz 1 r (.slice b 0 5 1 true) (fun v=>ld1 v h fun v=>asS v K)=ld1 (.ptr b r) h fun v=>asS v K:=by
   match r,hr with
   |0,_|1,_|2,_|3,_|4,_=>rfl
  rw[hb]
  refine Cz ha hr ?_
  rw[e]
  exact hk t _ ht rfl
 match r,hr with
 |0,_=>exact key [] rfl (by kernel_rfl)
 |1,_=>exact key [76] rfl (by kernel_rfl)
 |2,_=>exact key [117] rfl (by kernel_rfl)
 |3,_=>exact key [85] rfl (by kernel_rfl)
 |4,_=>exact key [117,56] rfl (by kernel_rfl)
theorem Bgd(s t:List UInt8):Pure PP G h0 163 [S s,S t] (if s.take t.length=t then .tuple [S (s.drop t.length),.bool true] else .tuple [S s,.bool false]):=by
 refine A94 (n:=1) Bl (Bj9 ?_)
 unfold Aeb
 refine Dz (Bgb s t) ?_
 rw[Ce,Br]
 refine Az (fun e=>?_) (fun e=>?_)
 · have e:¬s.take t.length=t:=by simpa using e
   rw[if_neg e]
 · have e:s.take t.length=t:=by simpa using e
   have:t.length≤s.length:=by have:=congrArg List.length e;simp at this;omega
   refine Ft this ?_
   rw[if_pos e]
theorem Bme(s t:List UInt8):Pure PP G h0 109 [S s,S t] (if s.take t.length=t then .tuple [S (s.drop t.length),.bool true] else .tuple [S s,.bool false]):=by
 refine Bau (n:=1) Bl (Bkz ?_)
 unfold Afc
 by_cases e:s.take t.length=t
 · have h1:=Bgd s t
   rw[if_pos e] at h1 ⊢
   refine Dz h1 ?_
   rw[Ep,Cl,Ez,Ce]
 · have h1:=Bgd s t
   rw[if_neg e] at h1 ⊢
   refine Dz h1 ?_
   rw[Ep,Cl,Ez,Ce]
theorem A11{s:List UInt8}{h:H}{b:P}(ha:h.at b=.row T5b 5 0 9 true){k:KV}:∀(n i:Nat),5-i<n→i≤5→k (.tuple [S (Dg (Ol.drop i) s).1,.bool (Dg (Ol.drop i) s).2]) h→(r60 W1 k n).a1 s.length (enc s) (.slice b 0 5 1 true) (Int.ofNat 5) (Int.ofNat i) h
 |0,_,hn,_,_=>absurd hn (Nat.not_lt_zero _)
 |n+1,i,hn,hi,hk=>by
  refine Bdr ?_
  unfold Am9
  rw[Fl]
  refine Az (fun e=>?_) (fun e=>?_)
  · have e:i<5:=Int.ofNat_lt.1 (of_decide_eq_true e)
    rw[Ap]
    refine A33 ha e fun t rest h1 h2=>?_
    rw[h1] at hk
    have rec_:(decide (s.take t.length=t)&&Nh (s.drop t.length))=false→fI (wrap .i64 (Bn (Int.ofNat i) (Int.ofNat 1))) fun n27=>(r60 W1 k n).a1 s.length (enc s) (.slice b 0 5 1 true) (Int.ofNat 5) n27 h:=by
     intro hc
     rw[Aak (by omega),As]
     refine A11 ha n (i+1) (by omega) e ?_
     rw[←h2]
     have:Dg (t::rest) s=Dg rest s:=if_neg (by rw[hc];simp)
     rw[this] at hk;exact hk
    refine Dz (Bme s t) ?_ rfl (by split<;>rfl)
    by_cases ht:s.take t.length=t
    · rw[if_pos ht,Ep,Cl,Ez,Ce]
      refine Sk ?_
      rw[Gj,Br]
      cases hr:s.drop t.length with
      |nil=>
       refine Gi (fun e=>?_) (fun _=>?_)
       · simp at e
       · exact Bo rfl (rec_ (by rw[hr];simp[Nh]))
      |cons c r=>
       refine Gi (fun _=>?_) (fun e=>?_)
       · refine Cn (s:=c::r) (Nat.zero_lt_succ _) ?_
         refine Rt (b:=decide (c=39)) (fun k' hk'=>?_) ?_
         · refine Cn (s:=c::r) (Nat.zero_lt_succ _) ?_
           rw[toNat_eq _ 39 (by decide)];exact hk'
         · rw[toNat_eq _ 34 (by decide)]
           refine Az (fun e=>?_) (fun e=>?_)
           · have:Dg (t::rest) s=(t,true):=if_pos (by rw[hr];rw[decide_eq_true ht];exact e)
             rw[this] at hk;exact hk
           · refine rec_ ?_
             rw[hr,decide_eq_true ht];exact e
       · simp at e
    · rw[if_neg ht,Ep,Cl,Ez,Ce]
      refine Gi (fun e=>by cases e) (fun _=>?_)
      refine Gi (fun e=>by cases e) (fun _=>?_)
      exact Bo rfl (rec_ (by rw[decide_eq_false ht];rfl))
  · have e:i=5:=by
     have:¬i<5:=fun h=>(of_decide_eq_false e) (Int.ofNat_lt.2 h)
     omega
    subst e
    exact hk
theorem c60(s:List UInt8):Pure PP G h0 60 [S s] (.tuple [S (Bb s).1,.bool (Bb s).2]):=by
 refine w60 (n:=10) Bl (g60 ?_)
 unfold Ana
 rw[b5b,Ae]
 show(r60 W1 _ 9).a1 s.length (enc s) (.slice h0.next 0 5 1 true) (Int.ofNat 5) (Int.ofNat 0) _
 exact A11 (Ay _ _) 9 0 (by decide) (by decide) rfl
def Gu(q:UInt8):Nat→List UInt8→Option (List UInt8)
 |0,_=>none
 |_+1,[]=>some []
 |n+1,c::r=>if c=q then none else if c=92 then(if(Ey r).2=0 then none else(Gu q n (r.drop (Ey r).2)).map ((Ey r).1::·)) else(Gu q n r).map (c::·)
theorem Ky{q:UInt8}:∀(n m:Nat)(s:List UInt8),s.length<n→s.length<m→Gu q n s=Gu q m s
 |0,_,_,h,_=>absurd h (Nat.not_lt_zero _)
 |_,0,_,_,h=>absurd h (Nat.not_lt_zero _)
 |n+1,m+1,[],_,_=>rfl
 |n+1,m+1,c::r,h1,h2=>by
  have h1:r.length<n:=Nat.lt_of_succ_lt_succ h1
  have h2:r.length<m:=Nat.lt_of_succ_lt_succ h2
  show(if c=q then none else if c=92 then(if(Ey r).2=0 then none else(Gu q n (r.drop (Ey r).2)).map ((Ey r).1::·)) else(Gu q n r).map (c::·))=(if c=q then none else if c=92 then(if(Ey r).2=0 then none else(Gu q m (r.drop (Ey r).2)).map ((Ey r).1::·)) else(Gu q m r).map (c::·))
  rw[Ky n m r h1 h2,Ky n m (r.drop (Ey r).2) (by rw[List.length_drop];omega) (by rw[List.length_drop];omega)]
def Aqp(o:Option (List UInt8)):AV:=match o with
 |some l=>.tuple [S l,.bool true]
 |none=>.tuple [S [],.bool false]
def Afj(t:List UInt8):Option (List UInt8):=match t with
 |[]=>none
 |q::r=>if r=[] then none else if r.getLast? =some q then Gu q (r.length+1) r.dropLast else none
def Le(s:List UInt8):Option (List UInt8):=if(Bb s).2=true then Afj (s.drop (Bb s).1.length) else none
theorem Py(s:List UInt8):∀ps,(Dg ps s).2=true→s.take (Dg ps s).1.length=(Dg ps s).1∧Nh (s.drop (Dg ps s).1.length)=true
 |[],h=>by cases h
 |p::ps,h=>by
  by_cases e:(decide (s.take p.length=p)&&Nh (s.drop p.length))=true
  · have e1:Dg (p::ps) s=(p,true):=if_pos e
    rw[e1]
    simpa using e
  · have e1:Dg (p::ps) s=Dg ps s:=if_neg e
    rw[e1] at h ⊢
    exact Py s ps h
theorem Wx(s:List UInt8):∀ps,(Dg ps s).2=false→(Dg ps s).1=[]
 |[],_=>rfl
 |p::ps,h=>by
  by_cases e:(decide (s.take p.length=p)&&Nh (s.drop p.length))=true
  · have e1:Dg (p::ps) s=(p,true):=if_pos e
    rw[e1] at h;cases h
  · have e1:Dg (p::ps) s=Dg ps s:=if_neg e
    rw[e1] at h ⊢
    exact Wx s ps h
theorem Ww(s:List UInt8):(Bb s).1.length≤s.length:=by
 cases h:(Bb s).2 with
 |true=>
  have:=congrArg List.length (Py s Ol h).1
  rw[List.length_take] at this
  show(Dg Ol s).1.length≤s.length
  omega
 |false=>
  have:(Bb s).1=[]:=Wx s Ol h
  rw[this];exact Nat.zero_le _
theorem A1j{n:Nat}(h1:1≤n)(h2:n≤9223372036854775807):wrap .i64 (Jj (Int.ofNat n) (Int.ofNat 1))=Int.ofNat (n-1):=by
 rw[Uj,show Int.ofNat n-Int.ofNat 1=Int.ofNat (n-1) by show(n:Int)-((1:Nat):Int)=((n-1:Nat):Int);omega]
 exact Cg (by omega)
theorem Ao1 {q : UInt8} {r : List UInt8} {b : P} {k : KV} : ∀ (n : Nat) (s acc : List UInt8) (h : H), s.length < n → s.length + acc.length ≤ 549755813888 → Bld false h b acc →
    (∀ h', k (Aqp ((Gu q n s).map (acc ++ ·))) h') → (r59 W1 k n).a1 (q :: r).length (enc (q :: r)) (.ptr b 0) s.length (enc s) h
  | 0, _, _, _, hn, _, _, _ => absurd hn (Nat.not_lt_zero _)
  | n + 1, [], acc, h, hn, hl, hb, hk => by
    refine A1h ?_
    unfold Ahk
    refine Cj rfl ?_
    refine c63 hb (.inl rfl) (by simp at hl; omega) fun h' => ?_
    rw [Cl]
    have := hk h'
    rw [show (Gu q (n + 1) []).map (acc ++ ·) = some acc by show some (acc ++ []) = _; rw [List.append_nil]] at this
    exact this
  | n + 1, c :: s, acc, h, hn, hl, hb, hk => by
    have hn : s.length < n := Nat.lt_of_succ_lt_succ hn
    have hl' : s.length + 1 + acc.length ≤ 549755813888 := hl
    refine A1h ?_
    unfold Ahk
    refine Bo (Ks c s) ?_
    refine Cn (s := c :: s) (Nat.zero_lt_succ _) ?_
    refine Cn (s := q :: r) (Nat.zero_lt_succ _) ?_
    rw [List.getElem_cons_zero, List.getElem_cons_zero, Oy]
    have eb : Gu q (n + 1) (c :: s) = if c = q then none else if c = 92 then (if (Ey s).2 = 0 then none else (Gu q n (s.drop (Ey s).2)).map ((Ey s).1 :: ·)) else (Gu q n s).map (c :: ·) := rfl
    rw [eb] at hk
    have mm : ∀ (x : UInt8) (o : Option (List UInt8)), (o.map (x :: ·)).map (acc ++ ·) = o.map ((acc ++ [x]) ++ ·) := by
      intro x o
      cases o with
      | none => rfl
      | some l => simp
    refine Az (fun e => ?_) (fun e => ?_)
    · have e : c = q := of_decide_eq_true e
      rw [if_pos e] at hk
      obtain ⟨n', rfl⟩ : ∃ n', n = n' + 1 := ⟨n - 1, by omega⟩
      refine A1g ?_
      unfold Ahj
      exact hk h
    · have e : ¬ c = q := of_decide_eq_false e
      rw [if_neg e] at hk
      refine Cn (s := c :: s) (Nat.zero_lt_succ _) ?_
      rw [List.getElem_cons_zero, toNat_eq _ 92 (by decide), Br]
      refine Az (fun e2 => ?_) (fun e2 => ?_)
      · have e2 : ¬ c = 92 := by simpa using e2
        rw [if_neg e2] at hk
        refine Cn (s := c :: s) (Nat.zero_lt_succ _) ?_
        refine Awa (x := c) hb (by omega) fun h' hb' => ?_
        refine Ft (s := c :: s) (Nat.le_add_left 1 _) ?_
        refine Ao1 n s (acc ++ [c]) h' hn (by rw [List.length_append, List.length_singleton]; omega) hb' ?_
        intro h2
        have := hk h2
        rw [mm] at this; exact this
      · have e2 : c = 92 := by simpa using e2
        rw [if_pos e2] at hk
        refine Ft (s := c :: s) (Nat.le_add_left 1 _) ?_
        refine Dz (Bgg s (by omega)) ?_
        have hle := Aov s
        rw [Ep]
        show asI .u8 (.int .u8 (Int.ofNat (Ey s).1.toNat)) _
        rw [Au, Ez, Au, ilt]
        refine Az (fun e3 => ?_) (fun e3 => ?_)
        · have e3 : 0 < (Ey s).2 := of_decide_eq_true e3
          rw [if_neg (by omega)] at hk
          refine Awa hb (by omega) fun h' hb' => ?_
          have w1 : wrap .i64 (Bn (Int.ofNat 1) (Int.ofNat (Ey s).2)) = Int.ofNat (1 + (Ey s).2) := by
            rw [Hj, show Int.ofNat 1 + Int.ofNat (Ey s).2 = Int.ofNat (1 + (Ey s).2) from rfl]; exact Cg (by omega)
          rw [w1, As, Ap]
          refine Ft (s := c :: s) (by simp; omega) ?_
          have hd : (c :: s).drop (1 + (Ey s).2) = s.drop (Ey s).2 := by rw [Nat.add_comm, List.drop_succ_cons]
          rw [hd]
          refine Ao1 n (s.drop (Ey s).2) (acc ++ [(Ey s).1]) h' (by rw [List.length_drop]; omega) (by rw [List.length_append, List.length_singleton, List.length_drop]; omega) hb' ?_
          intro h2
          have := hk h2
          rw [mm] at this; exact this
        · have e3 : ¬ 0 < (Ey s).2 := of_decide_eq_false e3
          rw [if_pos (by omega)] at hk
          exact hk h
theorem Aiv{q:UInt8}{r:List UInt8}(hr:r≠[])(h:(q::r).length-1<(q::r).length):r.getLast? =some ((q::r)[(q::r).length-1]):=by
 cases r with
 |nil=>exact absurd rfl hr
 |cons c r=>
  rw[List.getLast?_eq_getElem?]
  simp
theorem c59(s:List UInt8)(hl:s.length≤549755813888):Pure PP G h0 59 [S s] (Aqp (Le s)):=by
 refine w59 (n:=s.length+10) Bl (g59 ?_)
 unfold Ane
 refine Ek ?_
 refine Dz (c60 s) ?_
 rw[Ep,Cl,Ez,Ce]
 refine Ft (Ww s) ?_
 have hlt:(s.drop (Bb s).1.length).length≤s.length:=by rw[List.length_drop];omega
 have bad:∀h,Le s=none→(r59 W1 (fun v _=>v=Aqp (Le s)) (s.length+9)).a2 h:=by
  intro h e
  refine A1g ?_
  unfold Ahj
  show AV.tuple _=_
  rw[e];rfl
 refine Jx ?_
 rw[Br,ilt]
 refine Pq (fun e=>?_) (fun e=>?_)
 · rw[Bool.or_eq_false_iff] at e
   obtain⟨e1,e2⟩:=e
   have e1:(Bb s).2=true:=by simpa using e1
   have e2:¬(s.drop (Bb s).1.length).length<2:=of_decide_eq_false e2
   have eb:Le s=Afj (s.drop (Bb s).1.length):=if_pos e1
   revert hlt e2 eb
   generalize s.drop (Bb s).1.length=t
   intro hlt e2 eb
   match t,hlt,e2,eb with
   |[],_,e2,_=>exact absurd (by decide) e2
   |[_],_,e2,_=>exact absurd (show 1<2 by decide) e2
   |q::c::r,hlt,_,eb=>
    have hne:(c::r)≠[]:=by simp
    have h1:1≤(q::c::r).length:=Nat.le_add_left 1 _
    have h2:(q::c::r).length-1<(q::c::r).length:=by omega
    rw[A1j h1 (by omega),As,Ap]
    refine Cn h2 ?_
    refine Cn (s:=q::c::r) (Nat.zero_lt_succ _) ?_
    rw[List.getElem_cons_zero,Oy,Br]
    have hlast:=Aiv hne h2
    have eb:Le s=if(c::r)=[] then none else if(c::r).getLast? =some q then Gu q ((c::r).length+1) (c::r).dropLast else none:=eb
    rw[if_neg hne,hlast] at eb
    refine Az (fun e=>?_) (fun e=>?_)
    · have e:¬(q::c::r)[(q::c::r).length-1]=q:=by simpa using e
      rw[if_neg (fun h=>e (Option.some.inj h))] at eb
      exact bad _ eb
    · have e:(q::c::r)[(q::c::r).length-1]=q:=by simpa using e
      rw[if_pos (congrArg some e)] at eb
      rw[As,Ap]
      refine Wj (lo:=1) (hi:=(q::c::r).length-1) (by simp) (by omega) ?_
      have hcut:((q::c::r).drop 1).take ((q::c::r).length-1-1)=(c::r).dropLast:=by
       rw[List.drop_succ_cons,List.drop_zero,List.dropLast_eq_take];rfl
      rw[hcut]
      have hbl:(c::r).dropLast.length≤s.length:=by
       rw[List.length_dropLast]
       have:(q::c::r).length=(c::r).length+1:=rfl
       omega
      have hbn:(c::r).dropLast.length<(c::r).length+1:=by rw[List.length_dropLast];omega
      revert eb hbl hbn
      generalize (c::r).length+1=N
      generalize (c::r).dropLast=bd
      intro eb hbl hbn
      have hB:=Bld.new h0
      cases bd with
      |nil=>
       refine Cj rfl ?_
       refine c63 hB (.inl rfl) (Nat.zero_le _) fun h'=>?_
       rw[Cl]
       show AV.tuple _=_
       rw[eb,Ky N 1 [] hbn (by decide)];rfl
      |cons d u=>
       obtain⟨N,rfl⟩:∃N',N=N'+1:=⟨N-1,by omega⟩
       have hlen:(d::u).length=u.length+1:=rfl
       refine Bo (Ks d u) ?_
       refine Cn (s:=d::u) (Nat.zero_lt_succ _) ?_
       refine Cn (s:=q::c::r) (Nat.zero_lt_succ _) ?_
       rw[List.getElem_cons_zero,List.getElem_cons_zero,Oy]
       have eb:Le s=if d=q then none else if d=92 then(if(Ey u).2=0 then none else(Gu q N (u.drop (Ey u).2)).map ((Ey u).1::·)) else(Gu q N u).map (d::·):=eb
       refine Az (fun e=>?_) (fun e=>?_)
       · have e:d=q:=of_decide_eq_true e
         rw[if_pos e] at eb
         exact bad _ eb
       · have e:¬d=q:=of_decide_eq_false e
         rw[if_neg e] at eb
         refine Cn (s:=d::u) (Nat.zero_lt_succ _) ?_
         rw[List.getElem_cons_zero,toNat_eq _ 92 (by decide),Br]
         refine Az (fun e2=>?_) (fun e2=>?_)
         · have e2:¬d=92:=by simpa using e2
           rw[if_neg e2] at eb
           refine Cn (s:=d::u) (Nat.zero_lt_succ _) ?_
           refine Awa (x:=d) hB (by decide) fun h' hb'=>?_
           refine Ft (s:=d::u) (Nat.le_add_left 1 _) ?_
           refine Ao1 (s.length+9) u ([]++[d]) h' (by omega) (by simp;omega) hb' ?_
           intro h2
           rw[eb,Ky N (s.length+9) u (by omega) (by omega)];rfl
         · have e2:d=92:=by simpa using e2
           rw[if_pos e2] at eb
           refine Ft (s:=d::u) (Nat.le_add_left 1 _) ?_
           refine Dz (Bgg u (by omega)) ?_
           have hle:=Aov u
           rw[Ep]
           show asI .u8 (.int .u8 (Int.ofNat (Ey u).1.toNat)) _
           rw[Au,Ez,Au]
           refine Bds ?_
           unfold Anb
           rw[ilt]
           refine Az (fun e3=>?_) (fun e3=>?_)
           · have e3:0<(Ey u).2:=of_decide_eq_true e3
             rw[if_neg (by omega)] at eb
             refine Awa hB (by decide) fun h' hb'=>?_
             have w1:wrap .i64 (Bn (Int.ofNat 1) (Int.ofNat (Ey u).2))=Int.ofNat (1+(Ey u).2):=by
              rw[Hj,show Int.ofNat 1+Int.ofNat (Ey u).2=Int.ofNat (1+(Ey u).2) from rfl];exact Cg (by omega)
             rw[w1,As,Ap]
             refine Ft (s:=d::u) (by simp;omega) ?_
             have hd:(d::u).drop (1+(Ey u).2)=u.drop (Ey u).2:=by rw[Nat.add_comm,List.drop_succ_cons]
             rw[hd]
             refine Ao1 (s.length+8) (u.drop (Ey u).2) ([]++[(Ey u).1]) h' (by rw[List.length_drop];omega) (by rw[List.length_drop];simp;omega) hb' ?_
             intro h2
             rw[eb,Ky N (s.length+8) (u.drop (Ey u).2) (by rw[List.length_drop];omega) (by rw[List.length_drop];omega)];rfl
           · have e3:¬0<(Ey u).2:=of_decide_eq_false e3
             rw[if_pos (by omega)] at eb
             show AV.tuple _=_
             rw[eb];rfl
 · refine Cj rfl ?_
   refine bad _ ?_
   rw[Bool.or_eq_true] at e
   rcases e with e|e
   · have e:¬(Bb s).2=true:=by simpa using e
     exact if_neg e
   · have e:(s.drop (Bb s).1.length).length<2:=of_decide_eq_true e
     unfold Le
     by_cases h:(Bb s).2=true
     · rw[if_pos h]
       revert e
       generalize s.drop (Bb s).1.length=t
       intro e
       match t,e with
       |[],_=>rfl
       |[_],_=>rfl
       |_::_::_,e=>exact absurd e (by simp)
     · exact if_neg h
end Go.Den
