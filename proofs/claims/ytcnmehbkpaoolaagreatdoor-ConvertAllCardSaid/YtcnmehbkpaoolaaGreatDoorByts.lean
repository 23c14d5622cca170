/-
 Proof.
-/
import Derived.Test.YtcnmehbkpaoolaaGreatDoorLex7
import Derived.Lib.MakeNoZero
noncomputable section
namespace Go.Den
open Go.RowKit
set_option maxRecDepth 100000
theorem Bks{n:Nat}(hn:n≤1099511627776){h:H}{k:KV}(hk:k (.slice h.next 0 n 1 false) (h.new (.row .e 0 0 TB false))):W1 (.func 290) [.int .i64 (Int.ofNat n)] h k:=by
 intro μ w fn' vargs s gl hfn hv
 have hfn':fn'=.func 290:=by cases fn'<;>simp only[FnR] at hfn<;>first|(cases hfn;rfl)|cases hfn
 obtain⟨v,vs,e,h1,h2⟩:=hv
 have h2:vs=[]:=h2
 have h1:v=.int .i64 (Int.ofNat n):=h1
 subst h2 h1
 have hva:vargs=#[.int .i64 (Int.ofNat n)]:=by apply Array.ext';simpa using e
 subst hva
 obtain⟨cs,hr,hle,_⟩:=Lib.run_makeNoZero (P:=PP) w #[3] 115 TB Proofs.Tryz.underlying115 n (by omega)
 have hrun:(callFunc 290 #[.int .i64 (Int.ofNat n)]).run PP w=.ok (.value (.slice (some ⟨w.heap.size,0,none⟩) n cs.size)) (w.drew.drew.alloc (.cells cs TB)):=by
  rw[run_callFunc_extern (e:=Extern.BytealgMakeNoZero.makeNoZero #[3] #[115]) Proofs.Tryz.func290 (by kernel_rfl) (by kernel_rfl) (by kernel_rfl) (by kernel_rfl)]
  rw[show(Extern.BytealgMakeNoZero.makeNoZero #[3] #[115] #[.int .i64 (Int.ofNat n)]).run PP w=_ from hr]
  rfl
 obtain⟨s1,x1⟩:=Sim.alloc (s.heap (w':=w.drew.drew) rfl) (.row .e 0 0 TB false) (.cells cs TB) cs.size 0 (fun μ' _=>by
  refine⟨_,_,Fs w.drew.drew _,⟨rfl,by show 0+0≤cs.size;omega,fun j hj=>absurd hj (Nat.not_lt_zero _)⟩,(fun e=>nomatch e),fun _ i _ hi=>?_⟩
  intro hh
  omega)
 refine .inl ⟨290,hfn',.inl ⟨_,_,_,_,_,hrun,s1,(Cu.heap μ h (w:=w) (w':=w.drew.drew) rfl rfl rfl rfl).trans x1,?_,hk⟩⟩
 refine⟨_,_,rfl,hle,⟨(fun e=>nomatch e),_,Mu.Ch _ _ _⟩,.inr ⟨_,Mu.Ch _ _ _,rfl,?_⟩⟩
 show 0+0+cs.size*1≤cs.size
 omega
theorem A0z(x:AV)(h:H):Az env .cap [115] [x] h=Ale x h:=by kernel_rfl
theorem Bfw(x y:AV)(h:H):Az env .copy [115,115] [x,y] h=Te x y h TB ei8:=by kernel_rfl
theorem Bir(b:P)(n:Nat)(h:H):slice3 env h 115 (.slice b 0 n 1 false) none (some (Bl (.int .i64 (Int.ofNat 0)))) none=Gd h (Tj b 0 n 1 false 0 0 none):=by kernel_rfl
theorem Bku{h:H}{b:P}{t:Tm}{n:Nat}{k:KV}(ha:h.at b=.row t 2 0 149 true)(hb:b.nat<h.next.nat)(h0:Bn t 0=.ptr b 0)(h1:Bn t 1=.Af)(hn:n≤1099511627776)(hk:∀h',Bld true h' b []→k (.tuple []) h'):W1 (.func 258) [.ptr b 0,.int .i64 (Int.ofNat n)] h k:=by
 refine A8j (n:=1) Bs (Bjg ?_)
 unfold Adw
 rw[Br,Ad,Fg]
 refine Dg ha (by decide) ?_
 rw[h1,A0z,show(Ale AV.Af h:Option (AV×H))=some (.int .i64 (Int.ofNat 0),h) from rfl,Ad,Bu,Al,Al]
 have e1:wrap .i64 (Cd (wrap .i64 (Int.ofNat 2*Int.ofNat 0)) (Int.ofNat n))=Int.ofNat n:=by
  rw[show wrap .i64 (Int.ofNat 2*Int.ofNat 0)=Int.ofNat 0 by kernel_rfl,Ii,show Int.ofNat 0+Int.ofNat n=Int.ofNat n by show(0:Int)+(n:Int)=(n:Int);omega]
  exact Co (by omega)
 rw[e1,Br,Ad,Fg]
 refine Dg ha (by decide) ?_
 rw[h1]
 refine Bks hn ?_
 have ha1:(h.new (.row .e 0 0 TB false)).at b=.row t 2 0 149 true:=by rw[Dw hb];exact ha
 refine Dg ha1 (by decide) ?_
 rw[h1,Au2,Bir]
 have e2:(Gd (h.new (.row .e 0 0 TB false)) (Tj h.next 0 n 1 false 0 0 none):Option (AV×H))=some (.slice h.next 0 0 1 false,h.new (.row .e 0 0 TB false)):=by
  cases n<;>rfl
 rw[e2,Ad,Br,Ad,Fg]
 refine Dg ha1 (by decide) ?_
 rw[h1,Bfw]
 have e3:∃h3,(Te (.slice h.next 0 0 1 false) .Af (h.new (.row .e 0 0 TB false)) TB ei8:Option (AV×H))=some (.int .i64 (Int.ofNat 0),h3)∧h3=(h.new (.row .e 0 0 TB false)).put h.next (.row .e 0 0 TB false):=by
  refine⟨_,?_,rfl⟩
  show(Ut 0 ((h.new (.row .e 0 0 TB false)).write h.next 0 []):Option (AV×H))=_
  have:(h.new (.row .e 0 0 TB false)).write h.next 0 []=some ((h.new (.row .e 0 0 TB false)).put h.next (.row .e 0 0 TB false)):=by
   unfold Hp.write Hp.He
   rw[Ax]
   show(h.new (.row .e 0 0 TB false)).Qa h.next (.row .e 0 0 TB false) some=_
   rw[Md]
  rw[this];rfl
 obtain⟨h3,e3,e4⟩:=e3
 rw[e3,Ad,Bu,Br,Ad,Fg]
 have hbn:b≠h.next:=fun e=>by subst e;exact absurd hb (Nat.lt_irrefl _)
 have a3:h3.at b=.row t 2 0 149 true:=by rw[e4,Cr hbn];exact ha1
 have n3:h3.next.nat=h.next.nat+1:=by rw[e4];exact Bh (o:=.row .e 0 0 TB false)
 refine Bld.fin (g:=true) (l:=[]) a3 (by omega) h0 (.inr ⟨h.next,.e,0,0,false,rfl,by omega,by rw[e4,Bx],Nat.le_refl _,Nat.le_refl _,fun i hi=>absurd hi (Nat.not_lt_zero _),.inl rfl⟩) fun h' hb'=>hk h' hb'
theorem Bkx{h:H}{n:Nat}{k:KV}(hn1:1≤n)(hn:n≤1099511627776)(hk:∀h',Bld true h' h.next []→k (.tuple []) h'):W1 (.func 208) [.ptr h.next 0,.int .i64 (Int.ofNat n)] (h.new Wx) k:=by
 refine A8o (n:=2) Bs (Bjl ?_)
 unfold Ad2
 refine Azt (t:=Aj [.Gj,.Af] 0 .e) (Ax _ _) (.inl (by kernel_rfl)) fun h1 t1 a1 p1 q1 n1 f1=>?_
 have q1:Bn t1 1=.Af:=q1
 refine Cm (by rw[Gf];exact decide_eq_false (by show¬((n:Int)<((0:Nat):Int));omega)) ?_
 refine A4l ?_
 unfold Ad1
 rw[Br,Ad,Fg]
 refine Dg a1 (by decide) ?_
 rw[q1,A0z,show(Ale AV.Af h1:Option (AV×H))=some (.int .i64 (Int.ofNat 0),h1) from rfl,Ad,Bu,Br,Ad,Fg]
 refine Dg a1 (by decide) ?_
 rw[q1,Aqi,show wrap .i64 (Hw (Int.ofNat 0) (Int.ofNat 0))=Int.ofNat 0 by kernel_rfl,Al]
 refine Df (by rw[Gf];exact decide_eq_true (by show((0:Nat):Int)<(n:Int);omega)) ?_
 exact Bku a1 (by rw[n1,Bh];omega) p1 q1 hn fun h' hb'=>hk h' hb'
def isU(x:UInt8):Bool:=decide (65≤x.toNat)&&decide (x.toNat≤90)
def Ah8(x:UInt8):UInt8:=if isU x then x+32 else x
def Jq(s:List UInt8):List UInt8:=s.map Ah8
theorem Ah7{s:List UInt8}(h:s.any isU=false):Jq s=s:=by
 unfold Jq
 rw[List.any_eq_false] at h
 conv=>rhs;rw[←List.map_id s]
 apply List.map_congr_left
 intro x hx
 have:=h x hx
 unfold Ah8
 rw[if_neg this];rfl
theorem Gp{i:Nat}(h:i<9223372036854775807):wrap .i64 (Cd (Int.ofNat i) (Int.ofNat 1))=Int.ofNat (i+1):=by
 rw[Ii,show Int.ofNat i+Int.ofNat 1=Int.ofNat (i+1) from rfl]
 exact Co (by omega)
theorem upK{x:UInt8}{h:H}{k:Bool→H→Prop}(hk:k (isU x) h):Ao (fun k6=>gate true (Fw (Int.ofNat 65) (Int.ofNat x.toNat)) (k6 (Fw (Int.ofNat x.toNat) (Int.ofNat 90)) h) (k6 false h)) k:=by
 refine Sp ?_
 have:(Fw (Int.ofNat 65) (Int.ofNat x.toNat)&&Fw (Int.ofNat x.toNat) (Int.ofNat 90))=isU x:=by
  rw[Jh,Jh];unfold isU
  congr 1<;>(rw[Bool.eq_iff_iff,decide_eq_true_eq,decide_eq_true_eq];exact Int.ofNat_le)
 rw[this];exact hk
def ascii(s:List UInt8):Prop:=∀x∈s,x.toNat<128
theorem Av6{s:List UInt8}{k:KV}{e:Nat}(hs:ascii s)(hl:s.length≤1099511627776):∀(n i:Nat)(u:Bool),s.length-i+e+1≤n→i≤s.length→(∀n',e≤n'→(Nx W1 k n').a5 s.length (enc s) true (u||(s.drop i).any isU) h0)→(Nx W1 k n).a1 s.length (enc s) true u (Int.ofNat i) h0
 |0,_,_,hn,_,_=>absurd hn (by omega)
 |n+1,i,u,hn,hi,hk=>by
  refine A4v ?_
  unfold Aek
  rw[Gf]
  refine Ap (fun e'=>?_) (fun e'=>?_)
  · have e':i<s.length:=Int.ofNat_lt.1 (of_decide_eq_true e')
    rw[Aq]
    refine Bi e' ?_
    have hx:(s[i]).toNat<128:=hs _ (List.getElem_mem e')
    refine Cm (by rw[Jh];exact decide_eq_false fun h=>by have:=Int.ofNat_le.1 h;omega) ?_
    have hd:s.drop i=s[i]::s.drop (i+1):=List.drop_eq_getElem_cons e'
    refine Ma (b:=isU s[i]) (fun k' hk'=>upK hk') ?_
    rw[Gp (by omega),Al]
    refine Av6 (e:=e) hs hl n (i+1) _ (by omega) e' ?_
    intro n' hn'
    have:=hk n' hn'
    rw[hd,List.any_cons,←Bool.or_assoc] at this
    exact this
  · have e':¬i<s.length:=fun h=>(of_decide_eq_false e') (Int.ofNat_lt.2 h)
    have hd:s.drop i=[]:=by rw[List.drop_eq_nil_iff];omega
    have:=hk n (by omega)
    rw[hd] at this
    simpa using this
theorem A17{x:UInt8}(h:isU x=true):wrap .u8 (Cd (Int.ofNat x.toNat) (Int.ofNat 32))=Int.ofNat (Ah8 x).toNat:=by
 unfold Ah8
 rw[if_pos h]
 have hx:x.toNat≤90:=by unfold isU at h;simp at h;exact h.2
 have:(x+32).toNat=x.toNat+32:=by
  rw[UInt8.toNat_add];show(x.toNat+32)%256=_;omega
 rw[this,Ii,Ft]
 show IntKind.wrap .u8 ((x.toNat+32:Nat):Int)=((x.toNat+32:Nat):Int)
 simp[IntKind.wrap,IntKind.bits,IntKind.signed]
 omega
theorem Ah6{s:List UInt8}{p i:Nat}(hp:p≤i)(h:((s.drop p).take (i-p)).any isU=false):Jq (s.take i)=Jq (s.take p)++(s.drop p).take (i-p):=by
 have e:s.take i=s.take p++(s.drop p).take (i-p):=by
  have:=List.take_add (l:=s) (i:=p) (j:=i-p)
  rw[show p+(i-p)=i by omega] at this;exact this
 rw[e]
 unfold Jq
 rw[List.map_append]
 congr 1
 exact Ah7 h
theorem Alh{s:List UInt8}{k:KV}{b:P}(hl:s.length≤1099511627776)(hne:s≠[])(hk:∀h,k (S (Jq s)) h):∀(n i p:Nat)(g:Bool)(h:H),3*(s.length-i)+1≤n→i≤s.length→p≤i→((s.drop p).take (i-p)).any isU=false→Bld g h b (Jq (s.take p))→(Nx W1 k n).a2 s.length (enc s) (.ptr b 0) (Int.ofNat p) (Int.ofNat i) h
 |0,_,_,_,_,hn,_,_,_,_=>absurd hn (by omega)
 |n+1,i,p,g,h,hn,hi,hp,ha,hb=>by
  refine A4u ?_
  unfold Aej
  rw[Gf]
  refine Ap (fun e'=>?_) (fun e'=>?_)
  · have e':i<s.length:=Int.ofNat_lt.1 (of_decide_eq_true e')
    have htk:s.take (i+1)=s.take i++[s[i]]:=by rw[List.take_add_one,List.getElem?_eq_getElem e'];rfl
    rw[Aq]
    refine Bi e' ?_
    refine upK ?_
    refine Ap (fun eu=>?_) (fun eu=>?_)
    · rw[A17 eu,Al]
      have step:∀g' h',Bld g' h' b (Jq (s.take i))→(Nx W1 k n).a3 s.length (enc s) (.ptr b 0) (Int.ofNat i) (Int.ofNat (Ah8 s[i]).toNat) h':=by
       intro g' h' hb'
       obtain⟨m,rfl⟩:∃m,n=m+2:=⟨n-2,by omega⟩
       refine A4t ?_
       unfold Aei
       refine Awa hb' (by unfold Jq;rw[List.length_map,List.length_take];omega) fun h2 hb2=>?_
       rw[Gp (by omega),Al]
       refine At3 ?_
       unfold Zj
       rw[Gp (by omega),Al]
       refine Alh hl hne hk m (i+1) (i+1) false h2 (by omega) e' (Nat.le_refl _) (by simp) ?_
       rw[htk];unfold Jq at hb2 ⊢;rw[List.map_append];exact hb2
      rw[Gf]
      refine Ap (fun e2=>?_) (fun e2=>?_)
      · have e2:p<i:=Int.ofNat_lt.1 (of_decide_eq_true e2)
        rw[Aq,Aq]
        refine Ti hp (by omega) ?_
        refine c61 hb (fun h=>?_) ?_ fun v h' hb'=>?_
        · have:=congrArg List.length h
          simp at this;omega
        · unfold Jq;rw[List.length_map,List.length_take,List.length_take,List.length_drop];omega
        · refine step false h' ?_
          rw[Ah6 hp ha];exact hb'
      · have e2:p=i:=by
         have:¬p<i:=fun h=>(of_decide_eq_false e2) (Int.ofNat_lt.2 h)
         omega
        subst e2
        exact step g h hb
    · obtain⟨m,rfl⟩:∃m,n=m+1:=⟨n-1,by omega⟩
      refine At3 ?_
      unfold Zj
      rw[Gp (by omega),Al]
      refine Alh hl hne hk m (i+1) p g h (by omega) e' (by omega) ?_ hb
      have e3:(s.drop p).take (i+1-p)=(s.drop p).take (i-p)++[s[i]]:=by
       rw[show i+1-p=(i-p)+1 by omega,List.take_add_one,List.getElem?_drop,show p+(i-p)=i by omega,List.getElem?_eq_getElem e'];rfl
      rw[e3,List.any_append,ha];simp[eu]
  · have e':i=s.length:=by
     have:¬i<s.length:=fun h=>(of_decide_eq_false e') (Int.ofNat_lt.2 h)
     omega
    subst e'
    have hlow:Jq s=Jq (s.take p)++(s.drop p).take (s.length-p):=by
     have:=Ah6 hp ha
     rw[List.take_length] at this;exact this
    have hlne:Jq s≠[]:=by unfold Jq;simpa using hne
    have hll:(Jq s).length≤9223372036854775807:=by unfold Jq;rw[List.length_map];omega
    rw[Gf]
    refine Ap (fun e2=>?_) (fun e2=>?_)
    · have e2:p<s.length:=Int.ofNat_lt.1 (of_decide_eq_true e2)
      rw[Aq]
      refine Ti hp (Nat.le_refl _) ?_
      refine c61 hb (fun h=>?_) ?_ fun v h' hb'=>?_
      · have:=congrArg List.length h
        simp at this;omega
      · unfold Jq;rw[List.length_map,List.length_take,List.length_take,List.length_drop];omega
      · rw[←hlow] at hb'
        refine c63 hb' (.inr hlne) hll fun h2=>?_
        rw[Bp];exact hk h2
    · have e2:p=s.length:=by
       have:¬p<s.length:=fun h=>(of_decide_eq_false e2) (Int.ofNat_lt.2 h)
       omega
      subst e2
      rw[List.take_length] at hb
      refine c63 hb (.inr hlne) hll fun h2=>?_
      rw[Bp];exact hk h2
theorem Bk7(s:List UInt8)(hs:ascii s)(hl:s.length≤1099511627776):Pure PP G h0 161 [S s] (S (Jq s)):=by
 refine A8x (n:=4*s.length+10) Bs (Bju ?_)
 unfold Ael
 refine Av6 (e:=3*s.length+2) hs hl _ 0 false (by omega) (Nat.zero_le _) ?_
 intro n' hn'
 rw[List.drop_zero,Bool.false_or]
 obtain⟨m,rfl⟩:∃m,n'=m+1:=⟨n'-1,by omega⟩
 refine A4s ?_
 unfold Aeh
 refine Df rfl ?_
 refine Ap (fun e=>?_) (fun e=>?_)
 · rw[Bj] at e
   have e:s.any isU=false:=by simpa using e
   rw[Ah7 e]
 · rw[Bj] at e
   have e:s.any isU=true:=by simpa using e
   have hne:s≠[]:=fun h=>by subst h;cases e
   have hpos:1≤s.length:=by
    cases s with
    |nil=>exact absurd rfl hne
    |cons _ _=>simp
   refine Dt ?_
   refine Bkx hpos hl fun h' hb'=>?_
   refine Alh hl hne (fun _=>rfl) m 0 0 true h' (by omega) (Nat.zero_le _) (Nat.le_refl _) (by simp) ?_
   exact hb'
theorem Bk6(L:List UInt8)(x:UInt8)(hx:x.toNat<128):Pure PP G h0 162 [S L,.int .i32 (Int.ofNat x.toNat)] (.int .i64 (Xq L x)):=by
 refine A8w (n:=1) Bs (Bjt ?_)
 unfold Aeg
 refine Sp ?_
 have e1:(Fw (Int.ofNat 0) (Int.ofNat x.toNat)&&Cl (Int.ofNat x.toNat) (Int.ofNat 128))=true:=by
  rw[ile,ilt,decide_eq_true (Nat.zero_le _),decide_eq_true hx];rfl
 refine Df e1 ?_
 have e2:wrap .u8 (Int.ofNat x.toNat)=Int.ofNat x.toNat:=by
  rw[Ft]
  simp[IntKind.wrap,IntKind.bits,IntKind.signed]
  omega
 rw[e2,Al]
 refine Di (A7s L x) ?_
 rw[Bu]
def Aqf:List UInt8:=[48,49,50,51,52,53,54,55,56,57,97,98,99,100,101,102]
def Af5(c:UInt8):Nat:=if c.toNat≤57 then c.toNat-48 else c.toNat-87
theorem Azg:∀x∈Aqf,Xq Ec x=Int.ofNat (Af5 x):=by
 intro x hx
 simp only[Aqf,List.mem_cons,List.not_mem_nil,or_false] at hx
 rcases hx with rfl|rfl|rfl|rfl|rfl|rfl|rfl|rfl|rfl|rfl|rfl|rfl|rfl|rfl|rfl|rfl<;>kernel_rfl
theorem A7f:∀x∈Aqf,Af5 x≤15:=by decide
theorem Ayq:∀x∈Ec,Ah8 x∈Aqf:=by decide
theorem Atr:∀x∈Aqf,x.toNat<128:=by decide
theorem Ayz:∀x∈Ec,x.toNat<128:=by decide
theorem Aon:∀x∈Pn,x∈Ec:=by decide
def Agv(B v:Nat)(ds:List UInt8):Nat:=ds.foldl (fun v c=>(v*B+Af5 c)&&&4095) v
def Js:List UInt8:=[39,34,63,92,97,98,102,110,114,116,118]
def Tf:List UInt8:=[39,34,63,92,7,8,12,10,13,9,11]
def Mr(x:UInt8):Option UInt8:=
 if x=39 then some 39 else if x=34 then some 34 else if x=63 then some 63 else if x=92 then some 92 else if x=97 then some 7 else if x=98 then some 8
 else if x=102 then some 12 else if x=110 then some 10 else if x=114 then some 13 else if x=116 then some 9 else if x=118 then some 11 else none
theorem Ax5:∀x∈Js,∃i y,Xq Js x=Int.ofNat i∧Mr x=some y∧∃h:i<Tf.length,Tf[i]=y:=by
 intro x hx
 simp only[Js,List.mem_cons,List.not_mem_nil,or_false] at hx
 rcases hx with rfl|rfl|rfl|rfl|rfl|rfl|rfl|rfl|rfl|rfl|rfl
 · exact⟨0,_,by kernel_rfl,rfl,by decide,rfl⟩
 · exact⟨1,_,by kernel_rfl,rfl,by decide,rfl⟩
 · exact⟨2,_,by kernel_rfl,rfl,by decide,rfl⟩
 · exact⟨3,_,by kernel_rfl,rfl,by decide,rfl⟩
 · exact⟨4,_,by kernel_rfl,rfl,by decide,rfl⟩
 · exact⟨5,_,by kernel_rfl,rfl,by decide,rfl⟩
 · exact⟨6,_,by kernel_rfl,rfl,by decide,rfl⟩
 · exact⟨7,_,by kernel_rfl,rfl,by decide,rfl⟩
 · exact⟨8,_,by kernel_rfl,rfl,by decide,rfl⟩
 · exact⟨9,_,by kernel_rfl,rfl,by decide,rfl⟩
 · exact⟨10,_,by kernel_rfl,rfl,by decide,rfl⟩
theorem Ag0{x:UInt8}(h:x∉Js):Mr x=none:=by
 simp[Js] at h
 obtain⟨h1,h2,h3,h4,h5,h6,h7,h8,h9,h10,h11⟩:=h
 unfold Mr
 rw[if_neg h1,if_neg h2,if_neg h3,if_neg h4,if_neg h5,if_neg h6,if_neg h7,if_neg h8,if_neg h9,if_neg h10,if_neg h11]
def Rz(s:List UInt8)(n f B:Nat):UInt8×Nat:=if n≤f then(0,0) else(UInt8.ofNat (Agv B 0 (Jq ((s.drop f).take (n-f)))),n)
def Eg(s:List UInt8):UInt8×Nat:=match s with
 |[]=>(0,0)
 |c::r=>match Mr c with
  |some y=>(y,1)
  |none=>if c=120 then Rz (c::r) (1+Ay r Ec) 1 16 else Rz (c::r) (min (Ay (c::r) Pn) 3) 0 8
theorem A4g{a b:Nat}{K:Int→Prop}(ha:a≤9223372036854775807)(hb:b≤9223372036854775807)(hk:K (Int.ofNat (a&&&b))):Abw Nat.land .i64 (Int.ofNat a) (Int.ofNat b) K:=by
 show(Bool.rec False (fN (Nat.land a b) (fun n=>K (.ofNat n))) (Ai (Nat.ble a (intMax .i64)) (Nat.ble b (intMax .i64))):Prop)
 rw[Nat.ble_eq_true_of_le (show a≤intMax .i64 from ha),Nat.ble_eq_true_of_le (show b≤intMax .i64 from hb)]
 exact hk
theorem A37{h:H}{p:P}{s:List UInt8}{i:Nat}(ha:h.at p=.iter s.length (enc s) i):Td (.ptr p 0) true h=Oa p s.length (enc s) i h:=by
 unfold Td
 simp only[ha]
 rfl
theorem Biw(l c:Nat)(h:H):Ot env 9 (.str l c) h=some (.ptr h.next 0,h.new (.iter l c 0)):=by kernel_rfl
theorem wrap_u8(n:Nat):wrap .u8 (Int.ofNat n)=Int.ofNat (UInt8.ofNat n).toNat:=by
 rw[Ft]
 have:(UInt8.ofNat n).toNat=n%256:=by simp
 rw[this]
 simp[IntKind.wrap,IntKind.bits,IntKind.signed]
theorem Av9 {ds : List UInt8} {B n5 : Nat} {p : P} {k : KV} (hds : ∀ x ∈ ds, x ∈ Aqf) (hB : B ≤ 16) : ∀ (n i v : Nat) (h : H), ds.length - i < n → i ≤ ds.length → v ≤ 4095 → h.at p = .iter ds.length (enc ds) i →
    (∀ h', k (.tuple [ub (UInt8.ofNat (Agv B v (ds.drop i))), .int .i64 (Int.ofNat n5)]) h') → (Zo W1 k n).a1 (Int.ofNat n5) (Int.ofNat B) (Int.ofNat v) (.ptr p 0) h
  | 0, _, _, _, hn, _, _, _, _ => absurd hn (Nat.not_lt_zero _)
  | n + 1, i, v, h, hn, hi, hv, ha, hk => by
    refine A40 ?_
    unfold Ae5
    rw [A37 ha]
    by_cases e : i < ds.length
    · have hd : ds.drop i = ds[i] :: ds.drop (i + 1) := List.drop_eq_getElem_cons e
      have hx := hds _ (List.getElem_mem e)
      have hx1 := Atr _ hx
      have e1 : Oa p ds.length (enc ds) i h = some (.tuple [.bool true, .int .i64 (.ofNat i), .int .i32 (.ofNat (ds[i]).toNat)], h.put p (.iter ds.length (enc ds) (Nat.add i 1))) := by
        unfold Oa
        rw [Nat.ble_eq_true_of_le (show Nat.add i 1 ≤ ds.length from e), Ao0 e]
        have : Nat.ble 128 (ds[i]).toNat = false := by
          cases hb : Nat.ble 128 (ds[i]).toNat with
          | false => rfl
          | true => exact absurd (Nat.le_of_ble_eq_true hb) (by omega)
        rw [this]
      rw [e1, Ad, Dn, Bt]
      refine Df rfl ?_
      rw [Ait, Bu]
      have hdl := A7f _ hx
      have hm : v * B ≤ 4095 * 16 := Nat.mul_le_mul hv hB
      have w1 : wrap .i64 (Int.ofNat v * Int.ofNat B) = Int.ofNat (v * B) := by
        rw [show Int.ofNat v * Int.ofNat B = Int.ofNat (v * B) from rfl]; exact Co (by omega)
      rw [w1, Al]
      refine Di (Bk6 Ec ds[i] hx1) ?_
      rw [Bu, Azg _ hx]
      have w2 : wrap .i64 (Cd (Int.ofNat (v * B)) (Int.ofNat (Af5 ds[i]))) = Int.ofNat (v * B + Af5 ds[i]) := by
        rw [Ii, show Int.ofNat (v * B) + Int.ofNat (Af5 ds[i]) = Int.ofNat (v * B + Af5 ds[i]) from rfl]; exact Co (by omega)
      rw [w2, Al]
      refine A4g (by omega) (by omega) ?_
      refine Av9 hds hB n (i + 1) _ _ (by omega) e Nat.and_le_right (Bx _ _ _) ?_
      rw [hd] at hk
      exact hk
    · have hd : ds.drop i = [] := by rw [List.drop_eq_nil_iff]; omega
      have e1 : Oa p ds.length (enc ds) i h = some (.tuple [.bool false], h) := by
        unfold Oa
        have : Nat.ble (Nat.add i 1) ds.length = false := by
          cases hb : Nat.ble (Nat.add i 1) ds.length with
          | false => rfl
          | true => exact absurd (Nat.le_of_ble_eq_true hb) (by show ¬ i + 1 ≤ _; omega)
        rw [this]
      rw [e1, Ad, Dn, Bt]
      refine Cm rfl ?_
      rw [wrap_u8, Al]
      rw [hd] at hk
      exact hk h
theorem Av8{s:List UInt8}{n f B m:Nat}{k:KV}(hl:s.length≤1099511627776)(hn:n≤s.length)(hd:∀x∈(s.drop f).take (n-f),x∈Ec)(hB:B≤16)(hm:s.length+2≤m)
 (hk:∀h',k (.tuple [ub (Rz s n f B).1,.int .i64 (Int.ofNat (Rz s n f B).2)]) h'):(Zo W1 k (m+1)).a2 s.length (enc s) (Int.ofNat n) (Int.ofNat B) (Int.ofNat f) h0:=by
 refine A4z ?_
 unfold Ae4
 rw[Jh]
 unfold Rz at hk
 refine Ap (fun e=>?_) (fun e=>?_)
 · have e:n≤f:=Int.ofNat_le.1 (of_decide_eq_true e)
   rw[if_pos e] at hk;exact hk _
 · have e:¬n≤f:=fun h=>(of_decide_eq_false e) (Int.ofNat_le.2 h)
   rw[if_neg e] at hk
   rw[Aq,Aq]
   refine Ti (by omega) hn ?_
   have ll:((s.drop f).take (n-f)).length≤s.length:=by rw[List.length_take,List.length_drop];omega
   refine Di (Bk7 _ (fun x hx=>Ayz x (hd x hx)) (by omega)) ?_
   rw[Bp,Biw,Ad]
   have l2:(Jq ((s.drop f).take (n-f))).length≤s.length:=by unfold Jq;rw[List.length_map];exact ll
   refine Av9 (fun x hx=>?_) hB _ 0 0 _ (by omega) (Nat.zero_le _) (Nat.zero_le _) (Ax _ _) ?_
   · obtain⟨y,hy,rfl⟩:=List.mem_map.1 hx
     exact Ayq y (hd y hy)
   · rw[List.drop_zero];exact hk
theorem Art(s set:List UInt8):s.take (Ay s set)=s.takeWhile (·∈set):=(List.prefix_iff_eq_take.1 (List.takeWhile_prefix _)).symm
theorem Rf{s set:List UInt8}{x:UInt8}{n:Nat}(hn:n≤Ay s set)(hx:x∈s.take n):x∈set:=by
 have h1:x∈s.take (Ay s set):=List.take_subset_take_left _ hn hx
 rw[Art] at h1
 have:=List.all_eq_true.1 List.all_takeWhile x h1
 simpa using this
theorem Bbm(n:Nat)(h:H):Az env .min [3,3] [.int .i64 (Int.ofNat n),.int .i64 (Int.ofNat 3)] h=some (.int .i64 (Int.ofNat (min n 3)),h):=by
 have e:Az env .min [3,3] [.int .i64 (Int.ofNat n),.int .i64 (Int.ofNat 3)] h=some (.int .i64 (Bool.rec (Int.ofNat n) (Int.ofNat 3) (Cl (Int.ofNat 3) (Int.ofNat n))),h):=by kernel_rfl
 rw[e,ilt]
 by_cases hc:3<n
 · rw[decide_eq_true hc,Nat.min_eq_right (by omega)]
 · rw[decide_eq_false hc,Nat.min_eq_left (by omega)]
theorem Bge(s:List UInt8)(hl:s.length≤1099511627776):Pure PP G h0 108 [S s] (.tuple [ub (Eg s).1,.int .i64 (Int.ofNat (Eg s).2)]):=by
 refine A9d (n:=s.length+10) Bs (Bkb ?_)
 unfold Ae6
 cases s with
 |nil=>exact Df rfl rfl
 |cons c r=>
  refine Cm (Ll c r) ?_
  refine Bi (s:=c::r) (Nat.zero_lt_succ _) ?_
  refine Di (A7s Js c) ?_
  rw[Bu,Jh]
  by_cases hin:c∈Js
  · obtain⟨i,y,e1,e2,e3,e4⟩:=Ax5 c hin
    have ee:Eg (c::r)=(y,1):=by show(match Mr c with|some y=>(y,1)|none=>_)=_;rw[e2]
    show cnd (decide (Int.ofNat 0≤Xq Js c)) _ _
    rw[e1]
    refine Df (decide_eq_true (Int.ofNat_le.2 (Nat.zero_le _))) ?_
    rw[Aq]
    refine Bi (s:=Tf) e3 ?_
    show AV.tuple [_,_]=AV.tuple [_,_]
    rw[ee,e4];rfl
  · have hneg:Xq Js c<0:=(Zp Js c).2 hin
    have es:=Ag0 hin
    refine Cm (decide_eq_false fun h=>by have:(0:Int)≤Xq Js c:=h;omega) ?_
    refine Di (Aq4 Ati (by decide) (c::r) (by omega)) ?_
    rw[Bu,Bbm,Ad,Bu]
    refine Bi (s:=c::r) (Nat.zero_lt_succ _) ?_
    rw[toNat_eq _ 120 (by decide)]
    have hlr:r.length≤1099511627776:=by simp at hl;omega
    refine Ap (fun e=>?_) (fun e=>?_)
    · have e:c=120:=of_decide_eq_true e
      refine Fl (s:=c::r) (Nat.le_add_left 1 _) ?_
      refine Di (Aq4 Akw (by decide) r (by omega)) ?_
      have hr:=Ge r Ec
      have w1:wrap .i64 (Cd (Int.ofNat 1) (Int.ofNat (Ay r Ec)))=Int.ofNat (1+Ay r Ec):=by
       rw[Ii,show Int.ofNat 1+Int.ofNat (Ay r Ec)=Int.ofNat (1+Ay r Ec) from rfl];exact Co (by omega)
      rw[Bu,w1,Al]
      refine Av8 (s:=c::r) (n:=1+Ay r Ec) (f:=1) (B:=16) hl (by simp;omega) (fun x hx=>?_) (Nat.le_refl _) (by omega) fun h'=>?_
      · rw[List.drop_succ_cons,List.drop_zero,show 1+Ay r Ec-1=Ay r Ec by omega] at hx
        exact Rf (Nat.le_refl _) hx
      · have ee:Eg (c::r)=Rz (c::r) (1+Ay r Ec) 1 16:=by
         show(match Mr c with|some y=>(y,1)|none=>_)=_
         rw[es];exact if_pos e
        rw[ee]
    · have e:¬c=120:=of_decide_eq_false e
      have hr:=Ge (c::r) Pn
      refine Av8 (s:=c::r) (n:=min (Ay (c::r) Pn) 3) (f:=0) (B:=8) hl (by omega) (fun x hx=>?_) (by decide) (by omega) fun h'=>?_
      · rw[List.drop_zero,Nat.sub_zero] at hx
        exact Aon x (Rf (Nat.min_le_left _ _) hx)
      · have ee:Eg (c::r)=Rz (c::r) (min (Ay (c::r) Pn) 3) 0 8:=by
         show(match Mr c with|some y=>(y,1)|none=>_)=_
         rw[es];exact if_neg e
        rw[ee]
theorem Afx(s:List UInt8):(Eg s).2≤s.length:=by
 cases s with
 |nil=>exact Nat.le_refl _
 |cons c r=>
  show(match Mr c with|some y=>(y,1)|none=>if c=120 then Rz (c::r) (1+Ay r Ec) 1 16 else Rz (c::r) (min (Ay (c::r) Pn) 3) 0 8:UInt8×Nat).2≤_
  have key:∀n f B,n≤(c::r).length→(Rz (c::r) n f B).2≤(c::r).length:=by
   intro n f B hn
   unfold Rz
   split
   · exact Nat.zero_le _
   · exact hn
  cases Mr c with
  |some y=>exact Nat.le_add_left 1 _
  |none=>
   have h1:=Ge r Ec
   have h2:=Ge (c::r) Pn
   show(if c=120 then _ else _:UInt8×Nat).2≤_
   split
   · exact key _ _ _ (by simp;omega)
   · exact key _ _ _ (by omega)
def Gs:List UInt8→Bool
 |[]=>false
 |c::_=>decide (c=34)||decide (c=39)
def De:List (List UInt8):=[[],[76],[117],[85],[117,56]]
def Bw:List (List UInt8)→List UInt8→List UInt8×Bool
 |[],_=>([],false)
 |s::ss,text=>if(decide (text.take s.length=s)&&Gs (text.drop s.length)) then(s,true) else Bw ss text
def Ah(text:List UInt8):List UInt8×Bool:=Bw De text
def T5b:Tm:=Option.rec .e (fun t=>t) (Uw (Sv 1) 5 [(0,.str 0 0),(1,.str 1 76),(2,.str 1 117),(3,.str 1 85),(4,.str 2 14453)] (Aj (Kh [.str 0 0] 5) 0 .e))
theorem b5b(h:H):Au env 44 (fun e ei=>Ak 5 [(0,(.str 0 0)),(1,(.str 1 76)),(2,(.str 1 117)),(3,(.str 1 85)),(4,(.str 2 14453))] h e ei)=some (.slice h.next 0 5 1 true,h.new (.row T5b 5 0 9 true)):=by kernel_rfl
theorem Akg{h:H}{b:P}(ha:h.at b=.row T5b 5 0 9 true){r:Nat}(hr:r<5){K:Nat→Nat→Prop}(hk:∀t rest,De.drop r=t::rest→rest=De.drop (r+1)→K t.length (enc t)):Dd 1 r (.slice b 0 5 1 true) fun v=>ld1 v h fun v=>asS v K:=by
 have key:∀t,De.drop r=t::De.drop (r+1)→Bn T5b r=S t→Dd 1 r (.slice b 0 5 1 true) fun v=>ld1 v h fun v=>asS v K:=by
  intro t ht e
  have hb:Dd 1 r (.slice b 0 5 1 true) (fun v=>ld1 v h fun v=>asS v K)=ld1 (.ptr b r) h fun v=>asS v K:=by
   match r,hr with
   |0,_|1,_|2,_|3,_|4,_=>rfl
  rw[hb]
  refine Dg ha hr ?_
  rw[e]
  exact hk t _ ht rfl
 match r,hr with
 |0,_=>exact key [] rfl (by kernel_rfl)
 |1,_=>exact key [76] rfl (by kernel_rfl)
 |2,_=>exact key [117] rfl (by kernel_rfl)
 |3,_=>exact key [85] rfl (by kernel_rfl)
 |4,_=>exact key [117,56] rfl (by kernel_rfl)
theorem Bga(s t:List UInt8):Pure PP G h0 163 [S s,S t] (if s.take t.length=t then .tuple [S (s.drop t.length),.bool true] else .tuple [S s,.bool false]):=by
 refine A8v (n:=1) Bs (Bjs ?_)
 unfold Aef
 refine Di (Bf8 s t) ?_
 rw[Bt,Bj]
 refine Ap (fun e=>?_) (fun e=>?_)
 · have e:¬s.take t.length=t:=by simpa using e
   rw[if_neg e]
 · have e:s.take t.length=t:=by simpa using e
   have:t.length≤s.length:=by have:=congrArg List.length e;simp at this;omega
   refine Fl this ?_
   rw[if_pos e]
theorem Blh(s t:List UInt8):Pure PP G h0 109 [S s,S t] (if s.take t.length=t then .tuple [S (s.drop t.length),.bool true] else .tuple [S s,.bool false]):=by
 refine A9c (n:=1) Bs (Bka ?_)
 unfold Ae3
 by_cases e:s.take t.length=t
 · have h1:=Bga s t
   rw[if_pos e] at h1 ⊢
   refine Di h1 ?_
   rw[Dn,Bp,Du,Bt]
 · have h1:=Bga s t
   rw[if_neg e] at h1 ⊢
   refine Di h1 ?_
   rw[Dn,Bp,Du,Bt]
theorem A1a{s:List UInt8}{h:H}{b:P}(ha:h.at b=.row T5b 5 0 9 true){k:KV}:∀(n i:Nat),5-i<n→i≤5→k (.tuple [S (Bw (De.drop i) s).1,.bool (Bw (De.drop i) s).2]) h→(r60 W1 k n).a1 s.length (enc s) (.slice b 0 5 1 true) (Int.ofNat 5) (Int.ofNat i) h
 |0,_,hn,_,_=>absurd hn (Nat.not_lt_zero _)
 |n+1,i,hn,hi,hk=>by
  refine Bb3 ?_
  unfold Amt
  rw[Gf]
  refine Ap (fun e=>?_) (fun e=>?_)
  · have e:i<5:=Int.ofNat_lt.1 (of_decide_eq_true e)
    rw[Aq]
    refine Akg ha e fun t rest h1 h2=>?_
    rw[h1] at hk
    have rec_:(decide (s.take t.length=t)&&Gs (s.drop t.length))=false→fI (wrap .i64 (Cd (Int.ofNat i) (Int.ofNat 1))) fun n27=>(r60 W1 k n).a1 s.length (enc s) (.slice b 0 5 1 true) (Int.ofNat 5) n27 h:=by
     intro hc
     rw[Gp (by omega),Al]
     refine A1a ha n (i+1) (by omega) e ?_
     rw[←h2]
     have:Bw (t::rest) s=Bw rest s:=if_neg (by rw[hc];simp)
     rw[this] at hk;exact hk
    refine Di (Blh s t) ?_ rfl (by split<;>rfl)
    by_cases ht:s.take t.length=t
    · rw[if_pos ht,Dn,Bp,Du,Bt]
      refine Sp ?_
      rw[Fb,Bj]
      cases hr:s.drop t.length with
      |nil=>
       refine Dp (fun e=>?_) (fun _=>?_)
       · simp at e
       · exact Cm rfl (rec_ (by rw[hr];simp[Gs]))
      |cons c r=>
       refine Dp (fun _=>?_) (fun e=>?_)
       · refine Bi (s:=c::r) (Nat.zero_lt_succ _) ?_
         refine Ma (b:=decide (c=39)) (fun k' hk'=>?_) ?_
         · refine Bi (s:=c::r) (Nat.zero_lt_succ _) ?_
           rw[toNat_eq _ 39 (by decide)];exact hk'
         · rw[toNat_eq _ 34 (by decide)]
           refine Ap (fun e=>?_) (fun e=>?_)
           · have:Bw (t::rest) s=(t,true):=if_pos (by rw[hr];rw[decide_eq_true ht];exact e)
             rw[this] at hk;exact hk
           · refine rec_ ?_
             rw[hr,decide_eq_true ht];exact e
       · simp at e
    · rw[if_neg ht,Dn,Bp,Du,Bt]
      refine Dp (fun e=>by cases e) (fun _=>?_)
      refine Dp (fun e=>by cases e) (fun _=>?_)
      exact Cm rfl (rec_ (by rw[decide_eq_false ht];rfl))
  · have e:i=5:=by
     have:¬i<5:=fun h=>(of_decide_eq_false e) (Int.ofNat_lt.2 h)
     omega
    subst e
    exact hk
theorem c60(s:List UInt8):Pure PP G h0 60 [S s] (.tuple [S (Ah s).1,.bool (Ah s).2]):=by
 refine w60 (n:=10) Bs (g60 ?_)
 unfold Amu
 rw[b5b,Ad]
 show(r60 W1 _ 9).a1 s.length (enc s) (.slice h0.next 0 5 1 true) (Int.ofNat 5) (Int.ofNat 0) _
 exact A1a (Ax _ _) 9 0 (by decide) (by decide) rfl
def Fa(q:UInt8):Nat→List UInt8→Option (List UInt8)
 |0,_=>none
 |_+1,[]=>some []
 |n+1,c::r=>if c=q then none else if c=92 then(if(Eg r).2=0 then none else(Fa q n (r.drop (Eg r).2)).map ((Eg r).1::·)) else(Fa q n r).map (c::·)
theorem Lt{q:UInt8}:∀(n m:Nat)(s:List UInt8),s.length<n→s.length<m→Fa q n s=Fa q m s
 |0,_,_,h,_=>absurd h (Nat.not_lt_zero _)
 |_,0,_,_,h=>absurd h (Nat.not_lt_zero _)
 |n+1,m+1,[],_,_=>rfl
 |n+1,m+1,c::r,h1,h2=>by
  have h1:r.length<n:=Nat.lt_of_succ_lt_succ h1
  have h2:r.length<m:=Nat.lt_of_succ_lt_succ h2
  show(if c=q then none else if c=92 then(if(Eg r).2=0 then none else(Fa q n (r.drop (Eg r).2)).map ((Eg r).1::·)) else(Fa q n r).map (c::·))=(if c=q then none else if c=92 then(if(Eg r).2=0 then none else(Fa q m (r.drop (Eg r).2)).map ((Eg r).1::·)) else(Fa q m r).map (c::·))
  rw[Lt n m r h1 h2,Lt n m (r.drop (Eg r).2) (by rw[List.length_drop];omega) (by rw[List.length_drop];omega)]
def Tl(o:Option (List UInt8)):AV:=match o with
 |some l=>.tuple [S l,.bool true]
 |none=>.tuple [S [],.bool false]
def Yb(t:List UInt8):Option (List UInt8):=match t with
 |[]=>none
 |q::r=>if r=[] then none else if r.getLast? =some q then Fa q (r.length+1) r.dropLast else none
def Fj(s:List UInt8):Option (List UInt8):=if(Ah s).2=true then Yb (s.drop (Ah s).1.length) else none
theorem Ir(s:List UInt8):∀ps,(Bw ps s).2=true→s.take (Bw ps s).1.length=(Bw ps s).1∧Gs (s.drop (Bw ps s).1.length)=true
 |[],h=>by cases h
 |p::ps,h=>by
  by_cases e:(decide (s.take p.length=p)&&Gs (s.drop p.length))=true
  · have e1:Bw (p::ps) s=(p,true):=if_pos e
    rw[e1]
    simpa using e
  · have e1:Bw (p::ps) s=Bw ps s:=if_neg e
    rw[e1] at h ⊢
    exact Ir s ps h
theorem Xd(s:List UInt8):∀ps,(Bw ps s).2=false→(Bw ps s).1=[]
 |[],_=>rfl
 |p::ps,h=>by
  by_cases e:(decide (s.take p.length=p)&&Gs (s.drop p.length))=true
  · have e1:Bw (p::ps) s=(p,true):=if_pos e
    rw[e1] at h;cases h
  · have e1:Bw (p::ps) s=Bw ps s:=if_neg e
    rw[e1] at h ⊢
    exact Xd s ps h
theorem Xc(s:List UInt8):(Ah s).1.length≤s.length:=by
 cases h:(Ah s).2 with
 |true=>
  have:=congrArg List.length (Ir s De h).1
  rw[List.length_take] at this
  show(Bw De s).1.length≤s.length
  omega
 |false=>
  have:(Ah s).1=[]:=Xd s De h
  rw[this];exact Nat.zero_le _
theorem Aig{n:Nat}(h1:1≤n)(h2:n≤9223372036854775807):wrap .i64 (Hw (Int.ofNat n) (Int.ofNat 1))=Int.ofNat (n-1):=by
 rw[Og,show Int.ofNat n-Int.ofNat 1=Int.ofNat (n-1) by show(n:Int)-((1:Nat):Int)=((n-1:Nat):Int);omega]
 exact Co (by omega)
theorem Apf {q : UInt8} {r : List UInt8} {b : P} {k : KV} : ∀ (n : Nat) (s acc : List UInt8) (h : H), s.length < n → s.length + acc.length ≤ 549755813888 → Bld false h b acc →
    (∀ h', k (Tl ((Fa q n s).map (acc ++ ·))) h') → (r59 W1 k n).a1 (q :: r).length (enc (q :: r)) (.ptr b 0) s.length (enc s) h
  | 0, _, _, _, hn, _, _, _ => absurd hn (Nat.not_lt_zero _)
  | n + 1, [], acc, h, hn, hl, hb, hk => by
    refine A0n ?_
    unfold Ag6
    refine Df rfl ?_
    refine c63 hb (.inl rfl) (by simp at hl; omega) fun h' => ?_
    rw [Bp]
    have := hk h'
    rw [show (Fa q (n + 1) []).map (acc ++ ·) = some acc by show some (acc ++ []) = _; rw [List.append_nil]] at this
    exact this
  | n + 1, c :: s, acc, h, hn, hl, hb, hk => by
    have hn : s.length < n := Nat.lt_of_succ_lt_succ hn
    have hl' : s.length + 1 + acc.length ≤ 549755813888 := hl
    refine A0n ?_
    unfold Ag6
    refine Cm (Ll c s) ?_
    refine Bi (s := c :: s) (Nat.zero_lt_succ _) ?_
    refine Bi (s := q :: r) (Nat.zero_lt_succ _) ?_
    rw [List.getElem_cons_zero, List.getElem_cons_zero, Akv]
    have eb : Fa q (n + 1) (c :: s) = if c = q then none else if c = 92 then (if (Eg s).2 = 0 then none else (Fa q n (s.drop (Eg s).2)).map ((Eg s).1 :: ·)) else (Fa q n s).map (c :: ·) := rfl
    rw [eb] at hk
    have mm : ∀ (x : UInt8) (o : Option (List UInt8)), (o.map (x :: ·)).map (acc ++ ·) = o.map ((acc ++ [x]) ++ ·) := by
      intro x o
      cases o with
      | none => rfl
      | some l => simp
    refine Ap (fun e => ?_) (fun e => ?_)
    · have e : c = q := of_decide_eq_true e
      rw [if_pos e] at hk
      obtain ⟨n', rfl⟩ : ∃ n', n = n' + 1 := ⟨n - 1, by omega⟩
      refine A0m ?_
      unfold Ag5
      exact hk h
    · have e : ¬ c = q := of_decide_eq_false e
      rw [if_neg e] at hk
      refine Bi (s := c :: s) (Nat.zero_lt_succ _) ?_
      rw [List.getElem_cons_zero, toNat_eq _ 92 (by decide), Bj]
      refine Ap (fun e2 => ?_) (fun e2 => ?_)
      · have e2 : ¬ c = 92 := by simpa using e2
        rw [if_neg e2] at hk
        refine Bi (s := c :: s) (Nat.zero_lt_succ _) ?_
        refine Awa (x := c) hb (by omega) fun h' hb' => ?_
        refine Fl (s := c :: s) (Nat.le_add_left 1 _) ?_
        refine Apf n s (acc ++ [c]) h' hn (by rw [List.length_append, List.length_singleton]; omega) hb' ?_
        intro h2
        have := hk h2
        rw [mm] at this; exact this
      · have e2 : c = 92 := by simpa using e2
        rw [if_pos e2] at hk
        refine Fl (s := c :: s) (Nat.le_add_left 1 _) ?_
        refine Di (Bge s (by omega)) ?_
        have hle := Afx s
        rw [Dn]
        show asI .u8 (.int .u8 (Int.ofNat (Eg s).1.toNat)) _
        rw [Bu, Du, Bu, ilt]
        refine Ap (fun e3 => ?_) (fun e3 => ?_)
        · have e3 : 0 < (Eg s).2 := of_decide_eq_true e3
          rw [if_neg (by omega)] at hk
          refine Awa hb (by omega) fun h' hb' => ?_
          have w1 : wrap .i64 (Cd (Int.ofNat 1) (Int.ofNat (Eg s).2)) = Int.ofNat (1 + (Eg s).2) := by
            rw [Ii, show Int.ofNat 1 + Int.ofNat (Eg s).2 = Int.ofNat (1 + (Eg s).2) from rfl]; exact Co (by omega)
          rw [w1, Al, Aq]
          refine Fl (s := c :: s) (by simp; omega) ?_
          have hd : (c :: s).drop (1 + (Eg s).2) = s.drop (Eg s).2 := by rw [Nat.add_comm, List.drop_succ_cons]
          rw [hd]
          refine Apf n (s.drop (Eg s).2) (acc ++ [(Eg s).1]) h' (by rw [List.length_drop]; omega) (by rw [List.length_append, List.length_singleton, List.length_drop]; omega) hb' ?_
          intro h2
          have := hk h2
          rw [mm] at this; exact this
        · have e3 : ¬ 0 < (Eg s).2 := of_decide_eq_false e3
          rw [if_pos (by omega)] at hk
          exact hk h
theorem Ail{q:UInt8}{r:List UInt8}(hr:r≠[])(h:(q::r).length-1<(q::r).length):r.getLast? =some ((q::r)[(q::r).length-1]):=by
 cases r with
 |nil=>exact absurd rfl hr
 |cons c r=>
  rw[List.getLast?_eq_getElem?]
  simp
theorem c59(s:List UInt8)(hl:s.length≤549755813888):Pure PP G h0 59 [S s] (Tl (Fj s)):=by
 refine w59 (n:=s.length+10) Bs (g59 ?_)
 unfold Amw
 refine Dt ?_
 refine Di (c60 s) ?_
 rw[Dn,Bp,Du,Bt]
 refine Fl (Xc s) ?_
 have hlt:(s.drop (Ah s).1.length).length≤s.length:=by rw[List.length_drop];omega
 have bad:∀h,Fj s=none→(r59 W1 (fun v _=>v=Tl (Fj s)) (s.length+9)).a2 h:=by
  intro h e
  refine A0m ?_
  unfold Ag5
  show AV.tuple _=_
  rw[e];rfl
 refine Jc ?_
 rw[Bj,ilt]
 refine Jp (fun e=>?_) (fun e=>?_)
 · rw[Bool.or_eq_false_iff] at e
   obtain⟨e1,e2⟩:=e
   have e1:(Ah s).2=true:=by simpa using e1
   have e2:¬(s.drop (Ah s).1.length).length<2:=of_decide_eq_false e2
   have eb:Fj s=Yb (s.drop (Ah s).1.length):=if_pos e1
   revert hlt e2 eb
   generalize s.drop (Ah s).1.length=t
   intro hlt e2 eb
   match t,hlt,e2,eb with
   |[],_,e2,_=>exact absurd (by decide) e2
   |[_],_,e2,_=>exact absurd (show 1<2 by decide) e2
   |q::c::r,hlt,_,eb=>
    have hne:(c::r)≠[]:=by simp
    have h1:1≤(q::c::r).length:=Nat.le_add_left 1 _
    have h2:(q::c::r).length-1<(q::c::r).length:=by omega
    rw[Aig h1 (by omega),Al,Aq]
    refine Bi h2 ?_
    refine Bi (s:=q::c::r) (Nat.zero_lt_succ _) ?_
    rw[List.getElem_cons_zero,Akv,Bj]
    have hlast:=Ail hne h2
    have eb:Fj s=if(c::r)=[] then none else if(c::r).getLast? =some q then Fa q ((c::r).length+1) (c::r).dropLast else none:=eb
    rw[if_neg hne,hlast] at eb
    refine Ap (fun e=>?_) (fun e=>?_)
    · have e:¬(q::c::r)[(q::c::r).length-1]=q:=by simpa using e
      rw[if_neg (fun h=>e (Option.some.inj h))] at eb
      exact bad _ eb
    · have e:(q::c::r)[(q::c::r).length-1]=q:=by simpa using e
      rw[if_pos (congrArg some e)] at eb
      rw[Al,Aq]
      refine Ti (lo:=1) (hi:=(q::c::r).length-1) (by simp) (by omega) ?_
      have hcut:((q::c::r).drop 1).take ((q::c::r).length-1-1)=(c::r).dropLast:=by
       rw[List.drop_succ_cons,List.drop_zero,List.dropLast_eq_take];rfl
      rw[hcut]
      have hbl:(c::r).dropLast.length≤s.length:=by
       rw[List.length_dropLast]
       have:(q::c::r).length=(c::r).length+1:=rfl
       omega
      have hbn:(c::r).dropLast.length<(c::r).length+1:=by rw[List.length_dropLast];omega
      revert eb hbl hbn
      generalize (c::r).length+1=N
      generalize (c::r).dropLast=bd
      intro eb hbl hbn
      have hB:=Bld.new h0
      cases bd with
      |nil=>
       refine Df rfl ?_
       refine c63 hB (.inl rfl) (Nat.zero_le _) fun h'=>?_
       rw[Bp]
       show AV.tuple _=_
       rw[eb,Lt N 1 [] hbn (by decide)];rfl
      |cons d u=>
       obtain⟨N,rfl⟩:∃N',N=N'+1:=⟨N-1,by omega⟩
       have hlen:(d::u).length=u.length+1:=rfl
       refine Cm (Ll d u) ?_
       refine Bi (s:=d::u) (Nat.zero_lt_succ _) ?_
       refine Bi (s:=q::c::r) (Nat.zero_lt_succ _) ?_
       rw[List.getElem_cons_zero,List.getElem_cons_zero,Akv]
       have eb:Fj s=if d=q then none else if d=92 then(if(Eg u).2=0 then none else(Fa q N (u.drop (Eg u).2)).map ((Eg u).1::·)) else(Fa q N u).map (d::·):=eb
       refine Ap (fun e=>?_) (fun e=>?_)
       · have e:d=q:=of_decide_eq_true e
         rw[if_pos e] at eb
         exact bad _ eb
       · have e:¬d=q:=of_decide_eq_false e
         rw[if_neg e] at eb
         refine Bi (s:=d::u) (Nat.zero_lt_succ _) ?_
         rw[List.getElem_cons_zero,toNat_eq _ 92 (by decide),Bj]
         refine Ap (fun e2=>?_) (fun e2=>?_)
         · have e2:¬d=92:=by simpa using e2
           rw[if_neg e2] at eb
           refine Bi (s:=d::u) (Nat.zero_lt_succ _) ?_
           refine Awa (x:=d) hB (by decide) fun h' hb'=>?_
           refine Fl (s:=d::u) (Nat.le_add_left 1 _) ?_
           refine Apf (s.length+9) u ([]++[d]) h' (by omega) (by simp;omega) hb' ?_
           intro h2
           rw[eb,Lt N (s.length+9) u (by omega) (by omega)];rfl
         · have e2:d=92:=by simpa using e2
           rw[if_pos e2] at eb
           refine Fl (s:=d::u) (Nat.le_add_left 1 _) ?_
           refine Di (Bge u (by omega)) ?_
           have hle:=Afx u
           rw[Dn]
           show asI .u8 (.int .u8 (Int.ofNat (Eg u).1.toNat)) _
           rw[Bu,Du,Bu]
           refine Bb4 ?_
           unfold Amv
           rw[ilt]
           refine Ap (fun e3=>?_) (fun e3=>?_)
           · have e3:0<(Eg u).2:=of_decide_eq_true e3
             rw[if_neg (by omega)] at eb
             refine Awa hB (by decide) fun h' hb'=>?_
             have w1:wrap .i64 (Cd (Int.ofNat 1) (Int.ofNat (Eg u).2))=Int.ofNat (1+(Eg u).2):=by
              rw[Ii,show Int.ofNat 1+Int.ofNat (Eg u).2=Int.ofNat (1+(Eg u).2) from rfl];exact Co (by omega)
             rw[w1,Al,Aq]
             refine Fl (s:=d::u) (by simp;omega) ?_
             have hd:(d::u).drop (1+(Eg u).2)=u.drop (Eg u).2:=by rw[Nat.add_comm,List.drop_succ_cons]
             rw[hd]
             refine Apf (s.length+8) (u.drop (Eg u).2) ([]++[(Eg u).1]) h' (by rw[List.length_drop];omega) (by rw[List.length_drop];simp;omega) hb' ?_
             intro h2
             rw[eb,Lt N (s.length+8) (u.drop (Eg u).2) (by rw[List.length_drop];omega) (by rw[List.length_drop];omega)];rfl
           · have e3:¬0<(Eg u).2:=of_decide_eq_false e3
             rw[if_pos (by omega)] at eb
             show AV.tuple _=_
             rw[eb];rfl
 · refine Df rfl ?_
   refine bad _ ?_
   rw[Bool.or_eq_true] at e
   rcases e with e|e
   · have e:¬(Ah s).2=true:=by simpa using e
     exact if_neg e
   · have e:(s.drop (Ah s).1.length).length<2:=of_decide_eq_true e
     unfold Fj
     by_cases h:(Ah s).2=true
     · rw[if_pos h]
       revert e
       generalize s.drop (Ah s).1.length=t
       intro e
       match t,e with
       |[],_=>rfl
       |[_],_=>rfl
       |_::_::_,e=>exact absurd e (by simp)
     · exact if_neg h
end Go.Den
