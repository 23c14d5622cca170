/-
 Proof.
-/
import Derived.Test.YtcnmehbkpaoolaaGreatDoorLex7
import Derived.Lib.MakeNoZero
noncomputable section
namespace Go.Den
open Go.RowKit
set_option maxRecDepth 100000
theorem Bkq{n:Nat}(hn:n≤1099511627776){h:H}{k:KV}(hk:k (.slice h.next 0 n 1 false) (h.new (.row .e 0 0 TB false))):W1 (.func 290) [.int .i64 (Int.ofNat n)] h k:=by
 intro μ w fn' vargs s gl hfn hv
 have hfn':fn'=.func 290:=by cases fn'<;>simp only[FnR] at hfn<;>first|(cases hfn;rfl)|cases hfn
 obtain⟨v,vs,e,h1,h2⟩:=hv
 have h2:vs=[]:=h2
 have h1:v=.int .i64 (Int.ofNat n):=h1
 subst h2 h1
 have hva:vargs=#[.int .i64 (Int.ofNat n)]:=by apply Array.ext';simpa using e
 subst hva
 obtain⟨cs,hr,hle,_⟩:=Lib.run_makeNoZero (P:=PP) w #[3] 115 TB Proofs.Tryz.underlying115 n (by omega)
 have hrun:(callFunc 290 #[.int .i64 (Int.ofNat n)]).run PP w=.ok (.value (.slice (some ⟨w.heap.size,0,none⟩) n cs.size)) (w.drew.drew.alloc (.cells cs TB)):=by
  rw[run_callFunc_extern (e:=Extern.BytealgMakeNoZero.makeNoZero #[3] #[115]) Proofs.Tryz.func290 (by kernel_rfl) (by kernel_rfl) (by kernel_rfl) (by kernel_rfl)]
  rw[show(Extern.BytealgMakeNoZero.makeNoZero #[3] #[115] #[.int .i64 (Int.ofNat n)]).run PP w=_ from hr]
  rfl
 obtain⟨s1,x1⟩:=Sim.alloc (s.heap (w':=w.drew.drew) rfl) (.row .e 0 0 TB false) (.cells cs TB) cs.size 0 (fun μ' _=>by
  refine⟨_,_,Fb w.drew.drew _,⟨rfl,by show 0+0≤cs.size;omega,fun j hj=>absurd hj (Nat.not_lt_zero _)⟩,(fun e=>nomatch e),fun _ i _ hi=>?_⟩
  intro hh
  omega)
 refine .inl ⟨290,hfn',.inl ⟨_,_,_,_,_,hrun,s1,(Cw.heap μ h (w:=w) (w':=w.drew.drew) rfl rfl rfl rfl).trans x1,?_,hk⟩⟩
 refine⟨_,_,rfl,hle,⟨(fun e=>nomatch e),_,Mu.Cm _ _ _⟩,.inr ⟨_,Mu.Cm _ _ _,rfl,?_⟩⟩
 show 0+0+cs.size*1≤cs.size
 omega
theorem Azk(x:AV)(h:H):Cb env .cap [115] [x] h=Akl x h:=by kernel_rfl
theorem Bkm(x y:AV)(h:H):Cb env .copy [115,115] [x,y] h=Vw x y h TB ei8:=by kernel_rfl
theorem Biu(b:P)(n:Nat)(h:H):slice3 env h 115 (.slice b 0 n 1 false) none (some (Bt (.int .i64 (Int.ofNat 0)))) none=Fi h (Aad b 0 n 1 false 0 0 none):=by kernel_rfl
theorem Bks{h:H}{b:P}{t:Tm}{n:Nat}{k:KV}(ha:h.at b=.row t 2 0 149 true)(hb:b.nat<h.next.nat)(h0:Co t 0=.ptr b 0)(h1:Co t 1=.Cy)(hn:n≤1099511627776)(hk:∀h',Bld true h' b []→k (.tuple []) h'):W1 (.func 258) [.ptr b 0,.int .i64 (Int.ofNat n)] h k:=by
 refine A84 (n:=1) Bw (Bjb ?_)
 unfold Ac2
 rw[Al,Ac,Hi]
 refine Jk ha (by decide) ?_
 rw[h1,Azk,show(Akl AV.Cy h:Option (AV×H))=some (.int .i64 (Int.ofNat 0),h) from rfl,Ac,Au,Ak,Ak]
 have e1:wrap .i64 (Cl (wrap .i64 (Int.ofNat 2*Int.ofNat 0)) (Int.ofNat n))=Int.ofNat n:=by
  rw[show wrap .i64 (Int.ofNat 2*Int.ofNat 0)=Int.ofNat 0 by kernel_rfl,Js,show Int.ofNat 0+Int.ofNat n=Int.ofNat n by show(0:Int)+(n:Int)=(n:Int);omega]
  exact Cv (by omega)
 rw[e1,Al,Ac,Hi]
 refine Jk ha (by decide) ?_
 rw[h1]
 refine Bkq hn ?_
 have ha1:(h.new (.row .e 0 0 TB false)).at b=.row t 2 0 149 true:=by rw[Gw hb];exact ha
 refine Jk ha1 (by decide) ?_
 rw[h1,Atr,Biu]
 have e2:(Fi (h.new (.row .e 0 0 TB false)) (Aad h.next 0 n 1 false 0 0 none):Option (AV×H))=some (.slice h.next 0 0 1 false,h.new (.row .e 0 0 TB false)):=by
  cases n<;>rfl
 rw[e2,Ac,Al,Ac,Hi]
 refine Jk ha1 (by decide) ?_
 rw[h1,Bkm]
 have e3:∃h3,(Vw (.slice h.next 0 0 1 false) .Cy (h.new (.row .e 0 0 TB false)) TB ei8:Option (AV×H))=some (.int .i64 (Int.ofNat 0),h3)∧h3=(h.new (.row .e 0 0 TB false)).put h.next (.row .e 0 0 TB false):=by
  refine⟨_,?_,rfl⟩
  show(Ae9 0 ((h.new (.row .e 0 0 TB false)).write h.next 0 []):Option (AV×H))=_
  have:(h.new (.row .e 0 0 TB false)).write h.next 0 []=some ((h.new (.row .e 0 0 TB false)).put h.next (.row .e 0 0 TB false)):=by
   unfold Hp.write Hp.Gr
   rw[Bs]
   show(h.new (.row .e 0 0 TB false)).Sa h.next (.row .e 0 0 TB false) some=_
   rw[Nt]
  rw[this];rfl
 obtain⟨h3,e3,e4⟩:=e3
 rw[e3,Ac,Au,Al,Ac,Hi]
 have hbn:b≠h.next:=fun e=>by subst e;exact absurd hb (Nat.lt_irrefl _)
 have a3:h3.at b=.row t 2 0 149 true:=by rw[e4,Lm hbn];exact ha1
 have n3:h3.next.nat=h.next.nat+1:=by rw[e4];exact Aw (o:=.row .e 0 0 TB false)
 refine Bld.fin (g:=true) (l:=[]) a3 (by omega) h0 (.inr ⟨h.next,.e,0,0,false,rfl,by omega,by rw[e4,Dd],Nat.le_refl _,Nat.le_refl _,fun i hi=>absurd hi (Nat.not_lt_zero _),.inl rfl⟩) fun h' hb'=>hk h' hb'
theorem Bkv{h:H}{n:Nat}{k:KV}(hn1:1≤n)(hn:n≤1099511627776)(hk:∀h',Bld true h' h.next []→k (.tuple []) h'):W1 (.func 208) [.ptr h.next 0,.int .i64 (Int.ofNat n)] (h.new Am3) k:=by
 refine A9a (n:=2) Bw (Bjh ?_)
 unfold Ada
 refine A8g (t:=Bg [.Gk,.Cy] 0 .e) (Bs _ _) (.inl (by kernel_rfl)) fun h1 t1 a1 p1 q1 n1 f1=>?_
 have q1:Co t1 1=.Cy:=q1
 refine Ca (by rw[Ff];exact decide_eq_false (by show¬((n:Int)<((0:Nat):Int));omega)) ?_
 refine A4t ?_
 unfold Ac9
 rw[Al,Ac,Hi]
 refine Jk a1 (by decide) ?_
 rw[q1,Azk,show(Akl AV.Cy h1:Option (AV×H))=some (.int .i64 (Int.ofNat 0),h1) from rfl,Ac,Au,Al,Ac,Hi]
 refine Jk a1 (by decide) ?_
 rw[q1,Ao8,show wrap .i64 (Gl (Int.ofNat 0) (Int.ofNat 0))=Int.ofNat 0 by kernel_rfl,Ak]
 refine Bz (by rw[Ff];exact decide_eq_true (by show((0:Nat):Int)<(n:Int);omega)) ?_
 exact Bks a1 (by rw[n1,Aw];omega) p1 q1 hn fun h' hb'=>hk h' hb'
def isU(x:UInt8):Bool:=decide (65≤x.toNat)&&decide (x.toNat≤90)
def Ahx(x:UInt8):UInt8:=if isU x then x+32 else x
def Ji(s:List UInt8):List UInt8:=s.map Ahx
theorem Ahw{s:List UInt8}(h:s.any isU=false):Ji s=s:=by
 unfold Ji
 rw[List.any_eq_false] at h
 conv=>rhs;rw[←List.map_id s]
 apply List.map_congr_left
 intro x hx
 have:=h x hx
 unfold Ahx
 rw[if_neg this];rfl
theorem Ho{i:Nat}(h:i<9223372036854775807):wrap .i64 (Cl (Int.ofNat i) (Int.ofNat 1))=Int.ofNat (i+1):=by
 rw[Js,show Int.ofNat i+Int.ofNat 1=Int.ofNat (i+1) from rfl]
 exact Cv (by omega)
theorem upK{x:UInt8}{h:H}{k:Bool→H→Prop}(hk:k (isU x) h):Ar (fun k6=>gate true (Er (Int.ofNat 65) (Int.ofNat x.toNat)) (k6 (Er (Int.ofNat x.toNat) (Int.ofNat 90)) h) (k6 false h)) k:=by
 refine Qm ?_
 have:(Er (Int.ofNat 65) (Int.ofNat x.toNat)&&Er (Int.ofNat x.toNat) (Int.ofNat 90))=isU x:=by
  rw[Iz,Iz];unfold isU
  congr 1<;>(rw[Bool.eq_iff_iff,decide_eq_true_eq,decide_eq_true_eq];exact Int.ofNat_le)
 rw[this];exact hk
def ascii(s:List UInt8):Prop:=∀x∈s,x.toNat<128
theorem Auq{s:List UInt8}{k:KV}{e:Nat}(hs:ascii s)(hl:s.length≤1099511627776):∀(n i:Nat)(u:Bool),s.length-i+e+1≤n→i≤s.length→(∀n',e≤n'→(Ns W1 k n').a5 s.length (enc s) true (u||(s.drop i).any isU) h0)→(Ns W1 k n).a1 s.length (enc s) true u (Int.ofNat i) h0
 |0,_,_,hn,_,_=>absurd hn (by omega)
 |n+1,i,u,hn,hi,hk=>by
  refine A45 ?_
  unfold Ad0
  rw[Ff]
  refine Ap (fun e'=>?_) (fun e'=>?_)
  · have e':i<s.length:=Int.ofNat_lt.1 (of_decide_eq_true e')
    rw[Bh]
    refine Cj e' ?_
    have hx:(s[i]).toNat<128:=hs _ (List.getElem_mem e')
    refine Ca (by rw[Iz];exact decide_eq_false fun h=>by have:=Int.ofNat_le.1 h;omega) ?_
    have hd:s.drop i=s[i]::s.drop (i+1):=List.drop_eq_getElem_cons e'
    refine Mc (b:=isU s[i]) (fun k' hk'=>upK hk') ?_
    rw[Ho (by omega),Ak]
    refine Auq (e:=e) hs hl n (i+1) _ (by omega) e' ?_
    intro n' hn'
    have:=hk n' hn'
    rw[hd,List.any_cons,←Bool.or_assoc] at this
    exact this
  · have e':¬i<s.length:=fun h=>(of_decide_eq_false e') (Int.ofNat_lt.2 h)
    have hd:s.drop i=[]:=by rw[List.drop_eq_nil_iff];omega
    have:=hk n (by omega)
    rw[hd] at this
    simpa using this
theorem A0l{x:UInt8}(h:isU x=true):wrap .u8 (Cl (Int.ofNat x.toNat) (Int.ofNat 32))=Int.ofNat (Ahx x).toNat:=by
 unfold Ahx
 rw[if_pos h]
 have hx:x.toNat≤90:=by unfold isU at h;simp at h;exact h.2
 have:(x+32).toNat=x.toNat+32:=by
  rw[UInt8.toNat_add];show(x.toNat+32)%256=_;omega
 rw[this,Js,Dv]
 show IntKind.wrap .u8 ((x.toNat+32:Nat):Int)=((x.toNat+32:Nat):Int)
 simp[IntKind.wrap,IntKind.bits,IntKind.signed]
 omega
theorem Ahv{s:List UInt8}{p i:Nat}(hp:p≤i)(h:((s.drop p).take (i-p)).any isU=false):Ji (s.take i)=Ji (s.take p)++(s.drop p).take (i-p):=by
 have e:s.take i=s.take p++(s.drop p).take (i-p):=by
  have:=List.take_add (l:=s) (i:=p) (j:=i-p)
  rw[show p+(i-p)=i by omega] at this;exact this
 rw[e]
 unfold Ji
 rw[List.map_append]
 congr 1
 exact Ahw h
theorem Akp{s:List UInt8}{k:KV}{b:P}(hl:s.length≤1099511627776)(hne:s≠[])(hk:∀h,k (S (Ji s)) h):∀(n i p:Nat)(g:Bool)(h:H),3*(s.length-i)+1≤n→i≤s.length→p≤i→((s.drop p).take (i-p)).any isU=false→Bld g h b (Ji (s.take p))→(Ns W1 k n).a2 s.length (enc s) (.ptr b 0) (Int.ofNat p) (Int.ofNat i) h
 |0,_,_,_,_,hn,_,_,_,_=>absurd hn (by omega)
 |n+1,i,p,g,h,hn,hi,hp,ha,hb=>by
  refine A44 ?_
  unfold Adz
  rw[Ff]
  refine Ap (fun e'=>?_) (fun e'=>?_)
  · have e':i<s.length:=Int.ofNat_lt.1 (of_decide_eq_true e')
    have htk:s.take (i+1)=s.take i++[s[i]]:=by rw[List.take_add_one,List.getElem?_eq_getElem e'];rfl
    rw[Bh]
    refine Cj e' ?_
    refine upK ?_
    refine Ap (fun eu=>?_) (fun eu=>?_)
    · rw[A0l eu,Ak]
      have step:∀g' h',Bld g' h' b (Ji (s.take i))→(Ns W1 k n).a3 s.length (enc s) (.ptr b 0) (Int.ofNat i) (Int.ofNat (Ahx s[i]).toNat) h':=by
       intro g' h' hb'
       obtain⟨m,rfl⟩:∃m,n=m+2:=⟨n-2,by omega⟩
       refine A43 ?_
       unfold Ady
       refine Auw hb' (by unfold Ji;rw[List.length_map,List.length_take];omega) fun h2 hb2=>?_
       rw[Ho (by omega),Ak]
       refine Asr ?_
       unfold Ys
       rw[Ho (by omega),Ak]
       refine Akp hl hne hk m (i+1) (i+1) false h2 (by omega) e' (Nat.le_refl _) (by simp) ?_
       rw[htk];unfold Ji at hb2 ⊢;rw[List.map_append];exact hb2
      rw[Ff]
      refine Ap (fun e2=>?_) (fun e2=>?_)
      · have e2:p<i:=Int.ofNat_lt.1 (of_decide_eq_true e2)
        rw[Bh,Bh]
        refine Tj hp (by omega) ?_
        refine c61 hb (fun h=>?_) ?_ fun v h' hb'=>?_
        · have:=congrArg List.length h
          simp at this;omega
        · unfold Ji;rw[List.length_map,List.length_take,List.length_take,List.length_drop];omega
        · refine step false h' ?_
          rw[Ahv hp ha];exact hb'
      · have e2:p=i:=by
         have:¬p<i:=fun h=>(of_decide_eq_false e2) (Int.ofNat_lt.2 h)
         omega
        subst e2
        exact step g h hb
    · obtain⟨m,rfl⟩:∃m,n=m+1:=⟨n-1,by omega⟩
      refine Asr ?_
      unfold Ys
      rw[Ho (by omega),Ak]
      refine Akp hl hne hk m (i+1) p g h (by omega) e' (by omega) ?_ hb
      have e3:(s.drop p).take (i+1-p)=(s.drop p).take (i-p)++[s[i]]:=by
       rw[show i+1-p=(i-p)+1 by omega,List.take_add_one,List.getElem?_drop,show p+(i-p)=i by omega,List.getElem?_eq_getElem e'];rfl
      rw[e3,List.any_append,ha];simp[eu]
  · have e':i=s.length:=by
     have:¬i<s.length:=fun h=>(of_decide_eq_false e') (Int.ofNat_lt.2 h)
     omega
    subst e'
    have hlow:Ji s=Ji (s.take p)++(s.drop p).take (s.length-p):=by
     have:=Ahv hp ha
     rw[List.take_length] at this;exact this
    have hlne:Ji s≠[]:=by unfold Ji;simpa using hne
    have hll:(Ji s).length≤9223372036854775807:=by unfold Ji;rw[List.length_map];omega
    rw[Ff]
    refine Ap (fun e2=>?_) (fun e2=>?_)
    · have e2:p<s.length:=Int.ofNat_lt.1 (of_decide_eq_true e2)
      rw[Bh]
      refine Tj hp (Nat.le_refl _) ?_
      refine c61 hb (fun h=>?_) ?_ fun v h' hb'=>?_
      · have:=congrArg List.length h
        simp at this;omega
      · unfold Ji;rw[List.length_map,List.length_take,List.length_take,List.length_drop];omega
      · rw[←hlow] at hb'
        refine c63 hb' (.inr hlne) hll fun h2=>?_
        rw[De];exact hk h2
    · have e2:p=s.length:=by
       have:¬p<s.length:=fun h=>(of_decide_eq_false e2) (Int.ofNat_lt.2 h)
       omega
      subst e2
      rw[List.take_length] at hb
      refine c63 hb (.inr hlne) hll fun h2=>?_
      rw[De];exact hk h2
theorem Bk7(s:List UInt8)(hs:ascii s)(hl:s.length≤1099511627776):Pure PP G h0 161 [S s] (S (Ji s)):=by
 refine A9n (n:=4*s.length+10) Bw (Bjv ?_)
 unfold Ad1
 refine Auq (e:=3*s.length+2) hs hl _ 0 false (by omega) (Nat.zero_le _) ?_
 intro n' hn'
 rw[List.drop_zero,Bool.false_or]
 obtain⟨m,rfl⟩:∃m,n'=m+1:=⟨n'-1,by omega⟩
 refine A42 ?_
 unfold Adx
 refine Bz rfl ?_
 refine Ap (fun e=>?_) (fun e=>?_)
 · rw[Bj] at e
   have e:s.any isU=false:=by simpa using e
   rw[Ahw e]
 · rw[Bj] at e
   have e:s.any isU=true:=by simpa using e
   have hne:s≠[]:=fun h=>by subst h;cases e
   have hpos:1≤s.length:=by
    cases s with
    |nil=>exact absurd rfl hne
    |cons _ _=>simp
   refine Bo ?_
   refine Bkv hpos hl fun h' hb'=>?_
   refine Akp hl hne (fun _=>rfl) m 0 0 true h' (by omega) (Nat.zero_le _) (Nat.le_refl _) (by simp) ?_
   exact hb'
theorem Bk6(L:List UInt8)(x:UInt8)(hx:x.toNat<128):Pure PP G h0 162 [S L,.int .i32 (Int.ofNat x.toNat)] (.int .i64 (Ww L x)):=by
 refine A9m (n:=1) Bw (Bju ?_)
 unfold Adw
 refine Qm ?_
 have e1:(Er (Int.ofNat 0) (Int.ofNat x.toNat)&&Cs (Int.ofNat x.toNat) (Int.ofNat 128))=true:=by
  rw[ile,ilt,decide_eq_true (Nat.zero_le _),decide_eq_true hx];rfl
 refine Bz e1 ?_
 have e2:wrap .u8 (Int.ofNat x.toNat)=Int.ofNat x.toNat:=by
  rw[Dv]
  simp[IntKind.wrap,IntKind.bits,IntKind.signed]
  omega
 rw[e2,Ak]
 refine Dh (Bfk L x) ?_
 rw[Au]
def Ao5:List UInt8:=[48,49,50,51,52,53,54,55,56,57,97,98,99,100,101,102]
def Afr(c:UInt8):Nat:=if c.toNat≤57 then c.toNat-48 else c.toNat-87
theorem Axy:∀x∈Ao5,Ww Ex x=Int.ofNat (Afr x):=by
 intro x hx
 simp only[Ao5,List.mem_cons,List.not_mem_nil,or_false] at hx
 rcases hx with rfl|rfl|rfl|rfl|rfl|rfl|rfl|rfl|rfl|rfl|rfl|rfl|rfl|rfl|rfl|rfl<;>kernel_rfl
theorem A72:∀x∈Ao5,Afr x≤15:=by decide
theorem Axb:∀x∈Ex,Ahx x∈Ao5:=by decide
theorem Asd:∀x∈Ao5,x.toNat<128:=by decide
theorem Axk:∀x∈Ex,x.toNat<128:=by decide
theorem Am1:∀x∈Pg,x∈Ex:=by decide
def Agk(B v:Nat)(ds:List UInt8):Nat:=ds.foldl (fun v c=>(v*B+Afr c)&&&4095) v
def Jl:List UInt8:=[39,34,63,92,97,98,102,110,114,116,118]
def Tg:List UInt8:=[39,34,63,92,7,8,12,10,13,9,11]
def Mi(x:UInt8):Option UInt8:=
 if x=39 then some 39 else if x=34 then some 34 else if x=63 then some 63 else if x=92 then some 92 else if x=97 then some 7 else if x=98 then some 8
 else if x=102 then some 12 else if x=110 then some 10 else if x=114 then some 13 else if x=116 then some 9 else if x=118 then some 11 else none
theorem Awo:∀x∈Jl,∃i y,Ww Jl x=Int.ofNat i∧Mi x=some y∧∃h:i<Tg.length,Tg[i]=y:=by
 intro x hx
 simp only[Jl,List.mem_cons,List.not_mem_nil,or_false] at hx
 rcases hx with rfl|rfl|rfl|rfl|rfl|rfl|rfl|rfl|rfl|rfl|rfl
 · exact⟨0,_,by kernel_rfl,rfl,by decide,rfl⟩
 · exact⟨1,_,by kernel_rfl,rfl,by decide,rfl⟩
 · exact⟨2,_,by kernel_rfl,rfl,by decide,rfl⟩
 · exact⟨3,_,by kernel_rfl,rfl,by decide,rfl⟩
 · exact⟨4,_,by kernel_rfl,rfl,by decide,rfl⟩
 · exact⟨5,_,by kernel_rfl,rfl,by decide,rfl⟩
 · exact⟨6,_,by kernel_rfl,rfl,by decide,rfl⟩
 · exact⟨7,_,by kernel_rfl,rfl,by decide,rfl⟩
 · exact⟨8,_,by kernel_rfl,rfl,by decide,rfl⟩
 · exact⟨9,_,by kernel_rfl,rfl,by decide,rfl⟩
 · exact⟨10,_,by kernel_rfl,rfl,by decide,rfl⟩
theorem Agp{x:UInt8}(h:x∉Jl):Mi x=none:=by
 simp[Jl] at h
 obtain⟨h1,h2,h3,h4,h5,h6,h7,h8,h9,h10,h11⟩:=h
 unfold Mi
 rw[if_neg h1,if_neg h2,if_neg h3,if_neg h4,if_neg h5,if_neg h6,if_neg h7,if_neg h8,if_neg h9,if_neg h10,if_neg h11]
def Sb(s:List UInt8)(n f B:Nat):UInt8×Nat:=if n≤f then(0,0) else(UInt8.ofNat (Agk B 0 (Ji ((s.drop f).take (n-f)))),n)
def Du(s:List UInt8):UInt8×Nat:=match s with
 |[]=>(0,0)
 |c::r=>match Mi c with
  |some y=>(y,1)
  |none=>if c=120 then Sb (c::r) (1+Cp r Ex) 1 16 else Sb (c::r) (min (Cp (c::r) Pg) 3) 0 8
theorem A4r{a b:Nat}{K:Int→Prop}(ha:a≤9223372036854775807)(hb:b≤9223372036854775807)(hk:K (Int.ofNat (a&&&b))):Ll Nat.land .i64 (Int.ofNat a) (Int.ofNat b) K:=by
 show(Bool.rec False (fN (Nat.land a b) (fun n=>K (.ofNat n))) (An (Nat.ble a (intMax .i64)) (Nat.ble b (intMax .i64))):Prop)
 rw[Nat.ble_eq_true_of_le (show a≤intMax .i64 from ha),Nat.ble_eq_true_of_le (show b≤intMax .i64 from hb)]
 exact hk
theorem A4g{h:H}{p:P}{s:List UInt8}{i:Nat}(ha:h.at p=.iter s.length (enc s) i):Te (.ptr p 0) true h=Nw p s.length (enc s) i h:=by
 unfold Te
 simp only[ha]
 rfl
theorem Bix(l c:Nat)(h:H):Oj env 9 (.str l c) h=some (.ptr h.next 0,h.new (.iter l c 0)):=by kernel_rfl
theorem wrap_u8(n:Nat):wrap .u8 (Int.ofNat n)=Int.ofNat (UInt8.ofNat n).toNat:=by
 rw[Dv]
 have:(UInt8.ofNat n).toNat=n%256:=by simp
 rw[this]
 simp[IntKind.wrap,IntKind.bits,IntKind.signed]
theorem Auv {ds : List UInt8} {B n5 : Nat} {p : P} {k : KV} (hds : ∀ x ∈ ds, x ∈ Ao5) (hB : B ≤ 16) : ∀ (n i v : Nat) (h : H), ds.length - i < n → i ≤ ds.length → v ≤ 4095 → h.at p = .iter ds.length (enc ds) i →
    (∀ h', k (.tuple [ub (UInt8.ofNat (Agk B v (ds.drop i))), .int .i64 (Int.ofNat n5)]) h') → (Yz W1 k n).a1 (Int.ofNat n5) (Int.ofNat B) (Int.ofNat v) (.ptr p 0) h
  | 0, _, _, _, hn, _, _, _, _ => absurd hn (Nat.not_lt_zero _)
  | n + 1, i, v, h, hn, hi, hv, ha, hk => by
    refine A5h ?_
    unfold Aes
    rw [A4g ha]
    by_cases e : i < ds.length
    · have hd : ds.drop i = ds[i] :: ds.drop (i + 1) := List.drop_eq_getElem_cons e
      have hx := hds _ (List.getElem_mem e)
      have hx1 := Asd _ hx
      have e1 : Nw p ds.length (enc ds) i h = some (.tuple [.bool true, .int .i64 (.ofNat i), .int .i32 (.ofNat (ds[i]).toNat)], h.put p (.iter ds.length (enc ds) (Nat.add i 1))) := by
        unfold Nw
        rw [Nat.ble_eq_true_of_le (show Nat.add i 1 ≤ ds.length from e), Anj e]
        have : Nat.ble 128 (ds[i]).toNat = false := by
          cases hb : Nat.ble 128 (ds[i]).toNat with
          | false => rfl
          | true => exact absurd (Nat.le_of_ble_eq_true hb) (by omega)
        rw [this]
      rw [e1, Ac, Eb, Av]
      refine Bz rfl ?_
      rw [Aie, Au]
      have hdl := A72 _ hx
      have hm : v * B ≤ 4095 * 16 := Nat.mul_le_mul hv hB
      have w1 : wrap .i64 (Int.ofNat v * Int.ofNat B) = Int.ofNat (v * B) := by
        rw [show Int.ofNat v * Int.ofNat B = Int.ofNat (v * B) from rfl]; exact Cv (by omega)
      rw [w1, Ak]
      refine Dh (Bk6 Ex ds[i] hx1) ?_
      rw [Au, Axy _ hx]
      have w2 : wrap .i64 (Cl (Int.ofNat (v * B)) (Int.ofNat (Afr ds[i]))) = Int.ofNat (v * B + Afr ds[i]) := by
        rw [Js, show Int.ofNat (v * B) + Int.ofNat (Afr ds[i]) = Int.ofNat (v * B + Afr ds[i]) from rfl]; exact Cv (by omega)
      rw [w2, Ak]
      refine A4r (by omega) (by omega) ?_
      refine Auv hds hB n (i + 1) _ _ (by omega) e Nat.and_le_right (Dd _ _ _) ?_
      rw [hd] at hk
      exact hk
    · have hd : ds.drop i = [] := by rw [List.drop_eq_nil_iff]; omega
      have e1 : Nw p ds.length (enc ds) i h = some (.tuple [.bool false], h) := by
        unfold Nw
        have : Nat.ble (Nat.add i 1) ds.length = false := by
          cases hb : Nat.ble (Nat.add i 1) ds.length with
          | false => rfl
          | true => exact absurd (Nat.le_of_ble_eq_true hb) (by show ¬ i + 1 ≤ _; omega)
        rw [this]
      rw [e1, Ac, Eb, Av]
      refine Ca rfl ?_
      rw [wrap_u8, Ak]
      rw [hd] at hk
      exact hk h
theorem Auu{s:List UInt8}{n f B m:Nat}{k:KV}(hl:s.length≤1099511627776)(hn:n≤s.length)(hd:∀x∈(s.drop f).take (n-f),x∈Ex)(hB:B≤16)(hm:s.length+2≤m)
 (hk:∀h',k (.tuple [ub (Sb s n f B).1,.int .i64 (Int.ofNat (Sb s n f B).2)]) h'):(Yz W1 k (m+1)).a2 s.length (enc s) (Int.ofNat n) (Int.ofNat B) (Int.ofNat f) h0:=by
 refine A5g ?_
 unfold Aer
 rw[Iz]
 unfold Sb at hk
 refine Ap (fun e=>?_) (fun e=>?_)
 · have e:n≤f:=Int.ofNat_le.1 (of_decide_eq_true e)
   rw[if_pos e] at hk;exact hk _
 · have e:¬n≤f:=fun h=>(of_decide_eq_false e) (Int.ofNat_le.2 h)
   rw[if_neg e] at hk
   rw[Bh,Bh]
   refine Tj (by omega) hn ?_
   have ll:((s.drop f).take (n-f)).length≤s.length:=by rw[List.length_take,List.length_drop];omega
   refine Dh (Bk7 _ (fun x hx=>Axk x (hd x hx)) (by omega)) ?_
   rw[De,Bix,Ac]
   have l2:(Ji ((s.drop f).take (n-f))).length≤s.length:=by unfold Ji;rw[List.length_map];exact ll
   refine Auv (fun x hx=>?_) hB _ 0 0 _ (by omega) (Nat.zero_le _) (Nat.zero_le _) (Bs _ _) ?_
   · obtain⟨y,hy,rfl⟩:=List.mem_map.1 hx
     exact Axb y (hd y hy)
   · rw[List.drop_zero];exact hk
theorem Aqj(s set:List UInt8):s.take (Cp s set)=s.takeWhile (·∈set):=(List.prefix_iff_eq_take.1 (List.takeWhile_prefix _)).symm
theorem Ra{s set:List UInt8}{x:UInt8}{n:Nat}(hn:n≤Cp s set)(hx:x∈s.take n):x∈set:=by
 have h1:x∈s.take (Cp s set):=List.take_subset_take_left _ hn hx
 rw[Aqj] at h1
 have:=List.all_eq_true.1 List.all_takeWhile x h1
 simpa using this
theorem Bca(n:Nat)(h:H):Cb env .min [3,3] [.int .i64 (Int.ofNat n),.int .i64 (Int.ofNat 3)] h=some (.int .i64 (Int.ofNat (min n 3)),h):=by
 have e:Cb env .min [3,3] [.int .i64 (Int.ofNat n),.int .i64 (Int.ofNat 3)] h=some (.int .i64 (Bool.rec (Int.ofNat n) (Int.ofNat 3) (Cs (Int.ofNat 3) (Int.ofNat n))),h):=by kernel_rfl
 rw[e,ilt]
 by_cases hc:3<n
 · rw[decide_eq_true hc,Nat.min_eq_right (by omega)]
 · rw[decide_eq_false hc,Nat.min_eq_left (by omega)]
theorem Bfo(s:List UInt8)(hl:s.length≤1099511627776):Pure PP G h0 108 [S s] (.tuple [ub (Du s).1,.int .i64 (Int.ofNat (Du s).2)]):=by
 refine A92 (n:=s.length+10) Bw (Bkc ?_)
 unfold Aet
 cases s with
 |nil=>exact Bz rfl rfl
 |cons c r=>
  refine Ca (Nn c r) ?_
  refine Cj (s:=c::r) (Nat.zero_lt_succ _) ?_
  refine Dh (Bfk Jl c) ?_
  rw[Au,Iz]
  by_cases hin:c∈Jl
  · obtain⟨i,y,e1,e2,e3,e4⟩:=Awo c hin
    have ee:Du (c::r)=(y,1):=by show(match Mi c with|some y=>(y,1)|none=>_)=_;rw[e2]
    show cnd (decide (Int.ofNat 0≤Ww Jl c)) _ _
    rw[e1]
    refine Bz (decide_eq_true (Int.ofNat_le.2 (Nat.zero_le _))) ?_
    rw[Bh]
    refine Cj (s:=Tg) e3 ?_
    show AV.tuple [_,_]=AV.tuple [_,_]
    rw[ee,e4];rfl
  · have hneg:Ww Jl c<0:=(Arv Jl c).2 hin
    have es:=Agp hin
    refine Ca (decide_eq_false fun h=>by have:(0:Int)≤Ww Jl c:=h;omega) ?_
    refine Dh (A8e Ar3 (by decide) (c::r) (by omega)) ?_
    rw[Au,Bca,Ac,Au]
    refine Cj (s:=c::r) (Nat.zero_lt_succ _) ?_
    rw[toNat_eq _ 120 (by decide)]
    have hlr:r.length≤1099511627776:=by simp at hl;omega
    refine Ap (fun e=>?_) (fun e=>?_)
    · have e:c=120:=of_decide_eq_true e
      refine Ii (s:=c::r) (Nat.le_add_left 1 _) ?_
      refine Dh (A8e As7 (by decide) r (by omega)) ?_
      have hr:=Kr r Ex
      have w1:wrap .i64 (Cl (Int.ofNat 1) (Int.ofNat (Cp r Ex)))=Int.ofNat (1+Cp r Ex):=by
       rw[Js,show Int.ofNat 1+Int.ofNat (Cp r Ex)=Int.ofNat (1+Cp r Ex) from rfl];exact Cv (by omega)
      rw[Au,w1,Ak]
      refine Auu (s:=c::r) (n:=1+Cp r Ex) (f:=1) (B:=16) hl (by simp;omega) (fun x hx=>?_) (Nat.le_refl _) (by omega) fun h'=>?_
      · rw[List.drop_succ_cons,List.drop_zero,show 1+Cp r Ex-1=Cp r Ex by omega] at hx
        exact Ra (Nat.le_refl _) hx
      · have ee:Du (c::r)=Sb (c::r) (1+Cp r Ex) 1 16:=by
         show(match Mi c with|some y=>(y,1)|none=>_)=_
         rw[es];exact if_pos e
        rw[ee]
    · have e:¬c=120:=of_decide_eq_false e
      have hr:=Kr (c::r) Pg
      refine Auu (s:=c::r) (n:=min (Cp (c::r) Pg) 3) (f:=0) (B:=8) hl (by omega) (fun x hx=>?_) (by decide) (by omega) fun h'=>?_
      · rw[List.drop_zero,Nat.sub_zero] at hx
        exact Am1 x (Ra (Nat.min_le_left _ _) hx)
      · have ee:Du (c::r)=Sb (c::r) (min (Cp (c::r) Pg) 3) 0 8:=by
         show(match Mi c with|some y=>(y,1)|none=>_)=_
         rw[es];exact if_neg e
        rw[ee]
theorem Afl(s:List UInt8):(Du s).2≤s.length:=by
 cases s with
 |nil=>exact Nat.le_refl _
 |cons c r=>
  show(match Mi c with|some y=>(y,1)|none=>if c=120 then Sb (c::r) (1+Cp r Ex) 1 16 else Sb (c::r) (min (Cp (c::r) Pg) 3) 0 8:UInt8×Nat).2≤_
  have key:∀n f B,n≤(c::r).length→(Sb (c::r) n f B).2≤(c::r).length:=by
   intro n f B hn
   unfold Sb
   split
   · exact Nat.zero_le _
   · exact hn
  cases Mi c with
  |some y=>exact Nat.le_add_left 1 _
  |none=>
   have h1:=Kr r Ex
   have h2:=Kr (c::r) Pg
   show(if c=120 then _ else _:UInt8×Nat).2≤_
   split
   · exact key _ _ _ (by simp;omega)
   · exact key _ _ _ (by omega)
def Gn:List UInt8→Bool
 |[]=>false
 |c::_=>decide (c=34)||decide (c=39)
def Dc:List (List UInt8):=[[],[76],[117],[85],[117,56]]
def Ci:List (List UInt8)→List UInt8→List UInt8×Bool
 |[],_=>([],false)
 |s::ss,text=>if(decide (text.take s.length=s)&&Gn (text.drop s.length)) then(s,true) else Ci ss text
def Bf(text:List UInt8):List UInt8×Bool:=Ci Dc text
def T5b:Tm:=Option.rec .e (fun t=>t) (Jb (Gt 1) 5 [(0,.str 0 0),(1,.str 1 76),(2,.str 1 117),(3,.str 1 85),(4,.str 2 14453)] (Bg (He [.str 0 0] 5) 0 .e))
theorem b5b(h:H):Ao env 44 (fun e ei=>Ai 5 [(0,(.str 0 0)),(1,(.str 1 76)),(2,(.str 1 117)),(3,(.str 1 85)),(4,(.str 2 14453))] h e ei)=some (.slice h.next 0 5 1 true,h.new (.row T5b 5 0 9 true)):=by kernel_rfl
theorem Ajr{h:H}{b:P}(ha:h.at b=.row T5b 5 0 9 true){r:Nat}(hr:r<5){K:Nat→Nat→Prop}(hk:∀t rest,Dc.drop r=t::rest→rest=Dc.drop (r+1)→K t.length (enc t)):Dj 1 r (.slice b 0 5 1 true) fun v=>ld1 v h fun v=>asS v K:=by
 have key:∀t,Dc.drop r=t::Dc.drop (r+1)→Co T5b r=S t→Dj 1 r (.slice b 0 5 1 true) fun v=>ld1 v h fun v=>asS v K:=by
  intro t ht e
  have hb:Dj 1 r (.slice b 0 5 1 true) (fun v=>ld1 v h fun v=>asS v K)=ld1 (.ptr b r) h fun v=>asS v K:=by
   match r,hr with
   |0,_|1,_|2,_|3,_|4,_=>rfl
  rw[hb]
  refine Jk ha hr ?_
  rw[e]
  exact hk t _ ht rfl
 match r,hr with
 |0,_=>exact key [] rfl (by kernel_rfl)
 |1,_=>exact key [76] rfl (by kernel_rfl)
 |2,_=>exact key [117] rfl (by kernel_rfl)
 |3,_=>exact key [85] rfl (by kernel_rfl)
 |4,_=>exact key [117,56] rfl (by kernel_rfl)
theorem Bfj(s t:List UInt8):Pure PP G h0 163 [S s,S t] (if s.take t.length=t then .tuple [S (s.drop t.length),.bool true] else .tuple [S s,.bool false]):=by
 refine A9l (n:=1) Bw (Bjt ?_)
 unfold Adv
 refine Dh (Bfi s t) ?_
 rw[Av,Bj]
 refine Ap (fun e=>?_) (fun e=>?_)
 · have e:¬s.take t.length=t:=by simpa using e
   rw[if_neg e]
 · have e:s.take t.length=t:=by simpa using e
   have:t.length≤s.length:=by have:=congrArg List.length e;simp at this;omega
   refine Ii this ?_
   rw[if_pos e]
theorem Bli(s t:List UInt8):Pure PP G h0 109 [S s,S t] (if s.take t.length=t then .tuple [S (s.drop t.length),.bool true] else .tuple [S s,.bool false]):=by
 refine A91 (n:=1) Bw (Bkb ?_)
 unfold Aeq
 by_cases e:s.take t.length=t
 · have h1:=Bfj s t
   rw[if_pos e] at h1 ⊢
   refine Dh h1 ?_
   rw[Eb,De,Eh,Av]
 · have h1:=Bfj s t
   rw[if_neg e] at h1 ⊢
   refine Dh h1 ?_
   rw[Eb,De,Eh,Av]
theorem Azs{s:List UInt8}{h:H}{b:P}(ha:h.at b=.row T5b 5 0 9 true){k:KV}:∀(n i:Nat),5-i<n→i≤5→k (.tuple [S (Ci (Dc.drop i) s).1,.bool (Ci (Dc.drop i) s).2]) h→(r60 W1 k n).a1 s.length (enc s) (.slice b 0 5 1 true) (Int.ofNat 5) (Int.ofNat i) h
 |0,_,hn,_,_=>absurd hn (Nat.not_lt_zero _)
 |n+1,i,hn,hi,hk=>by
  refine Bcr ?_
  unfold Al5
  rw[Ff]
  refine Ap (fun e=>?_) (fun e=>?_)
  · have e:i<5:=Int.ofNat_lt.1 (of_decide_eq_true e)
    rw[Bh]
    refine Ajr ha e fun t rest h1 h2=>?_
    rw[h1] at hk
    have rec_:(decide (s.take t.length=t)&&Gn (s.drop t.length))=false→fI (wrap .i64 (Cl (Int.ofNat i) (Int.ofNat 1))) fun n27=>(r60 W1 k n).a1 s.length (enc s) (.slice b 0 5 1 true) (Int.ofNat 5) n27 h:=by
     intro hc
     rw[Ho (by omega),Ak]
     refine Azs ha n (i+1) (by omega) e ?_
     rw[←h2]
     have:Ci (t::rest) s=Ci rest s:=if_neg (by rw[hc];simp)
     rw[this] at hk;exact hk
    refine Dh (Bli s t) ?_ rfl (by split<;>rfl)
    by_cases ht:s.take t.length=t
    · rw[if_pos ht,Eb,De,Eh,Av]
      refine Qm ?_
      rw[La,Bj]
      cases hr:s.drop t.length with
      |nil=>
       refine Fu (fun e=>?_) (fun _=>?_)
       · simp at e
       · exact Ca rfl (rec_ (by rw[hr];simp[Gn]))
      |cons c r=>
       refine Fu (fun _=>?_) (fun e=>?_)
       · refine Cj (s:=c::r) (Nat.zero_lt_succ _) ?_
         refine Mc (b:=decide (c=39)) (fun k' hk'=>?_) ?_
         · refine Cj (s:=c::r) (Nat.zero_lt_succ _) ?_
           rw[toNat_eq _ 39 (by decide)];exact hk'
         · rw[toNat_eq _ 34 (by decide)]
           refine Ap (fun e=>?_) (fun e=>?_)
           · have:Ci (t::rest) s=(t,true):=if_pos (by rw[hr];rw[decide_eq_true ht];exact e)
             rw[this] at hk;exact hk
           · refine rec_ ?_
             rw[hr,decide_eq_true ht];exact e
       · simp at e
    · rw[if_neg ht,Eb,De,Eh,Av]
      refine Fu (fun e=>by cases e) (fun _=>?_)
      refine Fu (fun e=>by cases e) (fun _=>?_)
      exact Ca rfl (rec_ (by rw[decide_eq_false ht];rfl))
  · have e:i=5:=by
     have:¬i<5:=fun h=>(of_decide_eq_false e) (Int.ofNat_lt.2 h)
     omega
    subst e
    exact hk
theorem c60(s:List UInt8):Pure PP G h0 60 [S s] (.tuple [S (Bf s).1,.bool (Bf s).2]):=by
 refine w60 (n:=10) Bw (g60 ?_)
 unfold Al6
 rw[b5b,Ac]
 show(r60 W1 _ 9).a1 s.length (enc s) (.slice h0.next 0 5 1 true) (Int.ofNat 5) (Int.ofNat 0) _
 exact Azs (Bs _ _) 9 0 (by decide) (by decide) rfl
def Ft(q:UInt8):Nat→List UInt8→Option (List UInt8)
 |0,_=>none
 |_+1,[]=>some []
 |n+1,c::r=>if c=q then none else if c=92 then(if(Du r).2=0 then none else(Ft q n (r.drop (Du r).2)).map ((Du r).1::·)) else(Ft q n r).map (c::·)
theorem Lj{q:UInt8}:∀(n m:Nat)(s:List UInt8),s.length<n→s.length<m→Ft q n s=Ft q m s
 |0,_,_,h,_=>absurd h (Nat.not_lt_zero _)
 |_,0,_,_,h=>absurd h (Nat.not_lt_zero _)
 |n+1,m+1,[],_,_=>rfl
 |n+1,m+1,c::r,h1,h2=>by
  have h1:r.length<n:=Nat.lt_of_succ_lt_succ h1
  have h2:r.length<m:=Nat.lt_of_succ_lt_succ h2
  show(if c=q then none else if c=92 then(if(Du r).2=0 then none else(Ft q n (r.drop (Du r).2)).map ((Du r).1::·)) else(Ft q n r).map (c::·))=(if c=q then none else if c=92 then(if(Du r).2=0 then none else(Ft q m (r.drop (Du r).2)).map ((Du r).1::·)) else(Ft q m r).map (c::·))
  rw[Lj n m r h1 h2,Lj n m (r.drop (Du r).2) (by rw[List.length_drop];omega) (by rw[List.length_drop];omega)]
def Xc(o:Option (List UInt8)):AV:=match o with
 |some l=>.tuple [S l,.bool true]
 |none=>.tuple [S [],.bool false]
def Aey(t:List UInt8):Option (List UInt8):=match t with
 |[]=>none
 |q::r=>if r=[] then none else if r.getLast? =some q then Ft q (r.length+1) r.dropLast else none
def Oo(s:List UInt8):Option (List UInt8):=if(Bf s).2=true then Aey (s.drop (Bf s).1.length) else none
theorem Jx(s:List UInt8):∀ps,(Ci ps s).2=true→s.take (Ci ps s).1.length=(Ci ps s).1∧Gn (s.drop (Ci ps s).1.length)=true
 |[],h=>by cases h
 |p::ps,h=>by
  by_cases e:(decide (s.take p.length=p)&&Gn (s.drop p.length))=true
  · have e1:Ci (p::ps) s=(p,true):=if_pos e
    rw[e1]
    simpa using e
  · have e1:Ci (p::ps) s=Ci ps s:=if_neg e
    rw[e1] at h ⊢
    exact Jx s ps h
theorem Wm(s:List UInt8):∀ps,(Ci ps s).2=false→(Ci ps s).1=[]
 |[],_=>rfl
 |p::ps,h=>by
  by_cases e:(decide (s.take p.length=p)&&Gn (s.drop p.length))=true
  · have e1:Ci (p::ps) s=(p,true):=if_pos e
    rw[e1] at h;cases h
  · have e1:Ci (p::ps) s=Ci ps s:=if_neg e
    rw[e1] at h ⊢
    exact Wm s ps h
theorem Wl(s:List UInt8):(Bf s).1.length≤s.length:=by
 cases h:(Bf s).2 with
 |true=>
  have:=congrArg List.length (Jx s Dc h).1
  rw[List.length_take] at this
  show(Ci Dc s).1.length≤s.length
  omega
 |false=>
  have:(Bf s).1=[]:=Wm s Dc h
  rw[this];exact Nat.zero_le _
theorem Ah3{n:Nat}(h1:1≤n)(h2:n≤9223372036854775807):wrap .i64 (Gl (Int.ofNat n) (Int.ofNat 1))=Int.ofNat (n-1):=by
 rw[Lu,show Int.ofNat n-Int.ofNat 1=Int.ofNat (n-1) by show(n:Int)-((1:Nat):Int)=((n-1:Nat):Int);omega]
 exact Cv (by omega)
theorem An8 {q : UInt8} {r : List UInt8} {b : P} {k : KV} : ∀ (n : Nat) (s acc : List UInt8) (h : H), s.length < n → s.length + acc.length ≤ 549755813888 → Bld false h b acc →
    (∀ h', k (Xc ((Ft q n s).map (acc ++ ·))) h') → (r59 W1 k n).a1 (q :: r).length (enc (q :: r)) (.ptr b 0) s.length (enc s) h
  | 0, _, _, _, hn, _, _, _ => absurd hn (Nat.not_lt_zero _)
  | n + 1, [], acc, h, hn, hl, hb, hk => by
    refine Ay8 ?_
    unfold Agx
    refine Bz rfl ?_
    refine c63 hb (.inl rfl) (by simp at hl; omega) fun h' => ?_
    rw [De]
    have := hk h'
    rw [show (Ft q (n + 1) []).map (acc ++ ·) = some acc by show some (acc ++ []) = _; rw [List.append_nil]] at this
    exact this
  | n + 1, c :: s, acc, h, hn, hl, hb, hk => by
    have hn : s.length < n := Nat.lt_of_succ_lt_succ hn
    have hl' : s.length + 1 + acc.length ≤ 549755813888 := hl
    refine Ay8 ?_
    unfold Agx
    refine Ca (Nn c s) ?_
    refine Cj (s := c :: s) (Nat.zero_lt_succ _) ?_
    refine Cj (s := q :: r) (Nat.zero_lt_succ _) ?_
    rw [List.getElem_cons_zero, List.getElem_cons_zero, Aj6]
    have eb : Ft q (n + 1) (c :: s) = if c = q then none else if c = 92 then (if (Du s).2 = 0 then none else (Ft q n (s.drop (Du s).2)).map ((Du s).1 :: ·)) else (Ft q n s).map (c :: ·) := rfl
    rw [eb] at hk
    have mm : ∀ (x : UInt8) (o : Option (List UInt8)), (o.map (x :: ·)).map (acc ++ ·) = o.map ((acc ++ [x]) ++ ·) := by
      intro x o
      cases o with
      | none => rfl
      | some l => simp
    refine Ap (fun e => ?_) (fun e => ?_)
    · have e : c = q := of_decide_eq_true e
      rw [if_pos e] at hk
      obtain ⟨n', rfl⟩ : ∃ n', n = n' + 1 := ⟨n - 1, by omega⟩
      refine Ay7 ?_
      unfold Agw
      exact hk h
    · have e : ¬ c = q := of_decide_eq_false e
      rw [if_neg e] at hk
      refine Cj (s := c :: s) (Nat.zero_lt_succ _) ?_
      rw [List.getElem_cons_zero, toNat_eq _ 92 (by decide), Bj]
      refine Ap (fun e2 => ?_) (fun e2 => ?_)
      · have e2 : ¬ c = 92 := by simpa using e2
        rw [if_neg e2] at hk
        refine Cj (s := c :: s) (Nat.zero_lt_succ _) ?_
        refine Auw (x := c) hb (by omega) fun h' hb' => ?_
        refine Ii (s := c :: s) (Nat.le_add_left 1 _) ?_
        refine An8 n s (acc ++ [c]) h' hn (by rw [List.length_append, List.length_singleton]; omega) hb' ?_
        intro h2
        have := hk h2
        rw [mm] at this; exact this
      · have e2 : c = 92 := by simpa using e2
        rw [if_pos e2] at hk
        refine Ii (s := c :: s) (Nat.le_add_left 1 _) ?_
        refine Dh (Bfo s (by omega)) ?_
        have hle := Afl s
        rw [Eb]
        show asI .u8 (.int .u8 (Int.ofNat (Du s).1.toNat)) _
        rw [Au, Eh, Au, ilt]
        refine Ap (fun e3 => ?_) (fun e3 => ?_)
        · have e3 : 0 < (Du s).2 := of_decide_eq_true e3
          rw [if_neg (by omega)] at hk
          refine Auw hb (by omega) fun h' hb' => ?_
          have w1 : wrap .i64 (Cl (Int.ofNat 1) (Int.ofNat (Du s).2)) = Int.ofNat (1 + (Du s).2) := by
            rw [Js, show Int.ofNat 1 + Int.ofNat (Du s).2 = Int.ofNat (1 + (Du s).2) from rfl]; exact Cv (by omega)
          rw [w1, Ak, Bh]
          refine Ii (s := c :: s) (by simp; omega) ?_
          have hd : (c :: s).drop (1 + (Du s).2) = s.drop (Du s).2 := by rw [Nat.add_comm, List.drop_succ_cons]
          rw [hd]
          refine An8 n (s.drop (Du s).2) (acc ++ [(Du s).1]) h' (by rw [List.length_drop]; omega) (by rw [List.length_append, List.length_singleton, List.length_drop]; omega) hb' ?_
          intro h2
          have := hk h2
          rw [mm] at this; exact this
        · have e3 : ¬ 0 < (Du s).2 := of_decide_eq_false e3
          rw [if_pos (by omega)] at hk
          exact hk h
theorem Ah8{q:UInt8}{r:List UInt8}(hr:r≠[])(h:(q::r).length-1<(q::r).length):r.getLast? =some ((q::r)[(q::r).length-1]):=by
 cases r with
 |nil=>exact absurd rfl hr
 |cons c r=>
  rw[List.getLast?_eq_getElem?]
  simp
theorem c59(s:List UInt8)(hl:s.length≤549755813888):Pure PP G h0 59 [S s] (Xc (Oo s)):=by
 refine w59 (n:=s.length+10) Bw (g59 ?_)
 unfold Al8
 refine Bo ?_
 refine Dh (c60 s) ?_
 rw[Eb,De,Eh,Av]
 refine Ii (Wl s) ?_
 have hlt:(s.drop (Bf s).1.length).length≤s.length:=by rw[List.length_drop];omega
 have bad:∀h,Oo s=none→(r59 W1 (fun v _=>v=Xc (Oo s)) (s.length+9)).a2 h:=by
  intro h e
  refine Ay7 ?_
  unfold Agw
  show AV.tuple _=_
  rw[e];rfl
 refine Hf ?_
 rw[Bj,ilt]
 refine Hx (fun e=>?_) (fun e=>?_)
 · rw[Bool.or_eq_false_iff] at e
   obtain⟨e1,e2⟩:=e
   have e1:(Bf s).2=true:=by simpa using e1
   have e2:¬(s.drop (Bf s).1.length).length<2:=of_decide_eq_false e2
   have eb:Oo s=Aey (s.drop (Bf s).1.length):=if_pos e1
   revert hlt e2 eb
   generalize s.drop (Bf s).1.length=t
   intro hlt e2 eb
   match t,hlt,e2,eb with
   |[],_,e2,_=>exact absurd (by decide) e2
   |[_],_,e2,_=>exact absurd (show 1<2 by decide) e2
   |q::c::r,hlt,_,eb=>
    have hne:(c::r)≠[]:=by simp
    have h1:1≤(q::c::r).length:=Nat.le_add_left 1 _
    have h2:(q::c::r).length-1<(q::c::r).length:=by omega
    rw[Ah3 h1 (by omega),Ak,Bh]
    refine Cj h2 ?_
    refine Cj (s:=q::c::r) (Nat.zero_lt_succ _) ?_
    rw[List.getElem_cons_zero,Aj6,Bj]
    have hlast:=Ah8 hne h2
    have eb:Oo s=if(c::r)=[] then none else if(c::r).getLast? =some q then Ft q ((c::r).length+1) (c::r).dropLast else none:=eb
    rw[if_neg hne,hlast] at eb
    refine Ap (fun e=>?_) (fun e=>?_)
    · have e:¬(q::c::r)[(q::c::r).length-1]=q:=by simpa using e
      rw[if_neg (fun h=>e (Option.some.inj h))] at eb
      exact bad _ eb
    · have e:(q::c::r)[(q::c::r).length-1]=q:=by simpa using e
      rw[if_pos (congrArg some e)] at eb
      rw[Ak,Bh]
      refine Tj (lo:=1) (hi:=(q::c::r).length-1) (by simp) (by omega) ?_
      have hcut:((q::c::r).drop 1).take ((q::c::r).length-1-1)=(c::r).dropLast:=by
       rw[List.drop_succ_cons,List.drop_zero,List.dropLast_eq_take];rfl
      rw[hcut]
      have hbl:(c::r).dropLast.length≤s.length:=by
       rw[List.length_dropLast]
       have:(q::c::r).length=(c::r).length+1:=rfl
       omega
      have hbn:(c::r).dropLast.length<(c::r).length+1:=by rw[List.length_dropLast];omega
      revert eb hbl hbn
      generalize (c::r).length+1=N
      generalize (c::r).dropLast=bd
      intro eb hbl hbn
      have hB:=Bld.new h0
      cases bd with
      |nil=>
       refine Bz rfl ?_
       refine c63 hB (.inl rfl) (Nat.zero_le _) fun h'=>?_
       rw[De]
       show AV.tuple _=_
       rw[eb,Lj N 1 [] hbn (by decide)];rfl
      |cons d u=>
       obtain⟨N,rfl⟩:∃N',N=N'+1:=⟨N-1,by omega⟩
       have hlen:(d::u).length=u.length+1:=rfl
       refine Ca (Nn d u) ?_
       refine Cj (s:=d::u) (Nat.zero_lt_succ _) ?_
       refine Cj (s:=q::c::r) (Nat.zero_lt_succ _) ?_
       rw[List.getElem_cons_zero,List.getElem_cons_zero,Aj6]
       have eb:Oo s=if d=q then none else if d=92 then(if(Du u).2=0 then none else(Ft q N (u.drop (Du u).2)).map ((Du u).1::·)) else(Ft q N u).map (d::·):=eb
       refine Ap (fun e=>?_) (fun e=>?_)
       · have e:d=q:=of_decide_eq_true e
         rw[if_pos e] at eb
         exact bad _ eb
       · have e:¬d=q:=of_decide_eq_false e
         rw[if_neg e] at eb
         refine Cj (s:=d::u) (Nat.zero_lt_succ _) ?_
         rw[List.getElem_cons_zero,toNat_eq _ 92 (by decide),Bj]
         refine Ap (fun e2=>?_) (fun e2=>?_)
         · have e2:¬d=92:=by simpa using e2
           rw[if_neg e2] at eb
           refine Cj (s:=d::u) (Nat.zero_lt_succ _) ?_
           refine Auw (x:=d) hB (by decide) fun h' hb'=>?_
           refine Ii (s:=d::u) (Nat.le_add_left 1 _) ?_
           refine An8 (s.length+9) u ([]++[d]) h' (by omega) (by simp;omega) hb' ?_
           intro h2
           rw[eb,Lj N (s.length+9) u (by omega) (by omega)];rfl
         · have e2:d=92:=by simpa using e2
           rw[if_pos e2] at eb
           refine Ii (s:=d::u) (Nat.le_add_left 1 _) ?_
           refine Dh (Bfo u (by omega)) ?_
           have hle:=Afl u
           rw[Eb]
           show asI .u8 (.int .u8 (Int.ofNat (Du u).1.toNat)) _
           rw[Au,Eh,Au]
           refine Bcs ?_
           unfold Al7
           rw[ilt]
           refine Ap (fun e3=>?_) (fun e3=>?_)
           · have e3:0<(Du u).2:=of_decide_eq_true e3
             rw[if_neg (by omega)] at eb
             refine Auw hB (by decide) fun h' hb'=>?_
             have w1:wrap .i64 (Cl (Int.ofNat 1) (Int.ofNat (Du u).2))=Int.ofNat (1+(Du u).2):=by
              rw[Js,show Int.ofNat 1+Int.ofNat (Du u).2=Int.ofNat (1+(Du u).2) from rfl];exact Cv (by omega)
             rw[w1,Ak,Bh]
             refine Ii (s:=d::u) (by simp;omega) ?_
             have hd:(d::u).drop (1+(Du u).2)=u.drop (Du u).2:=by rw[Nat.add_comm,List.drop_succ_cons]
             rw[hd]
             refine An8 (s.length+8) (u.drop (Du u).2) ([]++[(Du u).1]) h' (by rw[List.length_drop];omega) (by rw[List.length_drop];simp;omega) hb' ?_
             intro h2
             rw[eb,Lj N (s.length+8) (u.drop (Du u).2) (by rw[List.length_drop];omega) (by rw[List.length_drop];omega)];rfl
           · have e3:¬0<(Du u).2:=of_decide_eq_false e3
             rw[if_pos (by omega)] at eb
             show AV.tuple _=_
             rw[eb];rfl
 · refine Bz rfl ?_
   refine bad _ ?_
   rw[Bool.or_eq_true] at e
   rcases e with e|e
   · have e:¬(Bf s).2=true:=by simpa using e
     exact if_neg e
   · have e:(s.drop (Bf s).1.length).length<2:=of_decide_eq_true e
     unfold Oo
     by_cases h:(Bf s).2=true
     · rw[if_pos h]
       revert e
       generalize s.drop (Bf s).1.length=t
       intro e
       match t,e with
       |[],_=>rfl
       |[_],_=>rfl
       |_::_::_,e=>exact absurd e (by simp)
     · exact if_neg h
end Go.Den
