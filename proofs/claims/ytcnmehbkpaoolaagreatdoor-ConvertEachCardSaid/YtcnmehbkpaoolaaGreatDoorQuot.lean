/-
 Proof.
-/
import Derived.Test.YtcnmehbkpaoolaaGreatDoorMaka
import Derived.Test.YtcnmehbkpaoolaaGreatDoorLaid
noncomputable section
namespace Go.Den
open Go.RowKit
set_option maxRecDepth 100000
def isQ(c:UInt8):Bool:=decide (c=34)||decide (c=92)
def Co(s:List UInt8):List UInt8:=s.flatMap fun c=>if isQ c=true then[92,c] else[c]
def Rr(s:List UInt8):List UInt8:=34::(Co s++[34])
theorem Wh(c:UInt8)(s:List UInt8):Co (c::s)=(if isQ c=true then[92,c] else[c])++Co s:=rfl
theorem Ai6(s t:List UInt8):Co (s++t)=Co s++Co t:=by unfold Co;rw[List.flatMap_append]
theorem Ml(s:List UInt8):(Co s).length=s.length+s.countP isQ:=by
 induction s with
 |nil=>rfl
 |cons c s ih=>
  rw[Wh,List.length_append,ih,List.countP_cons,List.length_cons]
  by_cases e:isQ c=true
  · rw[if_pos e,if_pos e];simp only[List.length_cons,List.length_nil];omega
  · rw[if_neg e,if_neg e];simp only[List.length_cons,List.length_nil];omega
theorem Aqb{s:List UInt8}(h:s.countP isQ=0):Co s=s:=by
 induction s with
 |nil=>rfl
 |cons c s ih=>
  rw[List.countP_cons] at h
  have e:¬isQ c=true:=fun e=>by rw[if_pos e] at h;omega
  rw[Wh,if_neg e,ih (by omega)];rfl
theorem A8i(s:List UInt8):s.countP isQ=s.count 92+s.count 34:=by
 induction s with
 |nil=>rfl
 |cons c s ih=>
  rw[List.countP_cons,List.count_cons,List.count_cons,ih]
  unfold isQ
  by_cases e:c=34
  · subst e;simp;omega
  · by_cases e2:c=92
    · subst e2;simp;omega
    · simp[e,e2]
theorem Bln(s:List UInt8)(x:UInt8){h:H}{k:KV}(hk:k (.int .i64 (Int.ofNat (s.count x))) h):W1 (.func 378) [S s,.int .u8 (Int.ofNat x.toNat)] h k:=by
 refine A9g (Cj rfl ?_)
 have hx:Nat.ble x.toNat 255=true:=Nat.ble_eq_true_of_le (by have:=x.toNat_lt;omega)
 have ec:Lp x.toNat s.length (enc s) 0=Int.ofNat (s.count x):=by
  rw[Oe (by have:=x.toNat_lt;omega)]
  have ex:x.toNat.toUInt8=x:=by rw[Nat.toUInt8,UInt8.ofNat_toNat]
  rw[ex]
  have key:∀(l:List UInt8)(a:Int),l.foldl (fun n y=>if(y==x)=true then n+1 else n) a=a+Int.ofNat (l.count x):=by
   intro l
   induction l with
   |nil=>intro a;show a=a+((0:Nat):Int);omega
   |cons y l ih=>
    intro a
    rw[List.foldl_cons,ih,List.count_cons]
    by_cases e:(y==x)=true
    · rw[if_pos e,if_pos e]
      show a+1+((l.count x:Nat):Int)=a+((l.count x+1:Nat):Int)
      omega
    · rw[if_neg e,if_neg e];rfl
  rw[key]
  show((0:Nat):Int)+((s.count x:Nat):Int)=((s.count x:Nat):Int)
  omega
 have e:Hf .count [S s,.int .u8 (Int.ofNat x.toNat)] h=some (.int .i64 (Int.ofNat (s.count x)),h):=by
  show(Bool.rec (motive:=fun _=>Option (AV×H)) none (some (.int .i64 (Lp x.toNat s.length (enc s) 0),h)) (Nat.ble x.toNat 255))=_
  rw[hx,ec]
 rw[e,Ae];exact hk
theorem Blo(s:List UInt8)(x:UInt8){h:H}{k:KV}(hk:k (.int .i64 (Int.ofNat (s.count x))) h):W1 (.func 376) [S s,S [x]] h k:=by
 refine A9n (n:=1) Bl (Bjs ?_)
 unfold Adi
 refine Bo rfl (Cj rfl ?_)
 refine Cn (s:=[x]) (by simp) ?_
 rw[List.getElem_cons_zero]
 refine Bln s x ?_
 rw[Au];exact hk
def A8j(i:Nat):AV:=Bool.rec (Bool.rec (Bool.rec .Ad (.slice (pOf 23) 0 2 1 false) (Nat.beq i 256)) (.slice (pOf 20) 0 2 1 false) (Nat.beq i 92)) (.slice (pOf 24) 0 2 1 false) (Nat.beq i 34)
def TR:Tm:=Ai ((List.range 257).map A8j) 0 .e
def R24:Tm:=Ai [.int .u8 (.ofNat 92),.int .u8 (.ofNat 34)] 0 .e
def R20:Tm:=Ai [.int .u8 (.ofNat 92),.int .u8 (.ofNat 92)] 0 .e
def R23:Tm:=Ai [S [92],S [34]] 0 .e
def R14:Tm:=Ai [.int .u32 (.ofNat 1),.int .i32 (.ofNat 0),.int .u32 (.ofNat 0),.iface 413 (.ptr (pOf 16) 0),.Ad] 0 .e
structure RS(h:H):Prop where
 r16:h.at (pOf 16)=.row TR 257 0 412 true
 r24:h.at (pOf 24)=.row R24 2 0 5 false
 r20:h.at (pOf 20)=.row R20 2 0 5 false
 r23:h.at (pOf 23)=.row R23 2 0 9 false
 hn:25≤h.next.nat
theorem RS.ext{h h':H}(r:RS h)(x:Exh h h'):RS h':=by
 have hn:=r.hn
 have f:∀i,i<25→h'.at (pOf i)=h.at (pOf i):=fun i hi=>x.2 _ (by rw[Dp];omega)
 exact⟨by rw[f 16 (by decide)];exact r.r16,by rw[f 24 (by decide)];exact r.r24,by rw[f 20 (by decide)];exact r.r20,by rw[f 23 (by decide)];exact r.r23,by have:=x.1;omega⟩
theorem Awt{i:Nat}(hi:i<257):Bh TR i=A8j i:=by
 unfold TR
 rw[Ar,if_pos ⟨Nat.zero_le _,by rw[List.length_map,List.length_range];omega⟩,Nat.sub_zero,List.getD_eq_getElem?_getD,List.getElem?_map,List.getElem?_range hi]
 rfl
def Abi(c:UInt8):AV:=if c=34 then .slice (pOf 24) 0 2 1 false else if c=92 then .slice (pOf 20) 0 2 1 false else .Ad
theorem Awu(c:UInt8):Bh TR c.toNat=Abi c:=by
 have hc:=c.toNat_lt
 rw[Awt (by omega)]
 unfold A8j Abi
 have e34:Nat.beq c.toNat 34=decide (c=34):=by rw[Fa];exact decide_eq_decide.2 ⟨fun e=>UInt8.toNat_inj.1 e,fun e=>by rw[e];rfl⟩
 have e92:Nat.beq c.toNat 92=decide (c=92):=by rw[Fa];exact decide_eq_decide.2 ⟨fun e=>UInt8.toNat_inj.1 e,fun e=>by rw[e];rfl⟩
 have e256:Nat.beq c.toNat 256=false:=by rw[Fa];exact decide_eq_false (by omega)
 rw[e34,e92,e256]
 by_cases a:c=34
 · rw[if_pos a,decide_eq_true a]
 · rw[if_neg a,decide_eq_false a]
   by_cases b:c=92
   · rw[if_pos b,decide_eq_true b]
   · rw[if_neg b,decide_eq_false b]
theorem Awv:Bh TR 256=.slice (pOf 23) 0 2 1 false:=by rw[Awt (by decide)];rfl
theorem Bmh:Aa8 env 410=some (256,115):=by kernel_rfl
theorem Bbu:(env.ty 115).map (·.size)=some 1:=by kernel_rfl
theorem Aaj{b:P}{x:UInt8}{h:H}:Cw env 410 (.ptr b 0) (Bc (.int .u8 (Int.ofNat x.toNat))) h=some (.ptr b x.toNat,h):=by
 show Jl env 410 b 0 x.toNat h=_
 unfold Jl
 rw[Bmh]
 have h1:=Bbu
 cases e:env.ty 115 with
 |none=>rw[e] at h1;cases h1
 |some ei=>
  rw[e] at h1
  have h2:ei.size=1:=Option.some.inj h1
  have hb:Nat.ble (Nat.add x.toNat 1) 256=true:=Nat.ble_eq_true_of_le (by have:=x.toNat_lt;show x.toNat+1≤256;omega)
  show(Bool.rec (motive:=fun _=>Option (AV×H)) none (Option.rec (motive:=fun _=>Option (AV×H)) none (fun ei=>some (.ptr b (Nat.add 0 (Nat.mul x.toNat ei.size)),h)) (env.ty 115)) (Nat.ble (Nat.add x.toNat 1) 256))=_
  rw[hb,e]
  show some (AV.ptr b (0+x.toNat*ei.size),h)=_
  rw[h2,Nat.zero_add,Nat.mul_one]
theorem A1b(b:P)(o n z:Nat)(t:Bool):Kz env .neq 115 (.slice b o n z t) .Ad=some (.bool true):=by kernel_rfl
theorem Bda:Kz env .neq 115 .Ad .Ad=some (.bool false):=by kernel_rfl
theorem Anv(c:UInt8):Kz env .neq 115 (Abi c) .Ad=some (.bool (isQ c)):=by
 unfold Abi isQ
 by_cases a:c=34
 · rw[if_pos a,decide_eq_true a,A1b];rfl
 · rw[if_neg a,decide_eq_false a]
   by_cases b:c=92
   · rw[if_pos b,decide_eq_true b,A1b];rfl
   · rw[if_neg b,decide_eq_false b,Bda];rfl
theorem Ahq{c:UInt8}(hc:isQ c=true){K:Nat→Prop}:Ef (Abi c) K=K 2:=by
 unfold Abi
 unfold isQ at hc
 by_cases a:c=34
 · rw[if_pos a];rfl
 · rw[if_neg a]
   by_cases b:c=92
   · rw[if_pos b];rfl
   · simp[a,b] at hc
theorem Ahp{h:H}{q:P}{l:List UInt8}{w:Bool}(ha:h.at q=.row (Ai (ubs l) 0 .e) l.length 0 5 w):Bv h 1 (.slice q 0 l.length 1 false)=some (l.length,ubs l):=by
 show(Bool.rec (motive:=fun _=>Option (Nat×List AV)) none (Option.rec (motive:=fun _=>Option (Nat×List AV)) none (fun cs=>some (l.length,cs)) (h.read q 0 (Nat.mul l.length 1))) (Nat.beq 1 1))=_
 rw[show Nat.mul l.length 1=l.length from Nat.mul_one _,Zh ha (Nat.le_refl _),(Dy.new l .e).get]
 rfl
theorem Akj{h:H}(r:RS h){c:UInt8}(hc:isQ c=true):Bv h 1 (Abi c)=some (2,ubs [92,c]):=by
 unfold Abi
 unfold isQ at hc
 by_cases a:c=34
 · subst a
   rw[if_pos rfl];exact Ahp (l:=[92,34]) r.r24
 · rw[if_neg a]
   by_cases b:c=92
   · subst b
     rw[if_pos rfl];exact Ahp (l:=[92,92]) r.r20
   · simp[a,b] at hc
theorem Bby(b:P)(o n j:Nat)(t:Bool)(h:H):slice3 env h 115 (.slice b o n 1 t) (some (Bc (.int .i64 (Int.ofNat j)))) none none=Ff h (Tc b o n 1 t j n none):=by kernel_rfl
theorem Bdd(n:Nat)(h:H):Ao env 115 (fun e ei=>Dv (Bc (.int .i64 (Int.ofNat n))) (Bc (.int .i64 (Int.ofNat n))) h e ei)=(Bool.rec none (some (.slice h.next 0 n 1 (Nat.beq n n),h.new (.row (Ai (Ju [.int .u8 (.ofNat 0)] n) 0 .e) (Nat.mul n 1) 0 TB true)))
 (Ah (Nat.ble n n) (Ah (Ah true true) (Ah (Nat.ble n 1099511627776) (Nat.ble (Nat.mul n 1) 140737488355328)))):Option (AV×H)):=by kernel_rfl
def Bg5(h:H)(b:P)(N:Nat)(l:List UInt8):Prop:=∃t w,h.at b=.row t N 0 TB w∧b.nat<h.next.nat∧l.length≤N∧Dy t l
theorem RS.put{h:H}{b:P}{o:Ob FT}(r:RS h)(hb:25≤b.nat):RS (h.put b o):=by
 have f:∀i,i<25→(h.put b o).at (pOf i)=h.at (pOf i):=fun i hi=>Cd fun e=>by have:=Dp i;rw[e] at this;omega
 exact⟨by rw[f 16 (by decide)];exact r.r16,by rw[f 24 (by decide)];exact r.r24,by rw[f 20 (by decide)];exact r.r20,by rw[f 23 (by decide)];exact r.r23,r.hn⟩
section
variable{s:List UInt8}{b:P}{N:Nat}{t0:Bool}{k:KV}(hl:s.length≤10000000)(hb25:25≤b.nat)(hN:N=(Co s).length)(hk:∀h,k (S (Co s)) h)
include hl hb25 hN hk
theorem Av1:∀(n i:Nat){h:H},2*(s.length-i)<n→i≤s.length→RS h→Bg5 h b N (Co (s.take i))→(Kg W1 k n).a4 (.ptr (pOf 16) 0) s.length (enc s) (.slice b 0 N 1 t0) (Int.ofNat (Co (s.take i)).length) (Int.ofNat i) h
 |0,_,_,hn,_,_,_=>absurd hn (Nat.not_lt_zero _)
 |n+1,i,h,hn,hi,r,hf=>by
  refine A4q ?_
  unfold Adl
  rw[ilt]
  have hcnt:=Ml s
  have hcle:s.countP isQ≤s.length:=List.countP_le_length
  refine Az (fun e=>?_) (fun e=>?_)
  · have e:i<s.length:=of_decide_eq_true e
    obtain⟨m,rfl⟩:∃m,n=m+1:=⟨n-1,by omega⟩
    obtain⟨t,w,ha,hbn,hle,hc⟩:=hf
    have hsplit:Co s=Co (s.take i)++Co (s.drop i):=by rw[←Ai6,List.take_append_drop]
    have hdrop:Co (s.drop i)=(if isQ s[i]=true then[92,s[i]] else[s[i]])++Co (s.drop (i+1)):=by rw[List.drop_eq_getElem_cons e,Wh]
    have htake:Co (s.take (i+1))=Co (s.take i)++(if isQ s[i]=true then[92,s[i]] else[s[i]]):=by
     rw[List.take_succ_eq_append_getElem e,Ai6]
     show _++((if isQ s[i]=true then[92,s[i]] else[s[i]])++Co [])=_
     rw[show Co []=[] from rfl,List.append_nil]
    have hlen:N=(Co (s.take i)).length+(if isQ s[i]=true then[92,s[i]] else[s[i]]).length+(Co (s.drop (i+1))).length:=by
     rw[hN,hsplit,hdrop,List.length_append,List.length_append];omega
    have hbl:N≤20000000:=by rw[hN,hcnt];omega
    rw[Ap]
    refine Cn e ?_
    rw[Bj,Ae,Hl,Aaj,Ae]
    refine Cz r.r16 (by have:=s[i].toNat_lt;omega) ?_
    rw[Awu,Anv,Jd,Ce]
    have next:∀h' (c:List UInt8),RS h'→Bg5 h' b N (Co (s.take i)++c)→c=(if isQ s[i]=true then[92,s[i]] else[s[i]])→(Kg W1 k (m+1)).a5 (.ptr (pOf 16) 0) s.length (enc s) (.slice b 0 N 1 t0) (Int.ofNat ((Co (s.take i)).length+c.length)) (Int.ofNat i) h':=fun h' c r' hf' hcc=>by
     refine A4p ?_
     unfold Adk
     rw[De,Cg (by omega),As]
     subst hcc
     rw[←List.length_append,←htake]
     rw[←htake] at hf'
     exact Av1 m (i+1) (by omega) e r' hf'
    refine Az (fun eq=>?_) (fun eq=>?_)
    · rw[if_pos eq] at hlen
      have hlen:N=(Co (s.take i)).length+2+(Co (s.drop (i+1))).length:=hlen
      rw[Bby]
      have ec:(Tc b 0 N 1 t0 (Co (s.take i)).length N none:Option AV)=some (.slice b (0+(Co (s.take i)).length*1) (N-(Co (s.take i)).length) 1 (Ah t0 (Nat.beq N N))):=by
       show(Bool.rec (motive:=fun _=>Option AV) none (some (.slice b (Nat.add 0 (Nat.mul (Co (s.take i)).length 1)) (Nat.sub N (Co (s.take i)).length) 1 (Ah t0 (Nat.beq N N)))) (Ah (Ah (Nat.ble (Co (s.take i)).length N) (Nat.ble N N)) true))=_
       rw[Nat.ble_eq_true_of_le (show(Co (s.take i)).length≤N by omega),Nat.ble_eq_true_of_le (Nat.le_refl N)]
       rfl
      rw[ec]
      show oK (some (AV.slice b (0+(Co (s.take i)).length*1) (N-(Co (s.take i)).length) 1 (Ah t0 (Nat.beq N N)),h)) _
      rw[Ae,Bj,Ae,Hl,Aaj,Ae]
      refine Cz r.r16 (by have:=s[i].toNat_lt;omega) ?_
      rw[Awu,Bf1]
      have hwr:h.write b (0+(Co (s.take i)).length*1) (ubs [92,s[i]])=some (h.put b (.row (Ai (ubs [92,s[i]]) (Co (s.take i)).length t) N 0 TB w)):=by
       rw[Nat.mul_one,Nat.zero_add]
       unfold Hp.write Hp.Gm
       rw[ha]
       show Ry h b (Co (s.take i)).length (ubs [92,s[i]]) none some t N 0 TB w=_
       unfold Ry
       rw[Di,show(ubs [92,s[i]]).length=2 from rfl,show Nat.ble (Nat.add (Co (s.take i)).length 2) N=true from Nat.ble_eq_true_of_le (by show(Co (s.take i)).length+2≤N;omega)]
       show Ja (Ai (ubs [92,s[i]]) (Co (s.take i)).length t) (fun t=>h.Po b (.row t N 0 TB w) some)=_
       rw[Hy,Lh]
      have hcp:Sz (.slice b (0+(Co (s.take i)).length*1) (N-(Co (s.take i)).length) 1 (Ah t0 (Nat.beq N N))) (Abi s[i]) h TB ei8=some (.int .i64 (.ofNat 2),h.put b (.row (Ai (ubs [92,s[i]]) (Co (s.take i)).length t) N 0 TB w)):=by
       show(Option.rec none (fun p=>Bool.rec none (Bool.rec (Un (N-(Co (s.take i)).length) (h.write b (0+(Co (s.take i)).length*1) (Ie (Nat.mul (N-(Co (s.take i)).length) 1) p.2))) (Un p.1 (h.write b (0+(Co (s.take i)).length*1) p.2)) (Nat.ble p.1 (N-(Co (s.take i)).length))) (Nat.beq 1 1)) (Bv h 1 (Abi s[i])):Option (AV×H))=_
       rw[Akj r eq]
       show(Bool.rec (Un (N-(Co (s.take i)).length) (h.write b (0+(Co (s.take i)).length*1) (Ie (Nat.mul (N-(Co (s.take i)).length) 1) (ubs [92,s[i]])))) (Un 2 (h.write b (0+(Co (s.take i)).length*1) (ubs [92,s[i]]))) (Nat.ble 2 (N-(Co (s.take i)).length)):Option (AV×H))=_
       rw[Nat.ble_eq_true_of_le (show 2≤N-(Co (s.take i)).length by omega)]
       show Un 2 (h.write b (0+(Co (s.take i)).length*1) (ubs [92,s[i]]))=_
       rw[hwr];rfl
      rw[hcp,Ae,Au,De,Cg (by omega),As]
      refine next _ [92,s[i]] (r.put hb25) ⟨_,w,Bk _ _ _,hbn,?_,hc.app⟩ (by rw[if_pos eq])
      rw[List.length_append]
      show(Co (s.take i)).length+2≤N
      omega
    · have eq':¬isQ s[i]=true:=by rw[eq];decide
      rw[if_neg eq'] at hlen
      have hlen:N=(Co (s.take i)).length+1+(Co (s.drop (i+1))).length:=hlen
      rw[Ap]
      refine Uy (by omega) ?_
      refine Ph ha (Nat.zero_le _) (by omega) rfl ?_
      rw[De,Cg (by omega),As]
      refine next _ [s[i]] (r.put hb25) ⟨_,w,Bk _ _ _,hbn,?_,?_⟩ (by rw[if_neg eq'])
      · rw[List.length_append]
        show(Co (s.take i)).length+1≤N
        omega
      · rw[show 0+(Co (s.take i)).length*1=(Co (s.take i)).length by omega]
        exact hc.app (m:=[s[i]])
  · have e:i=s.length:=by have:=of_decide_eq_false e;omega
    subst e
    obtain⟨t,w,ha,hbn,hle,hc⟩:=hf
    rw[List.take_length] at hc hle
    have:N=(Co s).length:=hN
    subst this
    rw[Ajg ha (Nat.le_refl _) hc,Ae,Cl]
    exact hk h
end
theorem Bc2{h:H}(r:RS h){K:Nat→Nat→Prop}{j:Nat}{c:UInt8}(hj:j<2)(hc:[92,34][j]'hj=c)(hK:K ([c]:List UInt8).length (enc [c])):Bz 1 j (.slice (pOf 23) 0 2 1 false) fun v=>ld1 v h fun v=>asS v K:=by
 refine Uy hj ?_
 refine Cz r.r23 (by omega) ?_
 have:Bh R23 (0+j*1)=S [c]:=by
  unfold R23
  rw[Ar,if_pos ⟨Nat.zero_le _,by show 0+j*1<0+2;omega⟩]
  match j,hj with
  |0,_=>rw[←hc];rfl
  |1,_=>rw[←hc];rfl
 rw[this]
 exact Cl.mpr hK
section
variable{s:List UInt8}{k:KV}(hl:s.length≤10000000)(hk:∀h,k (S (Co s)) h)
include hl hk
theorem Av0{n:Nat}{h:H}(hn:2*s.length+2≤n)(r:RS h):(Kg W1 k (n+1)).a6 (.ptr (pOf 16) 0) s.length (enc s) (Int.ofNat (Co s).length) (decide (s.countP isQ≠0)) h:=by
 have hcnt:=Ml s
 have hcle:s.countP isQ≤s.length:=List.countP_le_length
 refine A4o ?_
 unfold Adj
 rw[Br]
 refine Az (fun e=>?_) (fun e=>?_)
 · have e:s.countP isQ=0:=by simpa using e
   have:=hk h
   rw[Aqb e] at this;exact this
 · rw[Bdd,Nat.ble_eq_true_of_le (Nat.le_refl _),Nat.ble_eq_true_of_le (show(Co s).length≤1099511627776 by omega),Nat.ble_eq_true_of_le (show Nat.mul (Co s).length 1≤140737488355328 by show(Co s).length*1≤_;omega)]
   show oK (some (AV.slice h.next 0 (Co s).length 1 (Nat.beq (Co s).length (Co s).length),h.new (.row (Ai (Ju [.int .u8 (.ofNat 0)] (Co s).length) 0 .e) (Nat.mul (Co s).length 1) 0 TB true))) _
   rw[Ae,show Nat.mul (Co s).length 1=(Co s).length from Nat.mul_one _]
   have hn25:=r.hn
   exact Av1 hl hn25 rfl hk n 0 (by omega) (Nat.zero_le _) (r.ext .new) ⟨_,true,Ay _ _,by rw[Be];omega,Nat.zero_le _,fun i hi=>absurd hi (Nat.not_lt_zero _)⟩
theorem Av2:∀(n i:Nat){h:H},2*(s.length-i)+2*s.length+4≤n→i≤s.length→RS h→(Kg W1 k n).a2 (.ptr (pOf 16) 0) s.length (enc s) (Int.ofNat (s.length+(s.take i).countP isQ)) (decide ((s.take i).countP isQ≠0)) (Int.ofNat i) h
 |0,_,_,hn,_,_=>by omega
 |n+1,i,h,hn,hi,r=>by
  have hcle:(s.take i).countP isQ≤(s.take i).length:=List.countP_le_length
  have htl:(s.take i).length=i:=by rw[List.length_take];omega
  refine A4r ?_
  unfold Adm
  rw[ilt]
  refine Az (fun e=>?_) (fun e=>?_)
  · have e:i<s.length:=of_decide_eq_true e
    obtain⟨m,rfl⟩:∃m,n=m+1:=⟨n-1,by omega⟩
    have htake:(s.take (i+1)).countP isQ=(s.take i).countP isQ+if isQ s[i]=true then 1 else 0:=by
     rw[List.take_succ_eq_append_getElem e,List.countP_append,List.countP_cons];simp
    have ih:=Av2 m (i+1) (h:=h) (by omega) e r
    rw[htake] at ih
    rw[Ap]
    refine Cn e ?_
    rw[Bj,Ae,Hl,Aaj,Ae]
    refine Cz r.r16 (by have:=s[i].toNat_lt;omega) ?_
    rw[Awu,Anv,Jd,Ce]
    refine Az (fun eq=>?_) (fun eq=>?_)
    · rw[if_pos eq] at ih
      rw[Bj,Ae,Hl,Aaj,Ae]
      refine Cz r.r16 (by have:=s[i].toNat_lt;omega) ?_
      rw[Awu,Ahq eq,Wy (by omega),Cg (by omega),As,De,Cg (by omega),As]
      refine Atx ?_
      unfold Yx
      rw[De,Cg (by omega),As]
      rw[decide_eq_true (show(s.take i).countP isQ+1≠0 by omega)] at ih
      exact ih
    · rw[if_neg (by rw[eq];decide)] at ih
      refine Atx ?_
      unfold Yx
      rw[De,Cg (by omega),As]
      exact ih
  · have e:i=s.length:=by have:=of_decide_eq_false e;omega
    subst e
    obtain⟨m,rfl⟩:∃m,n=m+1:=⟨n-1,by omega⟩
    rw[List.take_length,←Ml]
    exact Av0 hl hk (by omega) r
theorem A8o{n:Nat}{h:H}(hn:2*s.length+2≤n)(r:RS h):(Kg W1 k (n+4)).a1 (.ptr (pOf 16) 0) s.length (enc s) (Int.ofNat s.length) false (.slice (pOf 23) 0 2 1 false) (Int.ofNat 2) (Int.ofNat 0) h:=by
 have hcq:=A8i s
 have hc1:s.count 92≤s.length:=List.count_le_length
 have hc2:s.count 34≤s.length:=List.count_le_length
 have step:∀(c:UInt8)(j:Nat)(hj:j<2)(n1 a:Nat)(b:Bool),[92,34][j]'hj=c→a≤30000000→s.count c≤s.length→isQ c=true→
  (∀a' b',a'=a+s.count c→b'=(b||decide (s.count c≠0))→(Kg W1 k n1).a1 (.ptr (pOf 16) 0) s.length (enc s) (Int.ofNat a') b' (.slice (pOf 23) 0 2 1 false) (Int.ofNat 2) (Int.ofNat (j+1)) h)→
  (Kg W1 k (n1+1)).a1 (.ptr (pOf 16) 0) s.length (enc s) (Int.ofNat a) b (.slice (pOf 23) 0 2 1 false) (Int.ofNat 2) (Int.ofNat j) h:=fun c j hj n1 a b hcj ha hcc hq hgo=>by
  refine Aty ?_
  unfold Yy
  rw[ilt,decide_eq_true hj]
  refine Cj rfl ?_
  rw[Ap]
  refine Bc2 r hj hcj ?_
  refine Blo s c ?_
  rw[Au,Ru,Br]
  refine Az (fun e=>?_) (fun e=>?_)
  · have e:s.count c≠0:=by simpa using e
    refine Cn (s:=[c]) (by simp) ?_
    rw[List.getElem_cons_zero,Bj,Ae,Hl,Aaj,Ae]
    refine Cz r.r16 (by have:=c.toNat_lt;omega) ?_
    rw[Awu,Ahq hq,Wy (by omega),Cg (by omega),As]
    rw[show(Int.ofNat (s.count c))*(Int.ofNat (2-1))=Int.ofNat (s.count c) by show((s.count c:Nat):Int)*((1:Nat):Int)=_;rw[Int.natCast_one,Int.mul_one];rfl,Cg (by omega),As,De,Cg (by omega),As,De,Cg (by omega),As]
    exact hgo _ _ rfl (by rw[decide_eq_true e];simp)
  · have e:s.count c=0:=by simpa using e
    rw[De,Cg (by omega),As]
    exact hgo _ _ (by rw[e];rfl) (by rw[e];simp)
 refine step 92 0 (by decide) (n+3) s.length false rfl (by omega) hc1 rfl fun a' b' ea eb=>?_
 subst ea
 refine step 34 1 (by decide) (n+2) _ b' rfl (by omega) hc2 rfl fun a'' b'' ea' eb'=>?_
 refine Aty ?_
 unfold Yy
 rw[ilt]
 refine Bo rfl ?_
 have e1:a''=(Co s).length:=by rw[ea',Ml,hcq];omega
 have e2:b''=decide (s.countP isQ≠0):=by
  rw[eb',eb,hcq]
  by_cases x:s.count 92=0
  · by_cases y:s.count 34=0
    · simp[x,y]
    · simp[x,y]
  · simp[x]
 rw[e1,e2]
 exact Av0 hl hk hn r
end
theorem Blp{s:List UInt8}{h:H}{k:KV}(hl:s.length≤10000000)(r:RS h)(hk:∀h,k (S (Co s)) h):W1 (.func 374) [.ptr (pOf 16) 0,S s] h k:=by
 refine A9o (n:=4*s.length+10+1) Bl (Bjt ?_)
 unfold Adn
 rw[Bj,Ae,Av]
 refine Cz r.r16 (by decide) ?_
 rw[show 0+256=256 from rfl,Awv,Li]
 rw[show(Int.ofNat 2)*(Int.ofNat 8)=Int.ofNat 16 from rfl,Cg (by decide),As]
 refine Az (fun _=>?_) (fun _=>?_)
 · rw[Bj,Ae,Av]
   refine Cz r.r16 (by decide) ?_
   rw[show 0+256=256 from rfl,Awv,Li]
   exact A8o (n:=4*s.length+6) hl hk (by omega) r
 · have:=Av2 hl hk (4*s.length+10) 0 (h:=h) (by omega) (Nat.zero_le _) r
   exact this
def QR2(h5:H):Prop:=h5.at (pOf 14)=.row R14 5 0 302 true∧h5.at (pOf 16)=.row TR 257 0 412 true∧h5.at (pOf 24)=.row R24 2 0 5 false∧h5.at (pOf 20)=.row R20 2 0 5 false∧h5.at (pOf 23)=.row R23 2 0 9 false∧h5.next=pOf 25
def QR(v3:AV)(h4:H):Prop:=v3=.ptr (pOf 14) 0∧calls 100000 100000 (.func 74) [.ptr (pOf 14) 0,.func (.func 214) [.ptr (pOf 14) 0] []] h4 fun _ h5=>QR2 h5
theorem Ayw:oK (Ao env 44 (fun e ei=>Ak 4 [(0,(.str 1 34)),(1,(.str 2 8796)),(2,(.str 1 92)),(3,(.str 2 23644))] h0 e ei)) (fun v1 h2=>calls 100000 100000 (.func 165) [v1] h2 QR)
 =(AV.ptr (pOf 14) 0=.ptr (pOf 14) 0∧(.row R14 5 0 302 true:Ob FT)=.row R14 5 0 302 true∧(.row TR 257 0 412 true:Ob FT)=.row TR 257 0 412 true∧(.row R24 2 0 5 false:Ob FT)=.row R24 2 0 5 false∧(.row R20 2 0 5 false:Ob FT)=.row R20 2 0 5 false∧(.row R23 2 0 9 false:Ob FT)=.row R23 2 0 9 false∧pOf 25=pOf 25):=by kernel_rfl
theorem Ay1{o:Option (AV×H)}{K K':KV}(h:oK o K)(hk:∀v h,K v h→K' v h):oK o K':=by
 cases o with
 |none=>exact h.elim
 |some p=>
  obtain⟨v,h'⟩:=p
  rw[Ae] at h ⊢
  exact hk _ _ h
theorem As3:oK (Ao env 44 (fun e ei=>Ak 4 [(0,(.str 1 34)),(1,(.str 2 8796)),(2,(.str 1 92)),(3,(.str 2 23644))] h0 e ei)) (fun v1 h2=>calls 100000 100000 (.func 165) [v1] h2 QR):=
 Ayw.mpr ⟨rfl,rfl,rfl,rfl,rfl,rfl,rfl⟩
theorem Ay7 : Wu env 413 "Replace" = some 374 := by kernel_rfl
theorem Bd3{t:TypeId}{x:AV}{name:String}{args:List AV}{h:H}{k:KV}{f:FuncId}(hm:Wu env t name=some f)(hg:W1 (.func f) (x::args) h k):inv2 env W1 (.iface t x) name args h k:=by
 show Xf (CP env) W1 (.iface t x) name args h k
 simp only[Xf]
 rw[show Wu (CP env).E t name=some f from hm]
 exact hg
theorem Bg3:Bh R14 (0+3)=.iface 413 (.ptr (pOf 16) 0):=by unfold R14;rw[Ar];rfl
theorem Bl2{s:List UInt8}{h4:H}{k:KV}(hl:s.length≤10000000)(hq:W1 (.func 74) [.ptr (pOf 14) 0,.func (.func 214) [.ptr (pOf 14) 0] []] h4 fun _ h5=>QR2 h5)(hk:∀h,k (S (Co s)) h):W1 (.func 166) [.ptr (pOf 14) 0,S s] h4 k:=by
 refine A93 (n:=1) Bl (Bj8 ?_)
 unfold Aea
 rw[Bj,Ae,Hl]
 refine Tk hq fun _ h5 hh=>?_
 obtain⟨a14,a16,a24,a20,a23,an⟩:=hh
 rw[Bj,Ae,Av]
 refine Cz a14 (by decide) ?_
 rw[Bg3]
 refine Bd3 Ay7 ?_
 refine Blp hl ⟨a16,a24,a20,a23,by rw[an,Dp];decide⟩ fun h6=>?_
 rw[Cl];exact hk h6
theorem Bmd(s:List UInt8)(hl:s.length≤10000000):Pure PP G h0 111 [S s] (S (Co s)):=by
 refine Bas (n:=1) Bl (Bkx ?_)
 unfold Afa
 refine Ay1 As3 fun v h hr=>?_
 refine Tk (Ahc (Kx 100000 100000) hr) fun v3 h4 hh=>?_
 obtain⟨rfl,hc⟩:=hh
 refine Bl2 hl (Ahc (Kx 100000 100000) hc) fun h6=>?_
 rw[Cl]
theorem c62(s:List UInt8)(hl:s.length≤10000000):Pure PP G h0 62 [S s] (S (Rr s)):=by
 refine w62 (n:=1) Bl (g62 ?_)
 unfold Am8
 have hcnt:=Ml s
 have hcle:s.countP isQ≤s.length:=List.countP_le_length
 refine Dz (Bmd s hl) ?_
 rw[Cl]
 refine Alv (s:=[34]) (by simp only[List.length_singleton];omega) ?_
 refine Alv (s:=[34]++Co s) (t:=[34]) (by rw[List.length_append];simp only[List.length_singleton];omega) ?_
 rfl
end Go.Den
