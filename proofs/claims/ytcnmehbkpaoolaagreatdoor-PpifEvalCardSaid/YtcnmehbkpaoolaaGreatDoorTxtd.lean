/-
 Proof.
-/
import Derived.Test.YtcnmehbkpaoolaaGreatDoorNump
import Derived.KernelRfl
import Derived.Test.YtcnmehbkpaoolaaGreatDoorL8
noncomputable section
namespace Go.Den
open Go.RowKit
set_option maxRecDepth 100000
theorem Bfx{P:UInt8→Bool}(h:(List.range 256).all (fun i=>P (UInt8.ofNat i))=true)(b:UInt8):P b=true:=by
 have:=List.all_eq_true.1 h b.toNat (List.mem_range.2 b.toNat_lt)
 rwa [UInt8.ofNat_toNat] at this
def Lr(c:UInt8):Nat:=if 48≤c.toNat∧c.toNat≤57 then c.toNat-48 else if 97≤c.toNat∧c.toNat≤102 then c.toNat-87 else if 65≤c.toNat∧c.toNat≤70 then c.toNat-55 else 99
theorem A2h{lo hi x:Nat}{h:H}{k:Bool→H→Prop}(hk:k (decide (lo≤x∧x≤hi)) h):Ar (fun k6=>gate true (Er (Int.ofNat lo) (Int.ofNat x)) (k6 (Er (Int.ofNat x) (Int.ofNat hi)) h) (k6 false h)) k:=by
 refine Qm ?_
 rw[ile,ile]
 have:(decide (lo≤x)&&decide (x≤hi))=decide (lo≤x∧x≤hi):=by simp
 rw[this];exact hk
theorem c69(x:UInt8):Pure PP G h0 69 [.int .u8 (Int.ofNat x.toNat)] (.int .i64 (Int.ofNat (Lr x))):=by
 refine w69 (n:=1) Bw (g69 ?_)
 unfold Alv
 have hx:=x.toNat_lt
 refine A2h ?_
 refine Ap (fun e=>?_) (fun e=>?_)
 · have e:=of_decide_eq_true e
   have:Lr x=x.toNat-48:=if_pos e
   rw[Uj e.1,Wb (by omega),Ak,Cv (by omega),Ak,this]
 · have e:=of_decide_eq_false e
   refine A2h ?_
   refine Ap (fun e2=>?_) (fun e2=>?_)
   · have e2:=of_decide_eq_true e2
     have:Lr x=x.toNat-97+10:=by unfold Lr;rw[if_neg e,if_pos e2];omega
     rw[Uj e2.1,Wb (by omega),Ak,Cv (by omega),Ak,Eg,Cv (by omega),Ak,this]
   · have e2:=of_decide_eq_false e2
     refine A2h ?_
     refine Ap (fun e3=>?_) (fun e3=>?_)
     · have e3:=of_decide_eq_true e3
       have:Lr x=x.toNat-65+10:=by unfold Lr;rw[if_neg e,if_neg e2,if_pos e3];omega
       rw[Uj e3.1,Wb (by omega),Ak,Cv (by omega),Ak,Eg,Cv (by omega),Ak,this]
     · have e3:=of_decide_eq_false e3
       have:Lr x=99:=by unfold Lr;rw[if_neg e,if_neg e2,if_neg e3]
       rw[this]
def Xf(B:Nat)(set:List UInt8):Prop:=(B=8∧set=Pg)∨(B=10∧set=Aab)∨(B=16∧set=Ex)
theorem Nr(x:UInt8):(Lr x<16↔x∈Ex)∧(Lr x<10↔x∈Aab)∧(Lr x<8↔x∈Pg)∧(x∈Ex→Lr x=Fg x)∧Lr x<100:=by
 have h:=Bfx (P:=fun x=>(decide (Lr x<16)==Ex.contains x)&&(decide (Lr x<10)==Aab.contains x)&&(decide (Lr x<8)==Pg.contains x)&&(!(Ex.contains x)||Lr x==Fg x)&&decide (Lr x<100)) (by kernel_rfl) x
 simp only[Bool.and_eq_true,beq_iff_eq,Bool.or_eq_true,Bool.not_eq_true',decide_eq_true_eq] at h
 obtain⟨⟨⟨⟨h1,h2⟩,h3⟩,h4⟩,h5⟩:=h
 have tr:∀(a:Prop)[Decidable a](set:List UInt8),decide a=set.contains x→(a↔x∈set):=fun a _ set h=>by
  rw[←List.contains_iff_mem,←h,decide_eq_true_iff]
 refine⟨tr _ _ h1,tr _ _ h2,tr _ _ h3,fun hx=>?_,h5⟩
 rcases h4 with h4|h4
 · rw[←List.contains_iff_mem] at hx;rw[hx] at h4;cases h4
 · exact h4
theorem Xf.lt{B:Nat}{set:List UInt8}(b:Xf B set)(x:UInt8):Lr x<B↔x∈set:=by
 obtain⟨h1,h2,h3,_⟩:=Nr x
 rcases b with⟨rfl,rfl⟩|⟨rfl,rfl⟩|⟨rfl,rfl⟩
 · exact h3
 · exact h2
 · exact h1
theorem At2:∀x∈Aab,x∈Ex:=by decide
theorem Xf.hex{B:Nat}{set:List UInt8}(b:Xf B set):∀x∈set,x∈Ex:=by
 rcases b with⟨rfl,rfl⟩|⟨rfl,rfl⟩|⟨rfl,rfl⟩
 · exact Am1
 · exact At2
 · exact fun x h=>h
theorem Xf.two{B:Nat}{set:List UInt8}(b:Xf B set):8≤B∧B≤16:=by
 rcases b with⟨rfl,rfl⟩|⟨rfl,rfl⟩|⟨rfl,rfl⟩<;>decide
theorem Mj{c:UInt8}{r set:List UInt8}(h:c∈set):Cp (c::r) set=Cp r set+1:=by
 unfold Cp;rw[List.takeWhile_cons,if_pos (by simpa using h)];rfl
theorem Rb{c:UInt8}{r set:List UInt8}(h:c∉set):Cp (c::r) set=0:=by
 unfold Cp;rw[List.takeWhile_cons,if_neg (by simpa using h)];rfl
theorem Azp{s set:List UInt8}{at' B:Nat}{k:KV}(b:Xf B set)(hl:s.length≤1099511627776):∀(n i:Nat),s.length-(at'+i)<n→at'+i≤s.length→k (.int .i64 (Int.ofNat (i+Cp (s.drop (at'+i)) set))) h0→(r68 W1 k n).a1 s.length (enc s) (Int.ofNat at') (Int.ofNat B) (Int.ofNat i) h0
 |0,_,hn,_,_=>absurd hn (Nat.not_lt_zero _)
 |n+1,i,hn,hi,hk=>by
  refine Bcn ?_
  unfold Alw
  rw[Eg,Cv (by omega),Ak,ilt]
  refine Fu (fun e=>?_) (fun e=>?_)
  · have e:at'+i<s.length:=of_decide_eq_true e
    have hd:s.drop (at'+i)=s[at'+i]::s.drop (at'+i+1):=List.drop_eq_getElem_cons e
    rw[Ak,Bh]
    refine Cj e ?_
    refine Dh (c69 _) ?_
    rw[Au,ilt]
    refine Ap (fun e2=>?_) (fun e2=>?_)
    · have e2:s[at'+i]∈set:=(b.lt _).1 (of_decide_eq_true e2)
      rw[Ho (by omega),Ak]
      refine Azp b hl n (i+1) (by omega) (by omega) ?_
      rw[hd,Mj e2] at hk
      rw[show i+1+Cp (s.drop (at'+(i+1))) set=i+(Cp (s.drop (at'+i+1)) set+1) by rw[←Nat.add_assoc at' i 1];omega]
      exact hk
    · have e2:s[at'+i]∉set:=fun h=>(of_decide_eq_false e2) ((b.lt _).2 h)
      rw[hd,Rb e2] at hk
      exact hk
  · have e:¬at'+i<s.length:=of_decide_eq_false e
    have hd:s.drop (at'+i)=[]:=by rw[List.drop_eq_nil_iff];omega
    rw[hd] at hk
    exact Ca rfl hk
theorem c68{B:Nat}{set:List UInt8}(b:Xf B set)(s:List UInt8)(at':Nat)(ha:at'≤s.length)(hl:s.length≤1099511627776):Pure PP G h0 68 [S s,.int .i64 (Int.ofNat at'),.int .i64 (Int.ofNat B)] (.int .i64 (Int.ofNat (Cp (s.drop at') set))):=by
 refine w68 (n:=s.length+2) Bw (g68 ?_)
 unfold Alx
 refine Azp b hl _ 0 (by omega) ha ?_
 rw[Nat.add_zero,Nat.zero_add]
def Gu(prev:Option UInt8):List UInt8→Option (List UInt8)
 |[]=>some []
 |c::r=>if c=85 then(Gu (some c) r).map (117::·) else if c=76 then(if r.head? =some 108∨prev=some 108 then none else(Gu (some c) r).map (108::·)) else(Gu (some c) r).map (c::·)
def It:List (List UInt8):=[[],[117],[108],[117,108],[108,117],[108,108],[117,108,108],[108,108,117]]
def Lq(s:List UInt8):Bool×Bool:=match Gu none s with
 |none=>(false,false)
 |some w=>if w∈It then(w.contains 117,true) else(false,false)
def T8:Tm:=Option.rec .e (fun t=>t) (Jb (Gt 1) 8 [(0,(.str 0 0)),(1,(.str 1 117)),(2,(.str 1 108)),(3,(.str 2 27765)),(4,(.str 2 30060)),(5,(.str 2 27756)),(6,(.str 3 7105653)),(7,(.str 3 7695468))] (Bg (He [.str 0 0] 8) 0 .e))
theorem b8w(h:H):Ao env 44 (fun e ei=>Ai 8 [(0,(.str 0 0)),(1,(.str 1 117)),(2,(.str 1 108)),(3,(.str 2 27765)),(4,(.str 2 30060)),(5,(.str 2 27756)),(6,(.str 3 7105653)),(7,(.str 3 7695468))] h e ei)=some (.slice h.next 0 8 1 true,h.new (.row T8 8 0 9 true)):=by kernel_rfl
theorem Bb2{h:H}{b:P}(ha:h.at b=.row T8 8 0 9 true){r:Nat}(hr:r<8){K:Nat→Nat→Prop}(hk:∀t,It.drop r=t::It.drop (r+1)→(decide (r=1)||decide (r=3)||decide (r=4)||decide (6≤r))=t.contains 117→K t.length (enc t)):Dj 1 r (.slice b 0 8 1 true) fun v=>ld1 v h fun v=>asS v K:=by
 have key:∀t,It.drop r=t::It.drop (r+1)→(decide (r=1)||decide (r=3)||decide (r=4)||decide (6≤r))=t.contains 117→Co T8 r=S t→Dj 1 r (.slice b 0 8 1 true) fun v=>ld1 v h fun v=>asS v K:=by
  intro t ht ht2 e
  have hb:Dj 1 r (.slice b 0 8 1 true) (fun v=>ld1 v h fun v=>asS v K)=ld1 (.ptr b r) h fun v=>asS v K:=by
   match r,hr with
   |0,_|1,_|2,_|3,_|4,_|5,_|6,_|7,_=>rfl
  rw[hb]
  refine Jk ha hr ?_
  rw[e]
  exact hk t ht ht2
 match r,hr with
 |0,_=>exact key [] rfl rfl (by kernel_rfl)
 |1,_=>exact key [117] rfl rfl (by kernel_rfl)
 |2,_=>exact key [108] rfl rfl (by kernel_rfl)
 |3,_=>exact key [117,108] rfl rfl (by kernel_rfl)
 |4,_=>exact key [108,117] rfl rfl (by kernel_rfl)
 |5,_=>exact key [108,108] rfl rfl (by kernel_rfl)
 |6,_=>exact key [117,108,108] rfl rfl (by kernel_rfl)
 |7,_=>exact key [108,108,117] rfl rfl (by kernel_rfl)
theorem Azn{w:List UInt8}{h:H}{b:P}(ha:h.at b=.row T8 8 0 9 true){k:KV}:∀(n i:Nat),8-i<n→i≤8→(w∈It.drop i→k (.tuple [.bool (w.contains 117),.bool true]) h)→(w∉It.drop i→k (.tuple [.bool false,.bool false]) h)→(r70 W1 k n).a3 (.slice b 0 8 1 true) w.length (enc w) (Int.ofNat i) h
 |0,_,hn,_,_,_=>absurd hn (Nat.not_lt_zero _)
 |n+1,i,hn,hi,hk1,hk2=>by
  refine Bck ?_
  unfold Alq
  rw[Ri,ilt]
  refine Ap (fun e=>?_) (fun e=>?_)
  · have e:i<8:=of_decide_eq_true e
    rw[Bh]
    refine Bb2 ha e fun t h1 h2=>?_
    rw[Dg]
    rw[h1] at hk1 hk2
    refine Ap (fun e2=>?_) (fun e2=>?_)
    · have e2:t=w:=of_decide_eq_true e2
      refine Hf ?_
      refine Hf ?_
      refine Hf ?_
      rw[Lg,Lg,Lg,ile,h2,e2]
      exact hk1 (by rw[e2];simp)
    · have e2:¬t=w:=of_decide_eq_false e2
      have e3:¬w=t:=fun h=>e2 h.symm
      rw[Ho (by omega),Ak]
      refine Azn ha n (i+1) (by omega) e (fun h=>hk1 (by simp[h])) (fun h=>hk2 (by simp[h,e3]))
  · have e:i=8:=by
     have:¬i<8:=of_decide_eq_false e
     omega
    subst e
    exact hk2 (by simp[It])
theorem A75(x:UInt8)(h:H):Fs env (h.new (.row (T1 (Int.ofNat x.toNat)) 1 0 TB true)) 115 9 (.slice h.next 0 1 1 true)=some (S [x],h.new (.row (T1 (Int.ofNat x.toNat)) 1 0 TB true)):=
 Aip (l:=[x]) (Bs _ _) (Nat.le_refl 1) (Dx.new [x] _)
theorem Azo {s : List UInt8} {b : P} {k : KV} (hl : s.length ≤ 1099511627776) : ∀ (n i : Nat) (w : List UInt8) (h : H), 2 * (s.length - i) + 11 ≤ n → i ≤ s.length → w.length = i → h.at b = .row T8 8 0 9 true → b.nat < h.next.nat →
    (∀ m h', 10 ≤ m → h'.at b = .row T8 8 0 9 true → ∀ z, Gu (if i = 0 then none else s[i - 1]?) (s.drop i) = some z → (r70 W1 k m).a3 (.slice b 0 8 1 true) (w ++ z).length (enc (w ++ z)) (Int.ofNat 0) h') →
    (Gu (if i = 0 then none else s[i - 1]?) (s.drop i) = none → ∀ h', k (.tuple [.bool false, .bool false]) h') →
    (r70 W1 k n).a1 s.length (enc s) (.slice b 0 8 1 true) w.length (enc w) (Int.ofNat i) h
  | 0, _, _, _, hn, _, _, _, _, _, _ => absurd hn (by omega)
  | n + 1, i, w, h, hn, hi, hw, ha, hb, hk1, hk2 => by
    refine Bcm ?_
    unfold Als
    rw [ilt]
    by_cases e : i < s.length
    · refine Bz (decide_eq_true e) ?_
      have hd : s.drop i = s[i] :: s.drop (i + 1) := List.drop_eq_getElem_cons e
      obtain ⟨n, rfl⟩ : ∃ n', n = n' + 1 := ⟨n - 1, by omega⟩
      have nxt : (if i + 1 = 0 then none else s[i + 1 - 1]?) = some s[i] := by rw [if_neg (by omega)]; simp [e]
      have step : ∀ x : UInt8, Gu (if i = 0 then none else s[i - 1]?) (s.drop i) = (Gu (some s[i]) (s.drop (i + 1))).map (x :: ·) → (r70 W1 k (n + 1)).a2 s.length (enc s) (.slice b 0 8 1 true) w.length (enc w) (Int.ofNat i) (Int.ofNat x.toNat) h := by
        intro x hx
        refine Bcl ?_
        unfold Alr
        rw [Aye, Ac, A75, Ac, De]
        refine A8b (by rw [List.length_singleton]; omega) ?_
        rw [Ho (by omega), Ak]
        refine Azo hl n (i + 1) (w ++ [x]) _ (by omega) e (by rw [List.length_append, hw]; rfl) (by rw [Gw hb]; exact ha) (by rw [Aw]; omega) (fun m h' hm ha' z hz => ?_) (fun hz h' => ?_)
        · rw [nxt] at hz
          have := hk1 m h' hm ha' (x :: z) (by rw [hx, hz]; rfl)
          rw [List.append_assoc]; exact this
        · rw [nxt] at hz
          exact hk2 (by rw [hx, hz]; rfl) h'
      have unf : Gu (if i = 0 then none else s[i - 1]?) (s.drop i) = if s[i] = 85 then (Gu (some s[i]) (s.drop (i + 1))).map (117 :: ·) else if s[i] = 76 then (if (s.drop (i + 1)).head? = some 108 ∨ (if i = 0 then none else s[i - 1]?) = some 108 then none else (Gu (some s[i]) (s.drop (i + 1))).map (108 :: ·)) else (Gu (some s[i]) (s.drop (i + 1))).map (s[i] :: ·) := by
        rw [hd]; rfl
      rw [Bh]
      refine Cj e ?_
      rw [toNat_eq _ 85 (by decide), toNat_eq _ 76 (by decide)]
      refine Ap (fun e1 => ?_) (fun e1 => ?_)
      · have e1 : s[i] = 85 := of_decide_eq_true e1
        exact step 117 (by rw [unf, if_pos e1])
      · have e1 : ¬ s[i] = 85 := of_decide_eq_false e1
        refine Ap (fun e2 => ?_) (fun e2 => ?_)
        · have e2 : s[i] = 76 := of_decide_eq_true e2
          rw [Ho (by omega), Ak]
          have A : ∀ K : Bool → H → Prop, K (decide ((s.drop (i + 1)).head? = some 108)) h → Ar (fun k6 => gate true (Cs (Int.ofNat (i + 1)) (Int.ofNat s.length)) (fI (Int.ofNat (i + 1)) fun n9 => Df n9 fun m10 => Dq s.length (enc s) m10 fun m11 => k6 (Bm (Int.ofNat m11) (Int.ofNat 108)) h) (k6 false h)) K := by
            intro K hK
            rw [ilt]
            refine Fu (fun e3 => ?_) (fun e3 => ?_)
            · have e3 : i + 1 < s.length := of_decide_eq_true e3
              rw [Ak, Bh]
              refine Cj e3 ?_
              rw [toNat_eq _ 108 (by decide)]
              rw [List.drop_eq_getElem_cons e3] at hK
              have : decide ((s[i + 1] :: s.drop (i + 1 + 1)).head? = some 108) = decide (s[i + 1] = 108) := by
                show decide (some (s[i + 1]'e3) = some 108) = _
                rw [Bool.eq_iff_iff, decide_eq_true_eq, decide_eq_true_eq, Option.some.injEq]
              rw [this] at hK; exact hK
            · have e3 : ¬ i + 1 < s.length := of_decide_eq_false e3
              have : s.drop (i + 1) = [] := by rw [List.drop_eq_nil_iff]; omega
              rw [this] at hK; exact hK
          refine A _ ?_
          refine Mc (b := decide ((if i = 0 then none else s[i - 1]?) = some 108)) (fun k' hk' => ?_) ?_
          · rw [ilt]
            refine Fu (fun e3 => ?_) (fun e3 => ?_)
            · have e3 : 0 < i := of_decide_eq_true e3
              rw [Ah3 e3 (by omega), Ak, Bh]
              refine Cj (by omega) ?_
              rw [toNat_eq _ 108 (by decide)]
              rw [if_neg (by omega), List.getElem?_eq_getElem (by omega)] at hk'
              have : decide (some (s[i - 1]'(by omega)) = some (108 : UInt8)) = decide (s[i - 1]'(by omega) = 108) := by simp
              rw [this] at hk'; exact hk'
            · have e3 : ¬ 0 < i := of_decide_eq_false e3
              rw [if_pos (by omega)] at hk'
              exact hk'
          refine Ap (fun e3 => ?_) (fun e3 => ?_)
          · simp only [Bool.or_eq_true, decide_eq_true_eq] at e3
            exact hk2 (by rw [unf, if_neg e1, if_pos e2, if_pos e3]) h
          · simp only [Bool.or_eq_false_iff, decide_eq_false_iff_not] at e3
            exact step 108 (by rw [unf, if_neg e1, if_pos e2, if_neg (fun h => h.elim e3.1 e3.2)])
        · have e2 : ¬ s[i] = 76 := of_decide_eq_false e2
          exact step s[i] (by rw [unf, if_neg e1, if_neg e2])
    · refine Ca (decide_eq_false e) ?_
      have hd : s.drop i = [] := by rw [List.drop_eq_nil_iff]; omega
      have := hk1 n h (by omega) ha [] (by rw [hd]; rfl)
      rw [List.append_nil] at this
      exact this
theorem Abj{s z:List UInt8}(h:Gu none s=some z):Lq s=if z∈It then(z.contains 117,true) else(false,false):=by unfold Lq;rw[h]
theorem c70(s:List UInt8)(hl:s.length≤1099511627776):Pure PP G h0 70 [S s] (.tuple [.bool (Lq s).1,.bool (Lq s).2]):=by
 refine w70 (n:=2*s.length+20) Bw (g70 ?_)
 unfold Alu
 rw[b8w,Ac]
 refine Azo hl _ 0 [] _ (by omega) (Nat.zero_le _) rfl (Bs _ _) (by rw[Aw];omega) (fun m h' hm ha' z hz=>?_) (fun hz h'=>?_)
 · rw[if_pos rfl,List.drop_zero] at hz
   refine Azn (w:=z) ha' m 0 (by omega) (by omega) (fun hw=>?_) (fun hw=>?_)
   · show AV.tuple _=AV.tuple _
     rw[Abj hz,if_pos (show z∈It from hw)]
   · show AV.tuple _=AV.tuple _
     rw[Abj hz,if_neg (show z∉It from hw)]
 · rw[if_pos rfl,List.drop_zero] at hz
   show AV.tuple _=AV.tuple _
   unfold Lq;rw[hz]
def Mn(B:Nat)(set r:List UInt8):Option (Nat×Bool):=
 if Cp r set=0 then none else if Gh B 0 (r.take (Cp r set))<18446744073709551616 then(if(Lq (r.drop (Cp r set))).2=true then some (Gh B 0 (r.take (Cp r set)),(Lq (r.drop (Cp r set))).1||decide (9223372036854775807<Gh B 0 (r.take (Cp r set)))) else none) else none
def Ahj(s:List UInt8):Option (Nat×Bool):=if Hu s=true then Mn 16 Ex (s.drop 2) else if s.take 1=[48] then Mn 8 Pg s else Mn 10 Aab s
theorem b28(h:H):Ax env (env.ty 58) [] h=some (.agg [.int .u64 (Int.ofNat 0),.bool false],h):=by kernel_rfl
theorem Bfr(n:Int)(b:Bool)(h:H):Ax env (env.ty 58) [(0,(.int .u64 n)),(1,(.bool b))] h=some (.agg [.int .u64 n,.bool b],h):=by kernel_rfl
theorem Aoz{h:H}{p:P}{t:Tm}{e:TypeId}{a b:AV}{ok:Bool}{k:KV}(ha:h.at p=.row t 2 0 e true)(hk:∀h',k (.tuple [.agg [a,b],.bool ok]) h'):stn 2 (.ptr p 0) (.agg [a,b]) h fun h'=>ldn 2 (.ptr p 0) h' fun v=>k (.tuple [v,.bool ok]) h':=by
 refine Wd ha (Nat.le_refl _) rfl (by decide) (by decide) ?_
 refine Ab2 (Dd _ _ _) (by decide) ?_
 rw[gc2]
 exact hk _
theorem Agj{B v:Nat}(a b:List UInt8):Gh B v (a++b)=Gh B (Gh B v a) b:=by unfold Gh;rw[List.foldl_append]
section
variable{B at':Nat}{s set:List UInt8}{p:P}{t:Tm}{h:H}{k:KV}(b:Xf B set)(hl:s.length≤1099511627776)(hat:at'≤s.length)(ha:h.at p=.row t 2 0 58 true)(hk:∀h',k (Wx (Mn B set (s.drop at'))) h')
include b hl hat ha hk
theorem Azu (hN : Cp (s.drop at') set ≠ 0) : ∀ (n j : Nat), Cp (s.drop at') set - j < n → j ≤ Cp (s.drop at') set → Gh B 0 ((s.drop at').take j) < 18446744073709551616 →
    (r37 W1 k n).a1 s.length (enc s) (.ptr p 0) (Int.ofNat B) (Int.ofNat at') (Int.ofNat (Cp (s.drop at') set)) (Int.ofNat (Gh B 0 ((s.drop at').take j))) (Int.ofNat (at' + j)) h
  | 0, _, hn, _, _ => absurd hn (Nat.not_lt_zero _)
  | n + 1, j, hn, hj, hv => by
    refine Bc5 ?_
    unfold Amo
    have hr := Kr (s.drop at') set
    have hdl : (s.drop at').length = s.length - at' := List.length_drop
    have hB := b.two
    rw [Eg, Cv (by omega), Ak, ilt]
    by_cases e : j < Cp (s.drop at') set
    · refine Bz (decide_eq_true (by omega)) ?_
      have hjr : j < (s.drop at').length := by omega
      have hget : (s.drop at')[j] = s[at' + j] := List.getElem_drop
      have hmem : s[at' + j] ∈ set := by
        rw [← hget]
        refine Ra (s := s.drop at') (n := j + 1) (by omega) ?_
        rw [List.take_add_one, List.getElem?_eq_getElem hjr]; simp
      have hd : Lr s[at' + j] = Fg s[at' + j] := (Nr _).2.2.2.1 (b.hex _ hmem)
      have h16 := (As8 _ (b.hex _ hmem)).2.2
      have tk : Gh B 0 ((s.drop at').take (j + 1)) = Gh B 0 ((s.drop at').take j) * B + Fg s[at' + j] := by
        rw [List.take_add_one, List.getElem?_eq_getElem hjr, hget]
        rw [Agj]; rfl
      rw [Bh]
      refine Cj (by omega) ?_
      refine Dh (c69 _) ?_
      rw [Au, hd, Ko (show Fg s[at' + j] < 18446744073709551616 by omega), Ak, Uj (show Fg s[at' + j] ≤ 18446744073709551615 by omega), Ko (show 18446744073709551615 - Fg s[at' + j] < 18446744073709551616 by omega), Ak, Ko (show B < 18446744073709551616 by omega), Ak]
      have hq : ∀ K : Int → Prop, Rx .u64 (Int.ofNat (18446744073709551615 - Fg s[at' + j])) (Int.ofNat B) K = K (Int.ofNat ((18446744073709551615 - Fg s[at' + j]) / B)) := by
        intro K
        unfold Rx
        rw [Lg, decide_eq_false (show ¬ B = 0 by omega)]
        show fI (wrap .u64 (Int.ofNat ((18446744073709551615 - Fg s[at' + j]) / B))) K = _
        rw [Ko (by have := Nat.div_le_self (18446744073709551615 - Fg s[at' + j]) B; omega), Ak]
      rw [hq, ilt]
      have hle : Gh B 0 ((s.drop at').take j) ≤ (18446744073709551615 - Fg s[at' + j]) / B ↔ Gh B 0 ((s.drop at').take j) * B ≤ 18446744073709551615 - Fg s[at' + j] := Nat.le_div_iff_mul_le (by omega)
      refine Ap (fun e2 => ?_) (fun e2 => ?_)
      · have e2 := of_decide_eq_true e2
        rw [b28, Ac]
        have en : Mn B set (s.drop at') = none := by
          unfold Mn
          rw [if_neg hN, if_neg]
          have h2 : Gh B 0 ((s.drop at').take (j + 1)) ≤ Gh B 0 ((s.drop at').take (Cp (s.drop at') set)) := by
            have : (s.drop at').take (Cp (s.drop at') set) = (s.drop at').take (j + 1) ++ ((s.drop at').drop (j + 1)).take (Cp (s.drop at') set - (j + 1)) := by
              have := List.take_add (l := s.drop at') (i := j + 1) (j := Cp (s.drop at') set - (j + 1))
              rw [show j + 1 + (Cp (s.drop at') set - (j + 1)) = Cp (s.drop at') set by omega] at this
              exact this
            rw [this, Agj]
            exact Xg (by omega) _ _
          rw [tk] at h2
          omega
        refine Aoz ha fun h' => ?_
        have := hk h'
        rw [en] at this
        exact this
      · have e2 : ¬ (18446744073709551615 - Fg s[at' + j]) / B < Gh B 0 ((s.drop at').take j) := of_decide_eq_false e2
        have e3 := hle.1 (by omega)
        rw [Ak, show Int.ofNat (Gh B 0 ((s.drop at').take j)) * Int.ofNat B = Int.ofNat (Gh B 0 ((s.drop at').take j) * B) from rfl, Ko (by omega), Ak, Eg, Ko (by omega), Ak, Ho (by omega), Ak, ← tk]
        exact Azu hN n (j + 1) (by omega) e (by omega)
    · have ej : j = Cp (s.drop at') set := by omega
      subst ej
      refine Ca (decide_eq_false (by omega)) ?_
      rw [Ak, Bh]
      refine Ii (by omega) ?_
      refine Dh (c70 _ (by rw [List.length_drop]; omega)) ?_
      rw [Eb, Av, Eh, Av, Bj]
      have hdd : s.drop (at' + Cp (s.drop at') set) = (s.drop at').drop (Cp (s.drop at') set) := by rw [List.drop_drop]
      rw [hdd]
      have en : Mn B set (s.drop at') = if (Lq ((s.drop at').drop (Cp (s.drop at') set))).2 = true then some (Gh B 0 ((s.drop at').take (Cp (s.drop at') set)), (Lq ((s.drop at').drop (Cp (s.drop at') set))).1 || decide (9223372036854775807 < Gh B 0 ((s.drop at').take (Cp (s.drop at') set)))) else none := by
        unfold Mn
        rw [if_neg hN, if_pos hv]
      refine Ap (fun e2 => ?_) (fun e2 => ?_)
      · rw [if_neg (by simpa using e2)] at en
        rw [b28, Ac]
        refine Aoz ha fun h' => ?_
        have := hk h'
        rw [en] at this
        exact this
      · rw [if_pos (by simpa using e2)] at en
        refine Hf ?_
        rw [ilt, Bfr, Ac]
        refine Aoz ha fun h' => ?_
        have := hk h'
        rw [en] at this
        exact this
theorem Bff:(r37 W1 k (s.length+5)).a2 s.length (enc s) (.ptr p 0) (Int.ofNat B) (Int.ofNat at') h:=by
 refine Bc4 ?_
 unfold Amn
 refine Dh (c68 b s at' hat hl) ?_
 rw[Au,Lg]
 have hr:=Kr (s.drop at') set
 have hdl:(s.drop at').length=s.length-at':=List.length_drop
 refine Ap (fun e=>?_) (fun e=>?_)
 · have e:=of_decide_eq_true e
   rw[b28,Ac]
   refine Aoz ha fun h'=>?_
   have:=hk h'
   unfold Mn at this
   rw[if_pos e] at this
   exact this
 · have e:=of_decide_eq_false e
   exact Azu b hl hat ha hk e _ 0 (by omega) (Nat.zero_le _) (by show 0<_;decide)
end
theorem c37(s:List UInt8)(hl:s.length≤1099511627776):Pure PP G h0 37 [S s] (Wx (Ahj s)):=by
 refine w37 (n:=s.length+6) Bw (g37 ?_)
 unfold Amp
 refine Bo ?_
 have ha:(h0.new Da).at h0.next=.row (Bg [.int .u64 (Int.ofNat 0),.bool false] 0 .e) 2 0 58 true:=Bs _ _
 have go:∀(B at':Nat)(set:List UInt8),Xf B set→at'≤s.length→Ahj s=Mn B set (s.drop at')→(r37 W1 (fun v _=>v=Wx (Ahj s)) (s.length+5)).a2 s.length (enc s) (.ptr h0.next 0) (Int.ofNat B) (Int.ofNat at') (h0.new Da):=by
  intro B at' set b hat e
  exact Bff b hl hat ha fun h'=>by rw[e]
 match s,hl,go with
 |[],hl,go=>
  refine Fu (fun e=>by cases e) (fun _=>?_)
  refine Ca rfl ?_
  exact go 10 0 Aab (.inr (.inl ⟨rfl,rfl⟩)) (Nat.zero_le _) rfl
 |c::r,hl,go=>
  refine Fu (fun _=>?_) (fun e=>by rw[ilt] at e;simp at e)
  refine Cj (s:=c::r) (Nat.zero_lt_succ _) ?_
  rw[List.getElem_cons_zero,toNat_eq _ 48 (by decide)]
  refine Ap (fun e=>?_) (fun e=>?_)
  · have e:c=48:=of_decide_eq_true e
    subst e
    match r,hl,go with
    |[],hl,go=>
     refine Fu (fun e=>by cases e) (fun _=>?_)
     refine Ca rfl ?_
     exact go 8 0 Pg (.inl ⟨rfl,rfl⟩) (Nat.zero_le _) rfl
    |d::r,hl,go=>
     refine Fu (fun _=>?_) (fun e=>by rw[ilt] at e;simp at e)
     refine Cj (s:=48::d::r) (by simp) ?_
     refine Mc (b:=decide (d=88)) (fun k' hk'=>?_) ?_
     · refine Cj (s:=48::d::r) (by simp) ?_
       show k' (Bm (Int.ofNat d.toNat) (Int.ofNat 88)) _
       rw[toNat_eq _ 88 (by decide)];exact hk'
     show cnd (Bm (Int.ofNat d.toNat) (Int.ofNat 120)||decide (d=88)) _ _
     rw[toNat_eq _ 120 (by decide)]
     have hx:Hu (48::d::r)=(decide (d=120)||decide (d=88)):=by unfold Hu hx1 hx2;simp
     refine Ap (fun e=>?_) (fun e=>?_)
     · exact go 16 2 Ex (.inr (.inr ⟨rfl,rfl⟩)) (by simp) (by unfold Ahj;rw[hx,show(decide (d=120)||decide (d=88))=true from e,if_pos rfl])
     · refine go 8 0 Pg (.inl ⟨rfl,rfl⟩) (Nat.zero_le _) ?_
       unfold Ahj
       rw[hx,show(decide (d=120)||decide (d=88))=false from e,if_neg (by simp),if_pos (by rfl)]
       rfl
  · have e:¬c=48:=of_decide_eq_false e
    refine go 10 0 Aab (.inr (.inl ⟨rfl,rfl⟩)) (Nat.zero_le _) ?_
    unfold Ahj
    have hx:Hu (c::r)=false:=by unfold Hu hx1 hx2;cases r<;>simp[e]
    rw[hx,if_neg (by simp),if_neg (by simp[e])]
    rfl
theorem Abx:∀(p:Option UInt8)(s z:List UInt8),Gu p s=some z→z.length=s.length
 |_,[],z,h=>by cases h;rfl
 |p,c::r,z,h=>by
  have key:∀(x:UInt8),(Gu (some c) r).map (x::·)=some z→z.length=(c::r).length:=by
   intro x h
   cases hr:Gu (some c) r with
   |none=>rw[hr] at h;cases h
   |some y=>rw[hr] at h;cases h;rw[List.length_cons,List.length_cons,Abx _ r y hr]
  unfold Gu at h
  split at h
  · exact key _ h
  · split at h
    · split at h
      · cases h
      · exact key _ h
    · exact key _ h
theorem Abw{x:UInt8}(h1:x≠85)(h2:x≠76):∀(p:Option UInt8)(s z:List UInt8),Gu p s=some z→x∈s→x∈z
 |_,[],_,_,hx=>absurd hx (by simp)
 |p,c::r,z,h,hx=>by
  have key:∀(y:UInt8),(c=x→y=x)→(Gu (some c) r).map (y::·)=some z→x∈z:=by
   intro y hy h
   cases hr:Gu (some c) r with
   |none=>rw[hr] at h;cases h
   |some w=>
    rw[hr] at h;cases h
    rcases List.mem_cons.1 hx with rfl|hx
    · rw[hy rfl];simp
    · exact List.mem_cons_of_mem _ (Abw h1 h2 _ r w hr hx)
  unfold Gu at h
  split at h
  · rename_i e;exact key _ (fun e2=>absurd (e2.symm.trans e) h1) h
  · split at h
    · rename_i e
      split at h
      · cases h
      · exact key _ (fun e2=>absurd (e2.symm.trans e) h2) h
    · exact key _ (fun e=>e) h
theorem Ye:∀w∈It,w.length≤3∧∀x∈w,x∈Fj:=by decide
theorem Aql{s:List UInt8}{x:UInt8}(hx:x∈s)(h:x∉Fj):(Lq s).2=false:=by
 unfold Lq
 cases hz:Gu none s with
 |none=>rfl
 |some z=>
  have h1:x≠85:=fun e=>h (by subst e;decide)
  have h2:x≠76:=fun e=>h (by subst e;decide)
  have:=Abw h1 h2 none s z hz hx
  show(if z∈It then(z.contains 117,true) else(false,false)).2=false
  rw[if_neg (fun hw=>h ((Ye z hw).2 x this))]
theorem Aqk:∀(t:List UInt8),(∀x∈t,x∈Fj)→(Lq t).2=(Iv t).2∧((Iv t).2=true→(Lq t).1=(Iv t).1)
 |[],_=>by decide
 |[a],h=>(show∀a∈Fj,(Lq [a]).2=(Iv [a]).2∧((Iv [a]).2=true→(Lq [a]).1=(Iv [a]).1) by decide) a (h a (by simp))
 |[a,b],h=>(show∀a∈Fj,∀b∈Fj,(Lq [a,b]).2=(Iv [a,b]).2∧((Iv [a,b]).2=true→(Lq [a,b]).1=(Iv [a,b]).1) by decide) a (h a (by simp)) b (h b (by simp))
 |[a,b,c],h=>(show∀a∈Fj,∀b∈Fj,∀c∈Fj,(Lq [a,b,c]).2=(Iv [a,b,c]).2∧((Iv [a,b,c]).2=true→(Lq [a,b,c]).1=(Iv [a,b,c]).1) by decide) a (h a (by simp)) b (h b (by simp)) c (h c (by simp))
 |a::b::c::d::t,_=>by
  have h1:(Lq (a::b::c::d::t)).2=false:=by
   unfold Lq
   cases hz:Gu none (a::b::c::d::t) with
   |none=>rfl
   |some z=>
    have:=Abx _ _ _ hz
    show(if z∈It then(z.contains 117,true) else(false,false)).2=false
    rw[if_neg (fun hw=>by have:=(Ye z hw).1;simp at *;omega)]
  have long:∀r:List UInt8,3≤r.length→Pe r=false:=by
   intro r hr
   match r,hr with
   |_::_::_::_,_=>simp[Pe]
  have h2:(Iv (a::b::c::d::t)).2=false:=by
   show(if Wz a then(true,Pe (b::c::d::t)) else if Vt (a::b::c::d::t) then(true,Pe (a::b::c::d::t).dropLast) else(false,Pe (a::b::c::d::t)):Bool×Bool).2=false
   split
   · exact long _ (by simp)
   · split
     · exact long _ (by rw[List.length_dropLast];simp)
     · exact long _ (by simp)
  rw[h1,h2]
  exact⟨rfl,fun h=>by cases h⟩
theorem As6:∀x∈Ex,x∉Fj:=by decide
theorem Aou{dd t set:List UInt8}(h:Cp dd set<dd.length):Cp (dd++t) set=Cp dd set:=by
 induction dd with
 |nil=>exact absurd h (by simp)
 |cons c dd ih=>
  by_cases hc:c∈set
  · rw[List.cons_append,Mj hc,Mj hc]
    rw[Mj hc,List.length_cons] at h
    rw[ih (by omega)]
  · rw[List.cons_append,Rb hc,Rb hc]
theorem Aov{dd t set:List UInt8}(h:∀x∈dd,x∈set)(ht:∀x∈t,x∉set):Cp (dd++t) set=dd.length:=by
 induction dd with
 |nil=>
  cases t with
  |nil=>rfl
  |cons c t=>exact Rb (ht c (by simp))
 |cons c dd ih=>
  rw[List.cons_append,Mj (h c (by simp)),ih (fun x hx=>h x (by simp[hx]))];rfl
theorem Zg{B:Nat}{set dd t:List UInt8}(b:Xf B set)(ht:∀x∈t,x∈Fj)(hlast:∀x,dd.getLast? =some x→x∉Fj):Mn B set (dd++t)=Zh (Iv t).1 (Iv t).2 B set dd:=by
 obtain⟨hs1,hs2⟩:=Aqk t ht
 have hle:=Kr dd set
 by_cases hall:Cp dd set=dd.length
 · have hm:∀x∈dd,x∈set:=fun x hx=>Ra (s:=dd) (set:=set) (n:=dd.length) (by omega) (by rw[List.take_length];exact hx)
   have hr:Cp (dd++t) set=dd.length:=Aov hm fun x hx h=>As6 x (b.hex x h) (ht x hx)
   unfold Mn Zh
   rw[hr,List.take_left,List.drop_left,hall,hs1]
   by_cases hne:dd=[]
   · subst hne
     rw[if_pos (show([]:List UInt8).length=0 from rfl),if_pos (by simp)]
   · rw[if_neg (fun h=>hne (List.eq_nil_of_length_eq_zero h)),decide_eq_true rfl,decide_eq_false hne]
     cases hok:(Iv t).2 with
     |false=>simp
     |true=>simp[hs2 hok]
 · have hlt:Cp dd set<dd.length:=by omega
   have hr:Cp (dd++t) set=Cp dd set:=Aou hlt
   have hn2:Zh (Iv t).1 (Iv t).2 B set dd=none:=if_pos (by rw[decide_eq_false hall];simp)
   rw[hn2]
   unfold Mn
   rw[hr]
   have hdrop:(dd++t).drop (Cp dd set)=dd.drop (Cp dd set)++t:=List.drop_append_of_le_length (by omega)
   have hbad:(Lq ((dd++t).drop (Cp dd set))).2=false:=by
    rw[hdrop]
    have hne:dd.drop (Cp dd set)≠[]:=by rw[ne_eq,List.drop_eq_nil_iff];omega
    have hl:dd.getLast? =some ((dd.drop (Cp dd set)).getLast hne):=by
     have hdne:dd≠[]:=fun h=>by subst h;simp at hlt
     rw[List.getLast?_eq_some_getLast hdne,List.getLast_drop]
    exact Aql (x:=(dd.drop (Cp dd set)).getLast hne) (List.mem_append_left _ (List.getLast_mem hne)) (hlast _ hl)
   rw[hbad]
   split
   · rfl
   · split<;>rfl
theorem Ag2(s:List UInt8):∃t,s=Eu s Fj++t∧(∀x∈t,x∈Fj)∧∀x,(Eu s Fj).getLast? =some x→x∉Fj:=by
 refine⟨(s.reverse.takeWhile (·∈Fj)).reverse,?_,fun x hx=>?_,fun x hx=>?_⟩
 · unfold Eu
   rw[←List.reverse_append,List.takeWhile_append_dropWhile,List.reverse_reverse]
 · rw[List.mem_reverse] at hx
   have:=List.all_eq_true.1 List.all_takeWhile x hx
   simpa using this
 · unfold Eu at hx
   rw[List.getLast?_reverse] at hx
   have:=List.head?_dropWhile_not (fun x=>decide (x∈Fj)) s.reverse
   rw[hx] at this
   simpa using this
theorem Ahi(s:List UInt8):Ahj s=Vs s:=by
 obtain⟨t,h1,h2,h3⟩:=Ag2 s
 have hd:s.drop (Eu s Fj).length=t:=by
  conv=>lhs;arg 2;rw[h1]
  exact List.drop_left
 unfold Vs
 rw[hd]
 revert h1 h3
 generalize Eu s Fj=d
 intro h1 h3
 subst h1
 have hs:∀x∈t,x≠48∧x≠120∧x≠88:=fun x hx=>(show∀x∈Fj,x≠48∧x≠120∧x≠88 by decide) x (h2 x hx)
 have hx:Hu (d++t)=Hu d:=by
  unfold Hu hx1 hx2
  match d with
  |[]=>
   match t,hs with
   |[],_=>rfl
   |[a],hs=>simp
   |a::b::t,hs=>simp[(hs a (by simp)).1]
  |[a]=>
   match t,hs with
   |[],_=>rfl
   |b::t,hs=>simp[(hs b (by simp)).2]
  |a::b::d=>simp
 have h48:(d++t).take 1=[48]↔d.take 1=[48]:=by
  match d with
  |[]=>
   match t,hs with
   |[],_=>simp
   |a::t,hs=>simp[(hs a (by simp)).1]
  |a::d=>simp
 unfold Ahj
 rw[hx]
 by_cases e:Hu d=true
 · rw[if_pos e,if_pos e]
   have hd2:2≤d.length:=by
    unfold Hu at e
    rw[Bool.or_eq_true,decide_eq_true_eq,decide_eq_true_eq] at e
    rcases e with e|e<;>(have:=congrArg List.length e;simp[hx1,hx2] at this;omega)
   rw[List.drop_append_of_le_length hd2]
   refine Zg (.inr (.inr ⟨rfl,rfl⟩)) h2 fun x hx=>h3 x ?_
   have hne:d.drop 2≠[]:=fun h=>by rw[h] at hx;cases hx
   have hdne:d≠[]:=fun h=>by subst h;simp at hd2
   rw[List.getLast?_eq_some_getLast hne,List.getLast_drop] at hx
   rw[List.getLast?_eq_some_getLast hdne];exact hx
 · rw[if_neg e,if_neg e]
   by_cases e2:d.take 1=[48]
   · rw[if_pos e2,if_pos (h48.2 e2)]
     exact Zg (.inl ⟨rfl,rfl⟩) h2 h3
   · rw[if_neg e2,if_neg (fun h=>e2 (h48.1 h))]
     exact Zg (.inr (.inl ⟨rfl,rfl⟩)) h2 h3
end Go.Den
namespace Go.Den
open Go.RowKit
set_option maxRecDepth 100000
def Hw(q:UInt8)(s p:List UInt8):Bool:=decide (p.length+2≤s.length)&&decide (s.take p.length=p)&&decide ((s.drop p.length).head? =some q)&&decide (s.getLast? =some q)
def Dm(q:UInt8)(s:List UInt8):List (List UInt8)→Option Nat
 |[]=>none
 |p::ps=>if Hw q s p=true then some p.length else Dm q s ps
def A4b(o:Option Nat):AV:=match o with
 |some n=>.int .i64 (Int.ofNat n)
 |none=>.int .i64 (Int.negSucc 0)
theorem Aut{s:List UInt8}{q:UInt8}{b:P}{h:H}{k:KV}(hl:s.length≤1099511627776)(ha:h.at b=.row T5b 5 0 9 true):∀(n i:Nat),5-i<n→i≤5→k (A4b (Dm q s (Dc.drop i))) h→(Aha W1 k n).a1 s.length (enc s) (Int.ofNat q.toNat) (.slice b 0 5 1 true) (Int.ofNat i) h
 |0,_,hn,_,_=>absurd hn (Nat.not_lt_zero _)
 |n+1,i,hn,hi,hk=>by
  refine A5e ?_
  unfold Aeh
  rw[Ri,ilt]
  refine Ap (fun e=>?_) (fun e=>?_)
  · have e:i<5:=of_decide_eq_true e
    rw[Bh]
    refine Ajr ha e fun t rest h1 h2=>?_
    have htl:t.length≤2:=(show∀t∈Dc,t.length≤2 by decide) t (List.drop_subset i Dc (by rw[h1];simp))
    rw[h1] at hk
    rw[Eg,Cv (by omega),Ak]
    have fin:cnd (Hw q s t) (k (.int .i64 (Int.ofNat t.length)) h) (fI (wrap .i64 (Cl (Int.ofNat i) (Int.ofNat 1))) fun n30=>(Aha W1 k n).a1 s.length (enc s) (Int.ofNat q.toNat) (.slice b 0 5 1 true) n30 h):=by
     refine Ap (fun e2=>?_) (fun e2=>?_)
     · rw[show Dm q s (t::rest)=some t.length from if_pos e2] at hk
       exact hk
     · rw[Ho (by omega),Ak]
       rw[show Dm q s (t::rest)=Dm q s rest from if_neg (by rw[e2];simp),h2] at hk
       exact Aut hl ha n (i+1) (by omega) e hk
    rw[ile]
    by_cases e1:t.length+2≤s.length
    · have hh:(s.drop t.length).head? =some (s[t.length]'(by omega)):=by rw[List.drop_eq_getElem_cons (by omega)];rfl
      have hlast:s.getLast? =some (s[s.length-1]'(by omega)):=by rw[List.getLast?_eq_getElem?,List.getElem?_eq_getElem (by omega)]
      have ea:Hw q s t=(decide (s.take t.length=t)&&decide ((s[t.length]'(by omega))=q)&&decide ((s[s.length-1]'(by omega))=q)):=by
       unfold Hw
       rw[decide_eq_true e1,hh,hlast,Bool.true_and]
       congr 1
       · congr 1;rw[Bool.eq_iff_iff,decide_eq_true_eq,decide_eq_true_eq,Option.some.injEq]
       · rw[Bool.eq_iff_iff,decide_eq_true_eq,decide_eq_true_eq,Option.some.injEq]
      rw[ea] at fin
      rw[decide_eq_true e1]
      refine Lo (b:=decide (s.take t.length=t)) (fun k' hk'=>?_) ?_
      · refine Aac (by omega) ?_
        rw[Bh]
        refine Ajr ha e fun t' rest' h1' h2'=>?_
        rw[h1] at h1'
        cases h1'
        rw[Dg];exact hk'
      rw[Bool.true_and]
      refine Lo (b:=decide ((s[t.length]'(by omega))=q)) (fun k' hk'=>?_) ?_
      · refine Cj (by omega) ?_
        rw[Aj6];exact hk'
      refine Lo (b:=decide ((s[s.length-1]'(by omega))=q)) (fun k' hk'=>?_) ?_
      · rw[Ah3 (by omega) (by omega),Ak,Bh]
        refine Cj (by omega) ?_
        rw[Aj6];exact hk'
      exact fin
    · have ea:Hw q s t=false:=by unfold Hw;rw[decide_eq_false e1];rfl
      rw[ea] at fin
      rw[decide_eq_false e1]
      refine Fu (fun e=>by cases e) (fun _=>?_)
      refine Fu (fun e=>by cases e) (fun _=>?_)
      refine Fu (fun e=>by cases e) (fun _=>?_)
      exact fin
  · have e:i=5:=by
     have:¬i<5:=of_decide_eq_false e
     omega
    subst e
    exact hk
theorem Blc(s:List UInt8)(q:UInt8)(hl:s.length≤1099511627776):Pure PP G h0 121 [S s,.int .u8 (Int.ofNat q.toNat)] (A4b (Dm q s Dc)):=by
 refine Bil (n:=10) Bw (Bj3 ?_)
 unfold Aei
 rw[b5b,Ac]
 exact Aut hl (Bs _ _) 9 0 (by decide) (by decide) rfl
def Aa3(s:List UInt8):Option (List UInt8×UInt8):=match Dm 39 s Dc with
 |some n=>some (s.take n,39)
 |none=>match Dm 34 s Dc with
  |some n=>some (s.take n,34)
  |none=>none
def Ao7(o:Option (List UInt8×UInt8)):AV:=match o with
 |some p=>.tuple [S p.1,ub p.2,.bool true]
 |none=>.tuple [S [],.int .u8 (Int.ofNat 0),.bool false]
theorem Qo{q:UInt8}{s:List UInt8}{n:Nat}:∀ps,Dm q s ps=some n→∃p∈ps,n=p.length∧Hw q s p=true
 |[],h=>by cases h
 |p::ps,h=>by
  by_cases e:Hw q s p=true
  · rw[show Dm q s (p::ps)=some p.length from if_pos e] at h
    cases h
    exact⟨p,by simp,rfl,e⟩
  · rw[show Dm q s (p::ps)=Dm q s ps from if_neg e] at h
    obtain⟨p',h1,h2⟩:=Qo ps h
    exact⟨p',by simp[h1],h2⟩
theorem Qp{q:UInt8}{s:List UInt8}:∀ps,Dm q s ps=none→∀p∈ps,Hw q s p=false
 |[],_,p,hp=>absurd hp (by simp)
 |p::ps,h,p',hp=>by
  by_cases e:Hw q s p=true
  · rw[show Dm q s (p::ps)=some p.length from if_pos e] at h;cases h
  · rw[show Dm q s (p::ps)=Dm q s ps from if_neg e] at h
    rcases List.mem_cons.1 hp with rfl|hp
    · simpa using e
    · exact Qp ps h p' hp
theorem Ajs(o:Option Nat):plain (A4b o)=true:=by cases o<;>rfl
theorem Az0:Dx (Bg [.int .u8 (Int.ofNat 34)] 1 (Bg [.int .u8 (Int.ofNat 39)] 0 (Bg [.int .u8 (.ofNat 0),.int .u8 (.ofNat 0)] 0 .e))) [39,34]:=by
 intro i hi
 match i,hi with
 |0,_=>rw[Cd,if_neg (by simp),Cd];rfl
 |1,_=>rw[Cd];rfl
theorem Bfp(h:H):Ao env 115 (fun e ei=>Ai 2 [(0,(.int .u8 (Int.ofNat 39))),(1,(.int .u8 (Int.ofNat 34)))] h e ei)=some (.slice h.next 0 2 1 true,h.new (.row (Bg [.int .u8 (Int.ofNat 34)] 1 (Bg [.int .u8 (Int.ofNat 39)] 0 (Bg [.int .u8 (.ofNat 0),.int .u8 (.ofNat 0)] 0 .e))) 2 0 TB true)):=by kernel_rfl
theorem Azm{s:List UInt8}{b:P}{h:H}{t:Tm}{k:KV}{n i:Nat}(hl:s.length≤1099511627776)(ha:h.at b=.row t 2 0 TB true)(hc:Dx t [39,34])(hi:i<[39,34].length)
 (h1:∀m,Dm ([39,34][i]) s Dc=some m→k (.tuple [S (s.take m),ub ([39,34][i]),.bool true]) h) (h2:Dm ([39,34][i]) s Dc=none→(r72 W1 k n).a1 s.length (enc s) (.slice b 0 2 1 true) (Int.ofNat (i+1)) h):
 (r72 W1 k (n+1)).a1 s.length (enc s) (.slice b 0 2 1 true) (Int.ofNat i) h:=by
 have hi2:i<2:=hi
 refine Ay6 ?_
 unfold Agv
 rw[ilt]
 refine Bz (decide_eq_true hi2) ?_
 rw[Bh]
 refine Aev (l:=[39,34]) ha (Nat.le_refl 2) hc hi rfl ?_
 rw[Acj]
 refine Dh (Blc s _ hl) ?_ rfl (Ajs _)
 cases e:Dm ([39,34][i]) s Dc with
 |none=>
  show asI .i64 (.int .i64 (Int.negSucc 0)) _
  rw[Au]
  refine Ca (by rw[Iz];rfl) ?_
  rw[Ho (by omega),Ak]
  exact h2 e
 |some m=>
  show asI .i64 (.int .i64 (Int.ofNat m)) _
  obtain⟨p,hp,rfl,hT⟩:=Qo Dc e
  have hle:p.length≤s.length:=by
   unfold Hw at hT
   simp only[Bool.and_eq_true,decide_eq_true_eq] at hT
   have:=hT.1.1.1
   omega
  rw[Au,ile]
  refine Bz (decide_eq_true (Nat.zero_le _)) ?_
  rw[Bh]
  refine Aac hle ?_
  rw[Bh]
  refine Aev (l:=[39,34]) ha (Nat.le_refl 2) hc hi rfl ?_
  rw[Acj]
  exact h1 _ e
theorem c72(s:List UInt8)(hl:s.length≤1099511627776):Pure PP G h0 72 [S s] (Ao7 (Aa3 s)):=by
 refine w72 (n:=5) Bw (g72 ?_)
 unfold Alp
 rw[Bfp,Ac]
 refine Azm (i:=0) hl (Bs _ _) Az0 (by decide) (fun m e=>?_) (fun e=>?_)
 · show AV.tuple _=_
   unfold Aa3
   rw[show Dm 39 s Dc=some m from e];rfl
 · refine Azm (i:=1) hl (Bs _ _) Az0 (by decide) (fun m e2=>?_) (fun e2=>?_)
   · show AV.tuple _=_
     unfold Aa3
     rw[show Dm 39 s Dc=none from e,show Dm 34 s Dc=some m from e2];rfl
   · refine Ay6 ?_
     unfold Agv
     refine Ca (by rw[ilt];rfl) ?_
     show AV.tuple _=_
     unfold Aa3
     rw[show Dm 39 s Dc=none from e,show Dm 34 s Dc=none from e2];rfl
theorem Ao0:∀p∈Dc,∀x∈p,x≠34∧x≠39:=by decide
theorem Ahd{s p1 p2:List UInt8}(h1:s.take p1.length=p1)(q1:Gn (s.drop p1.length)=true)(hp2:p2∈Dc)(h2:s.take p2.length=p2):¬p1.length<p2.length:=by
 intro hlt
 cases hd:s.drop p1.length with
 |nil=>rw[hd] at q1;cases q1
 |cons c r=>
  rw[hd] at q1
  have hc:c=34∨c=39:=by simpa[Gn] using q1
  have hs:s[p1.length]? =some c:=by rw[←List.head?_drop,hd];rfl
  have h3:p2[p1.length]? =some c:=by rw[←h2,List.getElem?_take_of_lt hlt];exact hs
  have:=Ao0 p2 hp2 c (List.mem_of_getElem? h3)
  rcases hc with rfl|rfl
  · exact this.1 rfl
  · exact this.2 rfl
theorem Nz(s:List UInt8):∀ps,(Ci ps s).2=true→(Ci ps s).1∈ps
 |[],h=>by cases h
 |p::ps,h=>by
  by_cases e:(decide (s.take p.length=p)&&Gn (s.drop p.length))=true
  · rw[show Ci (p::ps) s=(p,true) from if_pos e];simp
  · rw[show Ci (p::ps) s=Ci ps s from if_neg e] at h ⊢
    exact List.mem_cons_of_mem _ (Nz s ps h)
theorem Sp(s:List UInt8):∀ps,(Ci ps s).2=false→∀p∈ps,¬(s.take p.length=p∧Gn (s.drop p.length)=true)
 |[],_,p,hp=>absurd hp (by simp)
 |p::ps,h,p',hp=>by
  by_cases e:(decide (s.take p.length=p)&&Gn (s.drop p.length))=true
  · rw[show Ci (p::ps) s=(p,true) from if_pos e] at h;cases h
  · rw[show Ci (p::ps) s=Ci ps s from if_neg e] at h
    rcases List.mem_cons.1 hp with rfl|hp
    · simpa using e
    · exact Sp s ps h p' hp
theorem Wn{p r:List UInt8}{q:UInt8}(hr:r≠[]):(p++q::r).getLast? =r.getLast? :=by
 rw[show p++q::r=(p++[q])++r by simp,List.getLast?_append,List.getLast?_eq_some_getLast hr];rfl
theorem Aap{q:UInt8}{s p:List UInt8}:Hw q s p=true↔∃r,s=p++q::r∧r≠[]∧r.getLast? =some q:=by
 unfold Hw
 simp only[Bool.and_eq_true,decide_eq_true_eq]
 constructor
 · rintro⟨⟨⟨h1,h2⟩,h3⟩,h4⟩
   cases hd:s.drop p.length with
   |nil=>rw[hd] at h3;cases h3
   |cons c r=>
    rw[hd] at h3
    cases h3
    have hs:s=p++q::r:=by rw[←List.take_append_drop p.length s,h2,hd]
    have hr:r≠[]:=fun e=>by subst e;rw[hs] at h1;simp at h1
    refine⟨r,hs,hr,?_⟩
    rw[hs] at h4
    rw[Wn hr] at h4
    exact h4
 · rintro⟨r,rfl,hr,hl⟩
   have:0<r.length:=List.length_pos_iff.2 hr
   refine⟨⟨⟨by simp;omega,by rw[List.take_left]⟩,by rw[List.drop_left];rfl⟩,?_⟩
   rw[Wn hr];exact hl
theorem Ab1{s p:List UInt8}{q:UInt8}(h:Aa3 s=some (p,q)):∃r,s=p++q::r∧r≠[]∧r.getLast? =some q∧Bf s=(p,true)∧(q=39∨q=34):=by
 have key:∀(q:UInt8)(n:Nat),(q=39∨q=34)→Dm q s Dc=some n→∃r,s=s.take n++q::r∧r≠[]∧r.getLast? =some q∧Bf s=(s.take n,true):=by
  intro q n hq e
  obtain⟨p,hp,rfl,hT⟩:=Qo Dc e
  obtain⟨r,h1,h2,h3⟩:=Aap.1 hT
  have htk:s.take p.length=p:=by rw[h1,List.take_left]
  have hdr:s.drop p.length=q::r:=by rw[h1,List.drop_left]
  have hqa:Gn (s.drop p.length)=true:=by rw[hdr];rcases hq with rfl|rfl<;>rfl
  refine⟨r,by rw[htk];exact h1,h2,h3,?_⟩
  rw[htk]
  cases hl:(Bf s).2 with
  |false=>exact absurd ⟨htk,hqa⟩ (Sp s Dc hl p hp)
  |true=>
   obtain⟨g1,g2⟩:=Jx s Dc hl
   have g3:=Nz s Dc hl
   have n1:=Ahd g1 g2 hp htk
   have n2:=Ahd htk hqa g3 g1
   have:(Bf s).1=p:=by
    have hlen:(Ci Dc s).1.length=p.length:=by omega
    rw[hlen] at g1
    exact g1.symm.trans htk
   rw[←this,←hl]
 unfold Aa3 at h
 cases e:Dm 39 s Dc with
 |some n=>
  rw[e] at h;cases h
  obtain⟨r,h1,h2,h3,h4⟩:=key 39 n (.inl rfl) e
  exact⟨r,h1,h2,h3,h4,.inl rfl⟩
 |none=>
  rw[e] at h
  cases e2:Dm 34 s Dc with
  |none=>rw[e2] at h;cases h
  |some n=>
   rw[e2] at h;cases h
   obtain⟨r,h1,h2,h3,h4⟩:=key 34 n (.inr rfl) e2
   exact⟨r,h1,h2,h3,h4,.inr rfl⟩
theorem Aci{s:List UInt8}(h:Aa3 s=none):Oo s=none:=by
 unfold Oo
 cases hl:(Bf s).2 with
 |false=>rfl
 |true=>
  rw[if_pos rfl]
  obtain⟨g1,g2⟩:=Jx s Dc hl
  have g3:=Nz s Dc hl
  cases hd:s.drop (Bf s).1.length with
  |nil=>rfl
  |cons q r=>
   rw[show s.drop (Ci Dc s).1.length=q::r from hd] at g2
   have hq:q=34∨q=39:=by simpa[Gn] using g2
   show(if r=[] then none else if r.getLast? =some q then Ft q (r.length+1) r.dropLast else none)=none
   by_cases hr:r=[]
   · rw[if_pos hr]
   · rw[if_neg hr]
     by_cases hlast:r.getLast? =some q
     · exfalso
       have hs:s=(Bf s).1++q::r:=by
        conv=>lhs;rw[←List.take_append_drop (Bf s).1.length s]
        rw[show s.take (Bf s).1.length=(Bf s).1 from g1,hd]
       have hT:Hw q s (Bf s).1=true:=Aap.2 ⟨r,hs,hr,hlast⟩
       unfold Aa3 at h
       rcases hq with rfl|rfl
       · cases e:Dm 39 s Dc with
         |some n=>rw[e] at h;cases h
         |none=>
          rw[e] at h
          cases e2:Dm 34 s Dc with
          |some n=>rw[e2] at h;cases h
          |none=>rw[show Hw 34 s (Bf s).1=false from Qp Dc e2 _ g3] at hT;cases hT
       · cases e:Dm 39 s Dc with
         |some n=>rw[e] at h;cases h
         |none=>rw[show Hw 39 s (Bf s).1=false from Qp Dc e _ g3] at hT;cases hT
     · rw[if_neg hlast]
theorem Aps{s p r:List UInt8}{q:UInt8}(hs:s=p++q::r)(hr:r≠[])(hlast:r.getLast? =some q)(hl:Bf s=(p,true)):Oo s=Ft q (r.length+1) r.dropLast:=by
 unfold Oo
 rw[hl,if_pos rfl]
 show Aey (s.drop p.length)=_
 rw[hs,List.drop_left]
 show(if r=[] then none else if r.getLast? =some q then Ft q (r.length+1) r.dropLast else none)=_
 rw[if_neg hr,if_pos hlast]
theorem Axs:∀i:Fin 11,Mi (Jl[i.1]'i.2)=some (Tg[i.1]'i.2):=by decide
def Aqc(B v:Nat)(ds:List UInt8):Nat:=ds.foldl (fun v c=>(v*B+Lr c)%256) v
theorem Axj:∀c∈Ex,Afr (Ahx c)=Fg c:=by decide
theorem Agi{B:Nat}:∀(ds:List UInt8)(v w:Nat),(∀x∈ds,x∈Ex)→v%256=w%256→(Agk B v (Ji ds))%256=(Aqc B w ds)%256
 |[],_,_,_,h=>h
 |c::ds,v,w,hm,h=>by
  have hc:=hm c (by simp)
  show(Agk B ((v*B+Afr (Ahx c))&&&4095) (Ji ds))%256=(Aqc B ((w*B+Lr c)%256) ds)%256
  refine Agi ds _ _ (fun x hx=>hm x (by simp[hx])) ?_
  rw[Axj c hc,(Nr c).2.2.2.1 hc,show(4095:Nat)=2^12-1 from rfl,Nat.and_two_pow_sub_one_eq_mod,show(2:Nat)^12=4096 from rfl,Nat.mod_mod,Nat.mod_mod_of_dvd _ (show 256 ∣ 4096 by decide)]
  rw[Nat.add_mod,Nat.mul_mod,h,←Nat.mul_mod,←Nat.add_mod]
theorem Ak9{B:Nat}:∀(ds:List UInt8)(v:Nat),v<256→Aqc B v ds<256
 |[],_,h=>h
 |_::ds,_,_=>Ak9 ds _ (Nat.mod_lt _ (by decide))
theorem Azl {s : List UInt8} {B f m : Nat} {k : KV} (hB : B ≤ 16) (hl : s.length ≤ 1099511627776) (hm : f + m ≤ s.length) : ∀ (n j v : Nat), m - j < n → j ≤ m → v < 256 → k (.tuple [.int .u8 (Int.ofNat (Aqc B v (((s.drop f).take m).drop j))), .int .i64 (Int.ofNat (f + m))]) h0 →
    (r73 W1 k n).a2 s.length (enc s) (Int.ofNat v) (Int.ofNat m) (Int.ofNat B) (Int.ofNat f) (Int.ofNat (f + j)) h0
  | 0, _, _, hn, _, _, _ => absurd hn (Nat.not_lt_zero _)
  | n + 1, j, v, hn, hj, hv, hk => by
    refine Bci ?_
    unfold Alm
    have hlen : ((s.drop f).take m).length = m := by rw [List.length_take, List.length_drop]; omega
    rw [Eg, Cv (by omega), Ak, ilt]
    by_cases e : j < m
    · refine Bz (decide_eq_true (by omega)) ?_
      have hd : ((s.drop f).take m).drop j = s[f + j] :: ((s.drop f).take m).drop (j + 1) := by
        rw [List.drop_eq_getElem_cons (by omega)]
        congr 1
        rw [List.getElem_take, List.getElem_drop]
      have hvB : v * B ≤ 256 * 16 := Nat.mul_le_mul (by omega) hB
      have h100 := (Nr s[f + j]).2.2.2.2
      rw [show Int.ofNat v * Int.ofNat B = Int.ofNat (v * B) from rfl, Cv (by omega), Ak, Bh]
      refine Cj (by omega) ?_
      refine Dh (c69 _) ?_
      rw [Au, Eg, Cv (by omega), Ak, Ba7 (by decide), Ho (by omega), Ak]
      refine Azl hB hl hm n (j + 1) _ (by omega) e (Nat.mod_lt _ (by decide)) ?_
      rw [hd] at hk
      exact hk
    · have ej : j = m := by omega
      subst ej
      refine Ca (decide_eq_false (by omega)) ?_
      have hd : ((s.drop f).take j).drop j = [] := by rw [List.drop_eq_nil_iff]; omega
      rw [hd] at hk
      rw [Wb hv, Ak, Ak]
      exact hk
theorem Aui{s set:List UInt8}{B f m n:Nat}(b:Xf B set)(hl:s.length≤1099511627776)(hm:m≤Cp (s.drop f) set)(hf:f≤s.length)(hn:s.length+2≤n){k:KV}(hk:k (.tuple [ub (Sb s (f+m) f B).1,.int .i64 (Int.ofNat (Sb s (f+m) f B).2)]) h0):(r73 W1 k (n+1)).a3 s.length (enc s) (Int.ofNat 0) (Int.ofNat m) (Int.ofNat B) (Int.ofNat f) h0:=by
 refine Bch ?_
 unfold All
 have hr:=Kr (s.drop f) set
 have hdl:(s.drop f).length=s.length-f:=List.length_drop
 rw[Lg]
 unfold Sb at hk
 refine Ap (fun e=>?_) (fun e=>?_)
 · have e:m=0:=of_decide_eq_true e
   rw[if_pos (by omega)] at hk
   exact hk
 · have e:¬m=0:=of_decide_eq_false e
   rw[if_neg (by omega)] at hk
   have hB:=b.two
   refine Azl (f:=f) hB.2 hl (by omega) n 0 0 (by omega) (Nat.zero_le _) (by decide) ?_
   rw[List.drop_zero]
   have hmem:∀x∈(s.drop f).take m,x∈Ex:=fun x hx=>b.hex x (Ra hm hx)
   have e1:f+m-f=m:=by omega
   rw[e1] at hk
   have e2:(UInt8.ofNat (Agk B 0 (Ji ((s.drop f).take m)))).toNat=Aqc B 0 ((s.drop f).take m):=by
    have h1:=Agi (B:=B) ((s.drop f).take m) 0 0 hmem rfl
    have h2:=Ak9 (B:=B) ((s.drop f).take m) 0 (by decide)
    have h3:(UInt8.ofNat (Agk B 0 (Ji ((s.drop f).take m)))).toNat=Agk B 0 (Ji ((s.drop f).take m))%256:=by simp
    rw[h3,h1,Nat.mod_eq_of_lt h2]
   have hk:k (.tuple [.int .u8 (Int.ofNat (UInt8.ofNat (Agk B 0 (Ji ((s.drop f).take m)))).toNat),.int .i64 (Int.ofNat (f+m))]) h0:=hk
   rw[e2] at hk
   exact hk
theorem Auj{s:List UInt8}{k:KV}(hl:s.length≤1099511627776)(hk:k (.tuple [ub (Du s).1,.int .i64 (Int.ofNat (Du s).2)]) h0):∀(n i:Nat),11-i+s.length+5≤n→i≤11→(∀c r,s=c::r→c∉Jl.take i)→(r73 W1 k n).a1 s.length (enc s) (Int.ofNat i) h0
 |0,_,hn,_,_=>absurd hn (by omega)
 |n+1,i,hn,hi,hp=>by
  refine Bcj ?_
  unfold Aln
  rw[ilt]
  by_cases e:i<11
  · refine Bz (decide_eq_true e) ?_
    have he:i<Jl.length:=e
    cases s with
    |nil=>
     refine Fu (fun e=>by cases e) (fun _=>?_)
     refine Ca rfl ?_
     rw[Ho (by omega),Ak]
     exact Auj hl hk n (i+1) (by omega) e fun c r h=>by cases h
    |cons c r=>
     refine Fu (fun _=>?_) (fun e=>by rw[ilt] at e;simp at e)
     refine Cj (s:=c::r) (Nat.zero_lt_succ _) ?_
     rw[Bh]
     refine Cj (s:=Jl) he ?_
     rw[List.getElem_cons_zero,Aj6]
     refine Ap (fun e2=>?_) (fun e2=>?_)
     · have e2:c=Jl[i]:=of_decide_eq_true e2
       rw[Bh]
       refine Cj (s:=Tg) (show i<11 from e) ?_
       have hs:Mi c=some (Tg[i]'(show i<11 from e)):=by rw[e2];exact Axs ⟨i,e⟩
       have ee:Du (c::r)=(Tg[i]'(show i<11 from e),1):=by
        show(match Mi c with|some y=>(y,1)|none=>_:UInt8×Nat)=_
        rw[hs]
       rw[ee] at hk
       exact hk
     · have e2:¬c=Jl[i]:=of_decide_eq_false e2
       rw[Ho (by omega),Ak]
       refine Auj hl hk n (i+1) (by omega) e fun c' r' h=>?_
       cases h
       have hp:=hp c r rfl
       rw[List.take_add_one,List.getElem?_eq_getElem he]
       simp only[Option.toList_some,List.mem_append,List.mem_singleton,not_or]
       exact⟨hp,e2⟩
  · have ei:i=11:=by omega
    subst ei
    refine Ca rfl ?_
    refine Dh (c68 (.inl ⟨rfl,rfl⟩) s 0 (Nat.zero_le _) hl) ?_
    rw[List.drop_zero,Au,Bca,Ac,Au]
    obtain⟨n,rfl⟩:∃n',n=n'+1:=⟨n-1,by omega⟩
    cases s with
    |nil=>
     refine Fu (fun e=>by cases e) (fun _=>?_)
     refine Ca rfl ?_
     refine Aui (s:=[]) (f:=0) (B:=8) (.inl ⟨rfl,rfl⟩) hl (Nat.min_le_left _ _) (Nat.zero_le _) (by simp;omega) ?_
     exact hk
    |cons c r=>
     have hin:c∉Jl:=by have:=hp c r rfl;exact this
     refine Fu (fun _=>?_) (fun e=>by rw[ilt] at e;simp at e)
     refine Cj (s:=c::r) (Nat.zero_lt_succ _) ?_
     rw[List.getElem_cons_zero,toNat_eq _ 120 (by decide)]
     have ee:Du (c::r)=if c=120 then Sb (c::r) (1+Cp r Ex) 1 16 else Sb (c::r) (min (Cp (c::r) Pg) 3) 0 8:=by
      show(match Mi c with|some y=>(y,1)|none=>_:UInt8×Nat)=_
      rw[Agp hin]
     refine Ap (fun e2=>?_) (fun e2=>?_)
     · have e2:c=120:=of_decide_eq_true e2
       rw[ee,if_pos e2] at hk
       refine Dh (c68 (.inr (.inr ⟨rfl,rfl⟩)) (c::r) 1 (by simp) hl) ?_
       rw[Au]
       exact Aui (s:=c::r) (f:=1) (B:=16) (.inr (.inr ⟨rfl,rfl⟩)) hl (Nat.le_refl _) (by simp) (by omega) hk
     · have e2:¬c=120:=of_decide_eq_false e2
       rw[ee,if_neg e2] at hk
       refine Aui (s:=c::r) (f:=0) (B:=8) (.inl ⟨rfl,rfl⟩) hl (Nat.min_le_left _ _) (Nat.zero_le _) (by omega) ?_
       rw[Nat.zero_add];exact hk
theorem c73(s:List UInt8)(hl:s.length≤1099511627776):Pure PP G h0 73 [S s] (.tuple [ub (Du s).1,.int .i64 (Int.ofNat (Du s).2)]):=by
 refine w73 (n:=s.length+30) Bw (g73 ?_)
 unfold Alo
 exact Auj hl rfl _ 0 (by omega) (by omega) fun c r _=>by simp
theorem Buf.str{g:Bool}{h:H}{v:AV}{l:List UInt8}(hb:Buf g h v l):Fs env h 115 9 v=some (S l,h):=by
 rcases hb with⟨rfl,rfl⟩|⟨q,t,m,z,w,rfl,h1,h2,h3,h4,h5,_⟩
 · rw[Bfb]
   show Afs env 115 h=_
   kernel_rfl
 · exact Aip h2 h3 h5
theorem Bfv{g:Bool}{h:H}{v:AV}{l:List UInt8}{x:UInt8}(hb:Buf g h v l)(hl:l.length+1≤1099511627776){K:KV}(hk:∀v' h',Buf false h' v' (l++[x])→K v' h'):
 oK (Cb env .append [115,115] [v,.slice h.next 0 1 1 true] (h.new (.row (T1 (Int.ofNat x.toNat)) 1 0 TB true))) K:=by
 have hx:Ev (h.new (.row (T1 (Int.ofNat x.toNat)) 1 0 TB true)) 1 (.slice h.next 0 1 1 true)=some ([x].length,ubs [x]):=by
  show(Option.rec none (fun cs=>some (1,cs)) ((h.new (.row (T1 (Int.ofNat x.toNat)) 1 0 TB true)).read h.next 0 1):Option (Nat×List AV))=_
  have hr:(h.new (.row (T1 (Int.ofNat x.toNat)) 1 0 TB true)).read h.next 0 1=some (ubs [x]):=by
   show Hp.Im _ _ _ _ _ _=_
   unfold Hp.Im
   rw[Bs]
   kernel_rfl
  rw[hr];rfl
 obtain⟨v',h3,e3,b3,_,_⟩:=Avb (hb.mono (Wu.new (o:=.row (T1 (Int.ofNat x.toNat)) 1 0 TB true))) hx (by simp) hl
 rw[Az1,e3,Ac]
 exact hk v' h3 b3
theorem Aum {q : UInt8} {s : List UInt8} {k : KV} (hl : s.length ≤ 549755813888) : ∀ (n i m : Nat) (acc : List UInt8) (v : AV) (h : H), 2 * (s.length - i) + 2 ≤ n → i ≤ s.length → s.length - i < m → acc.length + (s.length - i) ≤ 549755813888 → Buf false h v acc → (∀ h', k (Xc ((Ft q m (s.drop i)).map (acc ++ ·))) h') →
    (r41 W1 k n).a1 (Int.ofNat q.toNat) s.length (enc s) v (Int.ofNat i) h
  | 0, _, _, _, _, _, hn, _, _, _, _, _ => absurd hn (by omega)
  | n + 1, i, m, acc, v, h, hn, hi, hm, ha, hb, hk => by
    refine Bc1 ?_
    unfold Ami
    rw [ilt]
    obtain ⟨m, rfl⟩ : ∃ m', m = m' + 1 := ⟨m - 1, by omega⟩
    have mm : ∀ (x : UInt8) (o : Option (List UInt8)), (o.map (x :: ·)).map (acc ++ ·) = o.map ((acc ++ [x]) ++ ·) := by
      intro x o
      cases o with
      | none => rfl
      | some l => simp
    by_cases e : i < s.length
    · refine Bz (decide_eq_true e) ?_
      obtain ⟨n, rfl⟩ : ∃ n', n = n' + 1 := ⟨n - 1, by omega⟩
      have hd : s.drop i = s[i] :: s.drop (i + 1) := List.drop_eq_getElem_cons e
      have eb : Ft q (m + 1) (s.drop i) = if s[i] = q then none else if s[i] = 92 then (if (Du (s.drop (i + 1))).2 = 0 then none else (Ft q m ((s.drop (i + 1)).drop (Du (s.drop (i + 1))).2)).map ((Du (s.drop (i + 1))).1 :: ·)) else (Ft q m (s.drop (i + 1))).map (s[i] :: ·) := by rw [hd]; rfl
      rw [eb] at hk
      rw [Bh]
      refine Cj e ?_
      rw [Aj6]
      refine Ap (fun e1 => ?_) (fun e1 => ?_)
      · have e1 : s[i] = q := of_decide_eq_true e1
        rw [if_pos e1] at hk
        exact hk h
      · have e1 : ¬ s[i] = q := of_decide_eq_false e1
        rw [if_neg e1] at hk
        rw [toNat_eq _ 92 (by decide)]
        refine Ap (fun e2 => ?_) (fun e2 => ?_)
        · have e2 : s[i] = 92 := of_decide_eq_true e2
          rw [if_pos e2] at hk
          rw [Ho (by omega), Ak, Bh]
          refine Ii (by omega) ?_
          have hle := Afl (s.drop (i + 1))
          rw [List.length_drop] at hle
          refine Dh (c73 _ (by rw [List.length_drop]; omega)) ?_
          rw [Eb, Acj, Eh, Au, Lg]
          refine Ap (fun e3 => ?_) (fun e3 => ?_)
          · have e3 := of_decide_eq_true e3
            rw [if_pos e3] at hk
            exact hk h
          · have e3 := of_decide_eq_false e3
            rw [if_neg e3] at hk
            rw [Aye, Ac]
            refine Bfv hb (by omega) fun v' h' hb' => ?_
            rw [Eg, Cv (by omega), Ak]
            refine Ay9 ?_
            unfold Agz
            rw [Ho (by omega), Ak]
            refine Aum hl n _ m (acc ++ [(Du (s.drop (i + 1))).1]) v' h' (by omega) (by omega) (by omega) (by rw [List.length_append, List.length_singleton]; omega) hb' fun h2 => ?_
            have := hk h2
            rw [mm, List.drop_drop] at this
            rw [show i + (Du (s.drop (i + 1))).2 + 1 = i + 1 + (Du (s.drop (i + 1))).2 by omega]
            exact this
        · have e2 : ¬ s[i] = 92 := of_decide_eq_false e2
          rw [if_neg e2] at hk
          rw [Bh]
          refine Cj e ?_
          rw [Aye, Ac]
          refine Bfv hb (by omega) fun v' h' hb' => ?_
          refine Ay9 ?_
          unfold Agz
          rw [Ho (by omega), Ak]
          refine Aum hl n (i + 1) m (acc ++ [s[i]]) v' h' (by omega) e (by omega) (by rw [List.length_append, List.length_singleton]; omega) hb' fun h2 => ?_
          have := hk h2
          rw [mm] at this
          exact this
    · refine Ca (decide_eq_false e) ?_
      have hd : s.drop i = [] := by rw [List.drop_eq_nil_iff]; omega
      rw [hb.str, Ac, De]
      have := hk h
      rw [hd, show (Ft q (m + 1) []).map (acc ++ ·) = some acc by show some (acc ++ []) = _; rw [List.append_nil]] at this
      exact this
theorem Zb(o:Option (List UInt8×UInt8)):plain (Ao7 o)=true:=by cases o<;>rfl
theorem c41(s:List UInt8)(hl:s.length≤549755813888):Pure PP G h0 41 [S s] (Xc (Oo s)):=by
 refine w41 (n:=2*s.length+10) Bw (g41 ?_)
 unfold Amj
 refine Dh (c72 s (by omega)) ?_ rfl (Zb _)
 cases e:Aa3 s with
 |none=>
  rw[show Ao7 none=.tuple [S [],.int .u8 (Int.ofNat 0),.bool false] from rfl,Eb,De,Eh,Au,Aie,Av]
  refine Bz rfl ?_
  show AV.tuple _=_
  rw[Aci e];rfl
 |some p=>
  obtain⟨p,q⟩:=p
  obtain⟨r,h1,h2,h3,h4,_⟩:=Ab1 e
  have hb:=Aps h1 h2 h3 h4
  have hrl:0<r.length:=List.length_pos_iff.2 h2
  have hsl:s.length=p.length+(r.length+1):=by rw[h1];simp
  rw[show Ao7 (some (p,q))=.tuple [S p,ub q,.bool true] from rfl,Eb,De,Eh,Acj,Aie,Av]
  refine Ca rfl ?_
  rw[Ho (by omega),Ak,Ah3 (by omega) (by omega),Ak,Bh,Bh]
  refine Tj (by omega) (by omega) ?_
  have hcut:(s.drop (p.length+1)).take (s.length-1-(p.length+1))=r.dropLast:=by
   rw[h1,show p++q::r=(p++[q])++r by simp,show p.length+1=(p++[q]).length by simp,List.drop_left,List.dropLast_eq_take]
   congr 1
   simp;omega
  rw[hcut]
  have hdl:r.dropLast.length=r.length-1:=List.length_dropLast
  refine Aum (q:=q) (by omega) _ 0 (r.length+1) [] .Cy h0 (by omega) (Nat.zero_le _) (by omega) (by simp;omega) (.inl ⟨rfl,rfl⟩) fun h'=>?_
  rw[List.drop_zero,hb]
  show Xc ((Ft q (r.length+1) r.dropLast).map fun x=>x)=_
  rw[Option.map_id']
theorem A4a{x b:Nat}(hb:b<256):(x*256%4294967296)|||b=(x*256+b)%4294967296:=by
 have h1:x*256%4294967296=2^8*(x%16777216):=by
  rw[show(4294967296:Nat)=16777216*256 by decide,Nat.mul_mod_mul_right,Nat.mul_comm]
 have h2:=Nat.two_pow_add_eq_or_of_lt (i:=8) (b:=b) hb (x%16777216)
 rw[h1,←h2]
 show 256*(x%16777216)+b=_
 omega
def Ajc(v:Nat)(l:List UInt8):Nat:=l.foldl (fun v b=>(v*256+b.toNat)%4294967296) v
theorem Abi:∀(l:List UInt8)(v:Nat),Ayj v l=Ajc v l
 |[],_=>rfl
 |b::l,v=>by
  show Ayj ((v*256%4294967296)|||b.toNat) l=Ajc ((v*256+b.toNat)%4294967296) l
  rw[A4a b.toNat_lt,Abi l]
theorem Awb{n:Nat}(h:n<256):wrap .i8 (Int.ofNat n)=if 127<n then(n:Int)-256 else(n:Int):=by
 rw[Dv]
 by_cases h1:127<n
 · rw[if_pos h1]
   simp[IntKind.wrap,IntKind.bits,IntKind.signed]
   omega
 · rw[if_neg h1]
   simp[IntKind.wrap,IntKind.bits,IntKind.signed]
   omega
theorem wrap_i32{n:Nat}(h:n<4294967296):wrap .i32 (Int.ofNat n)=if 2147483648≤n then(n:Int)-4294967296 else(n:Int):=by
 rw[Dv]
 by_cases h1:2147483648≤n
 · rw[if_pos h1]
   simp[IntKind.wrap,IntKind.bits,IntKind.signed]
   omega
 · rw[if_neg h1]
   simp[IntKind.wrap,IntKind.bits,IntKind.signed]
   omega
theorem Aob{p:P}{h:H}{t:Tm}{L:List UInt8}{n:Int}{m:Nat}{k:KV}(ha:h.at p=.row t 2 0 58 true)(hk:∀h',k (.tuple [.agg [.int .u64 (wrap .u64 n),.bool (decide (L=[117])||decide (L=[85]))],.bool true]) h'):(r39 W1 k (m+1)).a2 (.ptr p 0) L.length (enc L) n h:=by
 refine Bc2 ?_
 unfold Amk
 rw[Ak]
 refine Hf ?_
 rw[Azg,Bdf,Bfr,Ac]
 exact Aoz ha hk
theorem Azt {p : P} {h : H} {t : Tm} {L l : List UInt8} {k : KV} (ha : h.at p = .row t 2 0 58 true) (hl : l.length ≤ 1000) (hk : ∀ h', k (.tuple [.agg [.int .u64 (wrap .u64 (wrap .i64 (wrap .i32 (Int.ofNat (Ajc 0 l))))), .bool (decide (L = [117]) || decide (L = [85]))], .bool true]) h') : ∀ (n i v : Nat), l.length - i + 2 ≤ n → i ≤ l.length → v < 4294967296 → Ajc v (l.drop i) = Ajc 0 l →
    (r39 W1 k n).a1 (.ptr p 0) L.length (enc L) l.length (enc l) (Int.ofNat v) (Int.ofNat i) h
  | 0, _, _, hn, _, _, _ => absurd hn (by omega)
  | n + 1, i, v, hn, hi, hv, hu => by
    refine Bc3 ?_
    unfold Aml
    rw [ilt]
    by_cases e : i < l.length
    · refine Bz (decide_eq_true e) ?_
      have hd : l.drop i = l[i] :: l.drop (i + 1) := List.drop_eq_getElem_cons e
      have hx := (l[i]).toNat_lt
      rw [show Int.ofNat v * Int.ofNat 256 = Int.ofNat (v * 256) from rfl, Cv (by omega), Ak, Bh]
      refine Cj e ?_
      rw [Cv (by omega), Ak, Eg, Cv (by omega), Ak, Ba7 (by decide), Ho (by omega), Ak]
      rw [hd] at hu
      exact Azt ha hl hk n (i + 1) _ (by omega) e (Nat.mod_lt _ (by decide)) hu
    · refine Ca (decide_eq_false e) ?_
      have hd : l.drop i = [] := by rw [List.drop_eq_nil_iff]; omega
      rw [hd] at hu
      have hu : v = Ajc 0 l := hu
      obtain ⟨n, rfl⟩ : ∃ n', n = n' + 1 := ⟨n - 1, by omega⟩
      rw [← hu, wrap_i32 hv] at hk
      rw [ile]
      refine Ap (fun e2 => ?_) (fun e2 => ?_)
      · have e2 : 2147483648 ≤ v := of_decide_eq_true e2
        rw [if_pos e2] at hk
        have e3 : wrap .i64 (Gl (Int.ofNat v) (Int.ofNat 4294967296)) = wrap .i64 ((v : Int) - 4294967296) := by rw [Lu]; rfl
        rw [e3, Ak]
        exact Aob ha hk
      · have e2 : ¬ 2147483648 ≤ v := of_decide_eq_false e2
        rw [if_neg e2, wrap64 (by omega) (by omega)] at hk
        exact Aob ha hk
theorem c39(s:List UInt8)(hl:s.length≤549755813888):Pure PP G h0 39 [S s] (Aaf (Ge s)):=by
 refine w39 (n:=1100) Bw (g39 ?_)
 unfold Amm
 refine Bo ?_
 have ha:(h0.new Da).at h0.next=.row (Bg [.int .u64 (Int.ofNat 0),.bool false] 0 .e) 2 0 58 true:=Bs _ _
 refine Dh (c72 s (by omega)) ?_ rfl (Zb _)
 have plb:plain (Xc (Oo s))=true:=by cases Oo s<;>rfl
 have bad:Ge s=none→(oK (Ax env (env.ty 58) [] (h0.new Da)) fun v30 h31=>
  stn 2 (.ptr h0.next 0) v30 h31 fun h32=>
  ldn 2 (.ptr h0.next 0) h32 fun v33=>
  (fun v (_:H)=>v=Aaf (Ge s):KV) (.tuple [v33,(.bool false)]) h32):=by
  intro e
  rw[b28,Ac]
  refine Aoz (k:=fun v (_:H)=>v=Aaf (Ge s)) ha fun h'=>?_
  show AV.tuple _=_
  rw[e];rfl
 cases e:Aa3 s with
 |none=>
  have hb:=Aci e
  rw[show Ao7 none=.tuple [S [],.int .u8 (Int.ofNat 0),.bool false] from rfl,Eb,De,Eh,Au,Aie,Av]
  refine Dh (c41 s hl) ?_ rfl plb
  rw[hb,show Xc none=.tuple [S [],.bool false] from rfl,Eb,De,Eh,Av]
  refine Hx (fun e=>by cases e) (fun _=>?_)
  refine Hx (fun e=>by cases e) (fun _=>?_)
  refine Hx (fun e=>by cases e) (fun _=>?_)
  refine Hx (fun e=>by cases e) (fun _=>?_)
  refine Hx (fun e=>by cases e) (fun _=>?_)
  refine Bz rfl ?_
  exact bad (by unfold Ge;rw[hb])
 |some p=>
  obtain⟨p,q⟩:=p
  obtain⟨r,h1,h2,h3,h4,_⟩:=Ab1 e
  have hhead:(s.drop p.length).head? =some q:=by rw[h1,List.drop_left];rfl
  rw[show Ao7 (some (p,q))=.tuple [S p,ub q,.bool true] from rfl,Eb,De,Eh,Acj,Aie,Av]
  refine Dh (c41 s hl) ?_ rfl plb
  cases hb:Oo s with
  |none=>
   rw[show Xc none=.tuple [S [],.bool false] from rfl,Eb,De,Eh,Av]
   refine Hf ?_
   refine Hx (fun e=>by cases e) (fun _=>?_)
   refine Hx (fun e=>by cases e) (fun _=>?_)
   refine Hx (fun e=>by cases e) (fun _=>?_)
   refine Hx (fun e=>by cases e) (fun _=>?_)
   refine Bz rfl ?_
   exact bad (by unfold Ge;rw[hb])
  |some l=>
   have ec:Ge s=if p=[117,56]∨¬some q=some 39∨l=[]∨8<l.length then none else some (wrap .u64 (cvI l),decide (p=[117])||decide (p=[85])):=by
    unfold Ge
    rw[hb,h4,hhead]
   rw[show Xc (some l)=.tuple [S l,.bool true] from rfl,Eb,De,Eh,Av]
   refine Hf ?_
   refine Hf ?_
   refine Hf ?_
   refine Hf ?_
   refine Hf ?_
   rw[toNat_eq _ 39 (by decide),Bdc,ilt,ilt,Bj,Bj]
   refine Ap (fun e2=>?_) (fun e2=>?_)
   · refine bad ?_
     rw[ec]
     refine if_pos ?_
     simp only[Bool.or_eq_true,Bool.not_eq_true',decide_eq_true_eq,decide_eq_false_iff_not,Bool.not_true,Bool.false_or] at e2
     rcases e2 with((e2|e2)|e2)|e2
     · exact .inr (.inl fun h=>e2 (Option.some.inj h))
     · exact .inl e2
     · refine .inr (.inr (.inl ?_))
       exact List.eq_nil_of_length_eq_zero (by omega)
     · exact .inr (.inr (.inr e2))
   · simp only[Bool.or_eq_false_iff,Bool.not_eq_false',decide_eq_false_iff_not,decide_eq_true_eq,Bool.not_true,Bool.false_or] at e2
     obtain⟨⟨⟨e2,e3⟩,e4⟩,e5⟩:=e2
     have hne:l≠[]:=fun h=>e4 (by rw[h];decide)
     rw[if_neg (by
      rintro(h|h|h|h)
      · exact e3 h
      · exact h (congrArg some e2)
      · exact hne h
      · exact e5 h)] at ec
     have fin:∀h',(fun v (_:H)=>v=Aaf (Ge s):KV) (.tuple [.agg [.int .u64 (wrap .u64 (cvI l)),.bool (decide (p=[117])||decide (p=[85]))],.bool true]) h':=by
      intro h'
      show AV.tuple _=_
      rw[ec];rfl
     rw[Lg]
     refine Ap (fun e6=>?_) (fun e6=>?_)
     · have e6:l.length=1:=of_decide_eq_true e6
       match l,e6 with
       |[b],_=>
        have hx:=b.toNat_lt
        have ecv:cvI [b]=wrap .i64 (if 127<b.toNat then(b.toNat:Int)-256 else(b.toNat:Int)):=by
         rw[←Awb hx];rfl
        rw[ecv] at fin
        refine Cj (s:=[b]) (Nat.zero_lt_succ _) ?_
        rw[List.getElem_cons_zero,Cv (by omega),Ak,ilt]
        refine Ap (fun e7=>?_) (fun e7=>?_)
        · have e7:127<b.toNat:=of_decide_eq_true e7
          rw[if_pos e7] at fin
          have e3:wrap .i64 (Gl (Int.ofNat b.toNat) (Int.ofNat 256))=wrap .i64 ((b.toNat:Int)-256):=by rw[Lu];rfl
          rw[e3,Ak]
          exact Aob ha fin
        · have e7:¬127<b.toNat:=of_decide_eq_false e7
          rw[if_neg e7,wrap64 (by omega) (by omega)] at fin
          exact Aob ha fin
     · have e6:¬l.length=1:=of_decide_eq_false e6
       have hpos:0<l.length:=List.length_pos_iff.2 hne
       have ecv:cvI l=wrap .i64 (wrap .i32 (Int.ofNat (Ajc 0 l))):=by
        unfold cvI;rw[if_pos (by omega),Abi]
       rw[ecv] at fin
       exact Azt ha (by omega) fin _ 0 0 (by omega) (Nat.zero_le _) (by decide) rfl
end Go.Den
