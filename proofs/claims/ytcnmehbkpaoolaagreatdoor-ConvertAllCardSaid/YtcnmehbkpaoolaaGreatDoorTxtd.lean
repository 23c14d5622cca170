/-
 Proof.
-/
import Derived.Test.YtcnmehbkpaoolaaGreatDoorNump
import Derived.KernelRfl
import Derived.Test.YtcnmehbkpaoolaaGreatDoorL3
noncomputable section
namespace Go.Den
open Go.RowKit
set_option maxRecDepth 100000
theorem Bgt{P:UInt8→Bool}(h:(List.range 256).all (fun i=>P (UInt8.ofNat i))=true)(b:UInt8):P b=true:=by
 have:=List.all_eq_true.1 h b.toNat (List.mem_range.2 b.toNat_lt)
 rwa [UInt8.ofNat_toNat] at this
def Lz(c:UInt8):Nat:=if 48≤c.toNat∧c.toNat≤57 then c.toNat-48 else if 97≤c.toNat∧c.toNat≤102 then c.toNat-87 else if 65≤c.toNat∧c.toNat≤70 then c.toNat-55 else 99
theorem A25{lo hi x:Nat}{h:H}{k:Bool→H→Prop}(hk:k (decide (lo≤x∧x≤hi)) h):Ao (fun k6=>gate true (Fw (Int.ofNat lo) (Int.ofNat x)) (k6 (Fw (Int.ofNat x) (Int.ofNat hi)) h) (k6 false h)) k:=by
 refine Sp ?_
 rw[ile,ile]
 have:(decide (lo≤x)&&decide (x≤hi))=decide (lo≤x∧x≤hi):=by simp
 rw[this];exact hk
theorem c69(x:UInt8):Pure PP G h0 69 [.int .u8 (Int.ofNat x.toNat)] (.int .i64 (Int.ofNat (Lz x))):=by
 refine w69 (n:=1) Bs (g69 ?_)
 unfold Amg
 have hx:=x.toNat_lt
 refine A25 ?_
 refine Ap (fun e=>?_) (fun e=>?_)
 · have e:=of_decide_eq_true e
   have:Lz x=x.toNat-48:=if_pos e
   rw[Xe e.1,Wu (by omega),Al,Co (by omega),Al,this]
 · have e:=of_decide_eq_false e
   refine A25 ?_
   refine Ap (fun e2=>?_) (fun e2=>?_)
   · have e2:=of_decide_eq_true e2
     have:Lz x=x.toNat-97+10:=by unfold Lz;rw[if_neg e,if_pos e2];omega
     rw[Xe e2.1,Wu (by omega),Al,Co (by omega),Al,Ea,Co (by omega),Al,this]
   · have e2:=of_decide_eq_false e2
     refine A25 ?_
     refine Ap (fun e3=>?_) (fun e3=>?_)
     · have e3:=of_decide_eq_true e3
       have:Lz x=x.toNat-65+10:=by unfold Lz;rw[if_neg e,if_neg e2,if_pos e3];omega
       rw[Xe e3.1,Wu (by omega),Al,Co (by omega),Al,Ea,Co (by omega),Al,this]
     · have e3:=of_decide_eq_false e3
       have:Lz x=99:=by unfold Lz;rw[if_neg e,if_neg e2,if_neg e3]
       rw[this]
def Wt(B:Nat)(set:List UInt8):Prop:=(B=8∧set=Pn)∨(B=10∧set=Ek)∨(B=16∧set=Ec)
theorem Nw(x:UInt8):(Lz x<16↔x∈Ec)∧(Lz x<10↔x∈Ek)∧(Lz x<8↔x∈Pn)∧(x∈Ec→Lz x=Fy x)∧Lz x<100:=by
 have h:=Bgt (P:=fun x=>(decide (Lz x<16)==Ec.contains x)&&(decide (Lz x<10)==Ek.contains x)&&(decide (Lz x<8)==Pn.contains x)&&(!(Ec.contains x)||Lz x==Fy x)&&decide (Lz x<100)) (by kernel_rfl) x
 simp only[Bool.and_eq_true,beq_iff_eq,Bool.or_eq_true,Bool.not_eq_true',decide_eq_true_eq] at h
 obtain⟨⟨⟨⟨h1,h2⟩,h3⟩,h4⟩,h5⟩:=h
 have tr:∀(a:Prop)[Decidable a](set:List UInt8),decide a=set.contains x→(a↔x∈set):=fun a _ set h=>by
  rw[←List.contains_iff_mem,←h,decide_eq_true_iff]
 refine⟨tr _ _ h1,tr _ _ h2,tr _ _ h3,fun hx=>?_,h5⟩
 rcases h4 with h4|h4
 · rw[←List.contains_iff_mem] at hx;rw[hx] at h4;cases h4
 · exact h4
theorem Wt.lt{B:Nat}{set:List UInt8}(b:Wt B set)(x:UInt8):Lz x<B↔x∈set:=by
 obtain⟨h1,h2,h3,_⟩:=Nw x
 rcases b with⟨rfl,rfl⟩|⟨rfl,rfl⟩|⟨rfl,rfl⟩
 · exact h3
 · exact h2
 · exact h1
theorem Avh:∀x∈Ek,x∈Ec:=by decide
theorem Wt.hex{B:Nat}{set:List UInt8}(b:Wt B set):∀x∈set,x∈Ec:=by
 rcases b with⟨rfl,rfl⟩|⟨rfl,rfl⟩|⟨rfl,rfl⟩
 · exact Aon
 · exact Avh
 · exact fun x h=>h
theorem Wt.two{B:Nat}{set:List UInt8}(b:Wt B set):8≤B∧B≤16:=by
 rcases b with⟨rfl,rfl⟩|⟨rfl,rfl⟩|⟨rfl,rfl⟩<;>decide
theorem Ms{c:UInt8}{r set:List UInt8}(h:c∈set):Ay (c::r) set=Ay r set+1:=by
 unfold Ay;rw[List.takeWhile_cons,if_pos (by simpa using h)];rfl
theorem Rg{c:UInt8}{r set:List UInt8}(h:c∉set):Ay (c::r) set=0:=by
 unfold Ay;rw[List.takeWhile_cons,if_neg (by simpa using h)];rfl
theorem A05{s set:List UInt8}{at' B:Nat}{k:KV}(b:Wt B set)(hl:s.length≤1099511627776):∀(n i:Nat),s.length-(at'+i)<n→at'+i≤s.length→k (.int .i64 (Int.ofNat (i+Ay (s.drop (at'+i)) set))) h0→(r68 W1 k n).a1 s.length (enc s) (Int.ofNat at') (Int.ofNat B) (Int.ofNat i) h0
 |0,_,hn,_,_=>absurd hn (Nat.not_lt_zero _)
 |n+1,i,hn,hi,hk=>by
  refine Bbx ?_
  unfold Amh
  rw[Ea,Co (by omega),Al,ilt]
  refine Dp (fun e=>?_) (fun e=>?_)
  · have e:at'+i<s.length:=of_decide_eq_true e
    have hd:s.drop (at'+i)=s[at'+i]::s.drop (at'+i+1):=List.drop_eq_getElem_cons e
    rw[Al,Aq]
    refine Bi e ?_
    refine Di (c69 _) ?_
    rw[Bu,ilt]
    refine Ap (fun e2=>?_) (fun e2=>?_)
    · have e2:s[at'+i]∈set:=(b.lt _).1 (of_decide_eq_true e2)
      rw[Gp (by omega),Al]
      refine A05 b hl n (i+1) (by omega) (by omega) ?_
      rw[hd,Ms e2] at hk
      rw[show i+1+Ay (s.drop (at'+(i+1))) set=i+(Ay (s.drop (at'+i+1)) set+1) by rw[←Nat.add_assoc at' i 1];omega]
      exact hk
    · have e2:s[at'+i]∉set:=fun h=>(of_decide_eq_false e2) ((b.lt _).2 h)
      rw[hd,Rg e2] at hk
      exact hk
  · have e:¬at'+i<s.length:=of_decide_eq_false e
    have hd:s.drop (at'+i)=[]:=by rw[List.drop_eq_nil_iff];omega
    rw[hd] at hk
    exact Cm rfl hk
theorem c68{B:Nat}{set:List UInt8}(b:Wt B set)(s:List UInt8)(at':Nat)(ha:at'≤s.length)(hl:s.length≤1099511627776):Pure PP G h0 68 [S s,.int .i64 (Int.ofNat at'),.int .i64 (Int.ofNat B)] (.int .i64 (Int.ofNat (Ay (s.drop at') set))):=by
 refine w68 (n:=s.length+2) Bs (g68 ?_)
 unfold Ami
 refine A05 b hl _ 0 (by omega) ha ?_
 rw[Nat.add_zero,Nat.zero_add]
def Ho(prev:Option UInt8):List UInt8→Option (List UInt8)
 |[]=>some []
 |c::r=>if c=85 then(Ho (some c) r).map (117::·) else if c=76 then(if r.head? =some 108∨prev=some 108 then none else(Ho (some c) r).map (108::·)) else(Ho (some c) r).map (c::·)
def Ix:List (List UInt8):=[[],[117],[108],[117,108],[108,117],[108,108],[117,108,108],[108,108,117]]
def Ly(s:List UInt8):Bool×Bool:=match Ho none s with
 |none=>(false,false)
 |some w=>if w∈Ix then(w.contains 117,true) else(false,false)
def T8:Tm:=Option.rec .e (fun t=>t) (Uw (Sv 1) 8 [(0,(.str 0 0)),(1,(.str 1 117)),(2,(.str 1 108)),(3,(.str 2 27765)),(4,(.str 2 30060)),(5,(.str 2 27756)),(6,(.str 3 7105653)),(7,(.str 3 7695468))] (Aj (Kh [.str 0 0] 8) 0 .e))
theorem b8w(h:H):Au env 44 (fun e ei=>Ak 8 [(0,(.str 0 0)),(1,(.str 1 117)),(2,(.str 1 108)),(3,(.str 2 27765)),(4,(.str 2 30060)),(5,(.str 2 27756)),(6,(.str 3 7105653)),(7,(.str 3 7695468))] h e ei)=some (.slice h.next 0 8 1 true,h.new (.row T8 8 0 9 true)):=by kernel_rfl
theorem Bbc{h:H}{b:P}(ha:h.at b=.row T8 8 0 9 true){r:Nat}(hr:r<8){K:Nat→Nat→Prop}(hk:∀t,Ix.drop r=t::Ix.drop (r+1)→(decide (r=1)||decide (r=3)||decide (r=4)||decide (6≤r))=t.contains 117→K t.length (enc t)):Dd 1 r (.slice b 0 8 1 true) fun v=>ld1 v h fun v=>asS v K:=by
 have key:∀t,Ix.drop r=t::Ix.drop (r+1)→(decide (r=1)||decide (r=3)||decide (r=4)||decide (6≤r))=t.contains 117→Bn T8 r=S t→Dd 1 r (.slice b 0 8 1 true) fun v=>ld1 v h fun v=>asS v K:=by
  intro t ht ht2 e
  have hb:Dd 1 r (.slice b 0 8 1 true) (fun v=>ld1 v h fun v=>asS v K)=ld1 (.ptr b r) h fun v=>asS v K:=by
   match r,hr with
   |0,_|1,_|2,_|3,_|4,_|5,_|6,_|7,_=>rfl
  rw[hb]
  refine Dg ha hr ?_
  rw[e]
  exact hk t ht ht2
 match r,hr with
 |0,_=>exact key [] rfl rfl (by kernel_rfl)
 |1,_=>exact key [117] rfl rfl (by kernel_rfl)
 |2,_=>exact key [108] rfl rfl (by kernel_rfl)
 |3,_=>exact key [117,108] rfl rfl (by kernel_rfl)
 |4,_=>exact key [108,117] rfl rfl (by kernel_rfl)
 |5,_=>exact key [108,108] rfl rfl (by kernel_rfl)
 |6,_=>exact key [117,108,108] rfl rfl (by kernel_rfl)
 |7,_=>exact key [108,108,117] rfl rfl (by kernel_rfl)
theorem A03{w:List UInt8}{h:H}{b:P}(ha:h.at b=.row T8 8 0 9 true){k:KV}:∀(n i:Nat),8-i<n→i≤8→(w∈Ix.drop i→k (.tuple [.bool (w.contains 117),.bool true]) h)→(w∉Ix.drop i→k (.tuple [.bool false,.bool false]) h)→(r70 W1 k n).a3 (.slice b 0 8 1 true) w.length (enc w) (Int.ofNat i) h
 |0,_,hn,_,_,_=>absurd hn (Nat.not_lt_zero _)
 |n+1,i,hn,hi,hk1,hk2=>by
  refine Bbu ?_
  unfold Amc
  rw[Me,ilt]
  refine Ap (fun e=>?_) (fun e=>?_)
  · have e:i<8:=of_decide_eq_true e
    rw[Aq]
    refine Bbc ha e fun t h1 h2=>?_
    rw[Cq]
    rw[h1] at hk1 hk2
    refine Ap (fun e2=>?_) (fun e2=>?_)
    · have e2:t=w:=of_decide_eq_true e2
      refine Jc ?_
      refine Jc ?_
      refine Jc ?_
      rw[Ld,Ld,Ld,ile,h2,e2]
      exact hk1 (by rw[e2];simp)
    · have e2:¬t=w:=of_decide_eq_false e2
      have e3:¬w=t:=fun h=>e2 h.symm
      rw[Gp (by omega),Al]
      refine A03 ha n (i+1) (by omega) e (fun h=>hk1 (by simp[h])) (fun h=>hk2 (by simp[h,e3]))
  · have e:i=8:=by
     have:¬i<8:=of_decide_eq_false e
     omega
    subst e
    exact hk2 (by simp[Ix])
theorem A7h(x:UInt8)(h:H):Fz env (h.new (.row (T1 (Int.ofNat x.toNat)) 1 0 TB true)) 115 9 (.slice h.next 0 1 1 true)=some (S [x],h.new (.row (T1 (Int.ofNat x.toNat)) 1 0 TB true)):=
 Vg (l:=[x]) (Ax _ _) (Nat.le_refl 1) (Dq.new [x] _)
theorem A04 {s : List UInt8} {b : P} {k : KV} (hl : s.length ≤ 1099511627776) : ∀ (n i : Nat) (w : List UInt8) (h : H), 2 * (s.length - i) + 11 ≤ n → i ≤ s.length → w.length = i → h.at b = .row T8 8 0 9 true → b.nat < h.next.nat →
    (∀ m h', 10 ≤ m → h'.at b = .row T8 8 0 9 true → ∀ z, Ho (if i = 0 then none else s[i - 1]?) (s.drop i) = some z → (r70 W1 k m).a3 (.slice b 0 8 1 true) (w ++ z).length (enc (w ++ z)) (Int.ofNat 0) h') →
    (Ho (if i = 0 then none else s[i - 1]?) (s.drop i) = none → ∀ h', k (.tuple [.bool false, .bool false]) h') →
    (r70 W1 k n).a1 s.length (enc s) (.slice b 0 8 1 true) w.length (enc w) (Int.ofNat i) h
  | 0, _, _, _, hn, _, _, _, _, _, _ => absurd hn (by omega)
  | n + 1, i, w, h, hn, hi, hw, ha, hb, hk1, hk2 => by
    refine Bbw ?_
    unfold Ame
    rw [ilt]
    by_cases e : i < s.length
    · refine Df (decide_eq_true e) ?_
      have hd : s.drop i = s[i] :: s.drop (i + 1) := List.drop_eq_getElem_cons e
      obtain ⟨n, rfl⟩ : ∃ n', n = n' + 1 := ⟨n - 1, by omega⟩
      have nxt : (if i + 1 = 0 then none else s[i + 1 - 1]?) = some s[i] := by rw [if_neg (by omega)]; simp [e]
      have step : ∀ x : UInt8, Ho (if i = 0 then none else s[i - 1]?) (s.drop i) = (Ho (some s[i]) (s.drop (i + 1))).map (x :: ·) → (r70 W1 k (n + 1)).a2 s.length (enc s) (.slice b 0 8 1 true) w.length (enc w) (Int.ofNat i) (Int.ofNat x.toNat) h := by
        intro x hx
        refine Bbv ?_
        unfold Amd
        rw [All, Ad, A7h, Ad, Bp]
        refine Wn (by rw [List.length_singleton]; omega) ?_
        rw [Gp (by omega), Al]
        refine A04 hl n (i + 1) (w ++ [x]) _ (by omega) e (by rw [List.length_append, hw]; rfl) (by rw [Dw hb]; exact ha) (by rw [Bh]; omega) (fun m h' hm ha' z hz => ?_) (fun hz h' => ?_)
        · rw [nxt] at hz
          have := hk1 m h' hm ha' (x :: z) (by rw [hx, hz]; rfl)
          rw [List.append_assoc]; exact this
        · rw [nxt] at hz
          exact hk2 (by rw [hx, hz]; rfl) h'
      have unf : Ho (if i = 0 then none else s[i - 1]?) (s.drop i) = if s[i] = 85 then (Ho (some s[i]) (s.drop (i + 1))).map (117 :: ·) else if s[i] = 76 then (if (s.drop (i + 1)).head? = some 108 ∨ (if i = 0 then none else s[i - 1]?) = some 108 then none else (Ho (some s[i]) (s.drop (i + 1))).map (108 :: ·)) else (Ho (some s[i]) (s.drop (i + 1))).map (s[i] :: ·) := by
        rw [hd]; rfl
      rw [Aq]
      refine Bi e ?_
      rw [toNat_eq _ 85 (by decide), toNat_eq _ 76 (by decide)]
      refine Ap (fun e1 => ?_) (fun e1 => ?_)
      · have e1 : s[i] = 85 := of_decide_eq_true e1
        exact step 117 (by rw [unf, if_pos e1])
      · have e1 : ¬ s[i] = 85 := of_decide_eq_false e1
        refine Ap (fun e2 => ?_) (fun e2 => ?_)
        · have e2 : s[i] = 76 := of_decide_eq_true e2
          rw [Gp (by omega), Al]
          have A : ∀ K : Bool → H → Prop, K (decide ((s.drop (i + 1)).head? = some 108)) h → Ao (fun k6 => gate true (Cl (Int.ofNat (i + 1)) (Int.ofNat s.length)) (fI (Int.ofNat (i + 1)) fun n9 => Bz n9 fun m10 => Ci s.length (enc s) m10 fun m11 => k6 (Ba (Int.ofNat m11) (Int.ofNat 108)) h) (k6 false h)) K := by
            intro K hK
            rw [ilt]
            refine Dp (fun e3 => ?_) (fun e3 => ?_)
            · have e3 : i + 1 < s.length := of_decide_eq_true e3
              rw [Al, Aq]
              refine Bi e3 ?_
              rw [toNat_eq _ 108 (by decide)]
              rw [List.drop_eq_getElem_cons e3] at hK
              have : decide ((s[i + 1] :: s.drop (i + 1 + 1)).head? = some 108) = decide (s[i + 1] = 108) := by
                show decide (some (s[i + 1]'e3) = some 108) = _
                rw [Bool.eq_iff_iff, decide_eq_true_eq, decide_eq_true_eq, Option.some.injEq]
              rw [this] at hK; exact hK
            · have e3 : ¬ i + 1 < s.length := of_decide_eq_false e3
              have : s.drop (i + 1) = [] := by rw [List.drop_eq_nil_iff]; omega
              rw [this] at hK; exact hK
          refine A _ ?_
          refine Ma (b := decide ((if i = 0 then none else s[i - 1]?) = some 108)) (fun k' hk' => ?_) ?_
          · rw [ilt]
            refine Dp (fun e3 => ?_) (fun e3 => ?_)
            · have e3 : 0 < i := of_decide_eq_true e3
              rw [Aig e3 (by omega), Al, Aq]
              refine Bi (by omega) ?_
              rw [toNat_eq _ 108 (by decide)]
              rw [if_neg (by omega), List.getElem?_eq_getElem (by omega)] at hk'
              have : decide (some (s[i - 1]'(by omega)) = some (108 : UInt8)) = decide (s[i - 1]'(by omega) = 108) := by simp
              rw [this] at hk'; exact hk'
            · have e3 : ¬ 0 < i := of_decide_eq_false e3
              rw [if_pos (by omega)] at hk'
              exact hk'
          refine Ap (fun e3 => ?_) (fun e3 => ?_)
          · simp only [Bool.or_eq_true, decide_eq_true_eq] at e3
            exact hk2 (by rw [unf, if_neg e1, if_pos e2, if_pos e3]) h
          · simp only [Bool.or_eq_false_iff, decide_eq_false_iff_not] at e3
            exact step 108 (by rw [unf, if_neg e1, if_pos e2, if_neg (fun h => h.elim e3.1 e3.2)])
        · have e2 : ¬ s[i] = 76 := of_decide_eq_false e2
          exact step s[i] (by rw [unf, if_neg e1, if_neg e2])
    · refine Cm (decide_eq_false e) ?_
      have hd : s.drop i = [] := by rw [List.drop_eq_nil_iff]; omega
      have := hk1 n h (by omega) ha [] (by rw [hd]; rfl)
      rw [List.append_nil] at this
      exact this
theorem Ab5{s z:List UInt8}(h:Ho none s=some z):Ly s=if z∈Ix then(z.contains 117,true) else(false,false):=by unfold Ly;rw[h]
theorem c70(s:List UInt8)(hl:s.length≤1099511627776):Pure PP G h0 70 [S s] (.tuple [.bool (Ly s).1,.bool (Ly s).2]):=by
 refine w70 (n:=2*s.length+20) Bs (g70 ?_)
 unfold Amf
 rw[b8w,Ad]
 refine A04 hl _ 0 [] _ (by omega) (Nat.zero_le _) rfl (Ax _ _) (by rw[Bh];omega) (fun m h' hm ha' z hz=>?_) (fun hz h'=>?_)
 · rw[if_pos rfl,List.drop_zero] at hz
   refine A03 (w:=z) ha' m 0 (by omega) (by omega) (fun hw=>?_) (fun hw=>?_)
   · show AV.tuple _=AV.tuple _
     rw[Ab5 hz,if_pos (show z∈Ix from hw)]
   · show AV.tuple _=AV.tuple _
     rw[Ab5 hz,if_neg (show z∉Ix from hw)]
 · rw[if_pos rfl,List.drop_zero] at hz
   show AV.tuple _=AV.tuple _
   unfold Ly;rw[hz]
def My(B:Nat)(set r:List UInt8):Option (Nat×Bool):=
 if Ay r set=0 then none else if Hf B 0 (r.take (Ay r set))<18446744073709551616 then(if(Ly (r.drop (Ay r set))).2=true then some (Hf B 0 (r.take (Ay r set)),(Ly (r.drop (Ay r set))).1||decide (9223372036854775807<Hf B 0 (r.take (Ay r set)))) else none) else none
def Ahv(s:List UInt8):Option (Nat×Bool):=if Ev s=true then My 16 Ec (s.drop 2) else if s.take 1=[48] then My 8 Pn s else My 10 Ek s
theorem b28(h:H):Bo env (env.ty 58) [] h=some (.agg [.int .u64 (Int.ofNat 0),.bool false],h):=by kernel_rfl
theorem Bgh(n:Int)(b:Bool)(h:H):Bo env (env.ty 58) [(0,(.int .u64 n)),(1,(.bool b))] h=some (.agg [.int .u64 n,.bool b],h):=by kernel_rfl
theorem Ap9{h:H}{p:P}{t:Tm}{e:TypeId}{a b:AV}{ok:Bool}{k:KV}(ha:h.at p=.row t 2 0 e true)(hk:∀h',k (.tuple [.agg [a,b],.bool ok]) h'):stn 2 (.ptr p 0) (.agg [a,b]) h fun h'=>ldn 2 (.ptr p 0) h' fun v=>k (.tuple [v,.bool ok]) h':=by
 refine Tx ha (Nat.le_refl _) rfl (by decide) (by decide) ?_
 refine Acq (Bx _ _ _) (by decide) ?_
 rw[gc2]
 exact hk _
theorem Agu{B v:Nat}(a b:List UInt8):Hf B v (a++b)=Hf B (Hf B v a) b:=by unfold Hf;rw[List.foldl_append]
section
variable{B at':Nat}{s set:List UInt8}{p:P}{t:Tm}{h:H}{k:KV}(b:Wt B set)(hl:s.length≤1099511627776)(hat:at'≤s.length)(ha:h.at p=.row t 2 0 58 true)(hk:∀h',k (Xr (My B set (s.drop at'))) h')
include b hl hat ha hk
theorem A1f (hN : Ay (s.drop at') set ≠ 0) : ∀ (n j : Nat), Ay (s.drop at') set - j < n → j ≤ Ay (s.drop at') set → Hf B 0 ((s.drop at').take j) < 18446744073709551616 →
    (r37 W1 k n).a1 s.length (enc s) (.ptr p 0) (Int.ofNat B) (Int.ofNat at') (Int.ofNat (Ay (s.drop at') set)) (Int.ofNat (Hf B 0 ((s.drop at').take j))) (Int.ofNat (at' + j)) h
  | 0, _, hn, _, _ => absurd hn (Nat.not_lt_zero _)
  | n + 1, j, hn, hj, hv => by
    refine Bcf ?_
    unfold Ang
    have hr := Ge (s.drop at') set
    have hdl : (s.drop at').length = s.length - at' := List.length_drop
    have hB := b.two
    rw [Ea, Co (by omega), Al, ilt]
    by_cases e : j < Ay (s.drop at') set
    · refine Df (decide_eq_true (by omega)) ?_
      have hjr : j < (s.drop at').length := by omega
      have hget : (s.drop at')[j] = s[at' + j] := List.getElem_drop
      have hmem : s[at' + j] ∈ set := by
        rw [← hget]
        refine Rf (s := s.drop at') (n := j + 1) (by omega) ?_
        rw [List.take_add_one, List.getElem?_eq_getElem hjr]; simp
      have hd : Lz s[at' + j] = Fy s[at' + j] := (Nw _).2.2.2.1 (b.hex _ hmem)
      have h16 := (Aui _ (b.hex _ hmem)).2.2
      have tk : Hf B 0 ((s.drop at').take (j + 1)) = Hf B 0 ((s.drop at').take j) * B + Fy s[at' + j] := by
        rw [List.take_add_one, List.getElem?_eq_getElem hjr, hget]
        rw [Agu]; rfl
      rw [Aq]
      refine Bi (by omega) ?_
      refine Di (c69 _) ?_
      rw [Bu, hd, Kz (show Fy s[at' + j] < 18446744073709551616 by omega), Al, Xe (show Fy s[at' + j] ≤ 18446744073709551615 by omega), Kz (show 18446744073709551615 - Fy s[at' + j] < 18446744073709551616 by omega), Al, Kz (show B < 18446744073709551616 by omega), Al]
      have hq : ∀ K : Int → Prop, Akd .u64 (Int.ofNat (18446744073709551615 - Fy s[at' + j])) (Int.ofNat B) K = K (Int.ofNat ((18446744073709551615 - Fy s[at' + j]) / B)) := by
        intro K
        unfold Akd
        rw [Ld, decide_eq_false (show ¬ B = 0 by omega)]
        show fI (wrap .u64 (Int.ofNat ((18446744073709551615 - Fy s[at' + j]) / B))) K = _
        rw [Kz (by have := Nat.div_le_self (18446744073709551615 - Fy s[at' + j]) B; omega), Al]
      rw [hq, ilt]
      have hle : Hf B 0 ((s.drop at').take j) ≤ (18446744073709551615 - Fy s[at' + j]) / B ↔ Hf B 0 ((s.drop at').take j) * B ≤ 18446744073709551615 - Fy s[at' + j] := Nat.le_div_iff_mul_le (by omega)
      refine Ap (fun e2 => ?_) (fun e2 => ?_)
      · have e2 := of_decide_eq_true e2
        rw [b28, Ad]
        have en : My B set (s.drop at') = none := by
          unfold My
          rw [if_neg hN, if_neg]
          have h2 : Hf B 0 ((s.drop at').take (j + 1)) ≤ Hf B 0 ((s.drop at').take (Ay (s.drop at') set)) := by
            have : (s.drop at').take (Ay (s.drop at') set) = (s.drop at').take (j + 1) ++ ((s.drop at').drop (j + 1)).take (Ay (s.drop at') set - (j + 1)) := by
              have := List.take_add (l := s.drop at') (i := j + 1) (j := Ay (s.drop at') set - (j + 1))
              rw [show j + 1 + (Ay (s.drop at') set - (j + 1)) = Ay (s.drop at') set by omega] at this
              exact this
            rw [this, Agu]
            exact Xx (by omega) _ _
          rw [tk] at h2
          omega
        refine Ap9 ha fun h' => ?_
        have := hk h'
        rw [en] at this
        exact this
      · have e2 : ¬ (18446744073709551615 - Fy s[at' + j]) / B < Hf B 0 ((s.drop at').take j) := of_decide_eq_false e2
        have e3 := hle.1 (by omega)
        rw [Al, show Int.ofNat (Hf B 0 ((s.drop at').take j)) * Int.ofNat B = Int.ofNat (Hf B 0 ((s.drop at').take j) * B) from rfl, Kz (by omega), Al, Ea, Kz (by omega), Al, Gp (by omega), Al, ← tk]
        exact A1f hN n (j + 1) (by omega) e (by omega)
    · have ej : j = Ay (s.drop at') set := by omega
      subst ej
      refine Cm (decide_eq_false (by omega)) ?_
      rw [Al, Aq]
      refine Fl (by omega) ?_
      refine Di (c70 _ (by rw [List.length_drop]; omega)) ?_
      rw [Dn, Bt, Du, Bt, Bj]
      have hdd : s.drop (at' + Ay (s.drop at') set) = (s.drop at').drop (Ay (s.drop at') set) := by rw [List.drop_drop]
      rw [hdd]
      have en : My B set (s.drop at') = if (Ly ((s.drop at').drop (Ay (s.drop at') set))).2 = true then some (Hf B 0 ((s.drop at').take (Ay (s.drop at') set)), (Ly ((s.drop at').drop (Ay (s.drop at') set))).1 || decide (9223372036854775807 < Hf B 0 ((s.drop at').take (Ay (s.drop at') set)))) else none := by
        unfold My
        rw [if_neg hN, if_pos hv]
      refine Ap (fun e2 => ?_) (fun e2 => ?_)
      · rw [if_neg (by simpa using e2)] at en
        rw [b28, Ad]
        refine Ap9 ha fun h' => ?_
        have := hk h'
        rw [en] at this
        exact this
      · rw [if_pos (by simpa using e2)] at en
        refine Jc ?_
        rw [ilt, Bgh, Ad]
        refine Ap9 ha fun h' => ?_
        have := hk h'
        rw [en] at this
        exact this
theorem Bfz:(r37 W1 k (s.length+5)).a2 s.length (enc s) (.ptr p 0) (Int.ofNat B) (Int.ofNat at') h:=by
 refine Bce ?_
 unfold Anf
 refine Di (c68 b s at' hat hl) ?_
 rw[Bu,Ld]
 have hr:=Ge (s.drop at') set
 have hdl:(s.drop at').length=s.length-at':=List.length_drop
 refine Ap (fun e=>?_) (fun e=>?_)
 · have e:=of_decide_eq_true e
   rw[b28,Ad]
   refine Ap9 ha fun h'=>?_
   have:=hk h'
   unfold My at this
   rw[if_pos e] at this
   exact this
 · have e:=of_decide_eq_false e
   exact A1f b hl hat ha hk e _ 0 (by omega) (Nat.zero_le _) (by show 0<_;decide)
end
theorem c37(s:List UInt8)(hl:s.length≤1099511627776):Pure PP G h0 37 [S s] (Xr (Ahv s)):=by
 refine w37 (n:=s.length+6) Bs (g37 ?_)
 unfold Anh
 refine Dt ?_
 have ha:(h0.new Ahr).at h0.next=.row (Aj [.int .u64 (Int.ofNat 0),.bool false] 0 .e) 2 0 58 true:=Ax _ _
 have go:∀(B at':Nat)(set:List UInt8),Wt B set→at'≤s.length→Ahv s=My B set (s.drop at')→(r37 W1 (fun v _=>v=Xr (Ahv s)) (s.length+5)).a2 s.length (enc s) (.ptr h0.next 0) (Int.ofNat B) (Int.ofNat at') (h0.new Ahr):=by
  intro B at' set b hat e
  exact Bfz b hl hat ha fun h'=>by rw[e]
 match s,hl,go with
 |[],hl,go=>
  refine Dp (fun e=>by cases e) (fun _=>?_)
  refine Cm rfl ?_
  exact go 10 0 Ek (.inr (.inl ⟨rfl,rfl⟩)) (Nat.zero_le _) rfl
 |c::r,hl,go=>
  refine Dp (fun _=>?_) (fun e=>by rw[ilt] at e;simp at e)
  refine Bi (s:=c::r) (Nat.zero_lt_succ _) ?_
  rw[List.getElem_cons_zero,toNat_eq _ 48 (by decide)]
  refine Ap (fun e=>?_) (fun e=>?_)
  · have e:c=48:=of_decide_eq_true e
    subst e
    match r,hl,go with
    |[],hl,go=>
     refine Dp (fun e=>by cases e) (fun _=>?_)
     refine Cm rfl ?_
     exact go 8 0 Pn (.inl ⟨rfl,rfl⟩) (Nat.zero_le _) rfl
    |d::r,hl,go=>
     refine Dp (fun _=>?_) (fun e=>by rw[ilt] at e;simp at e)
     refine Bi (s:=48::d::r) (by simp) ?_
     refine Ma (b:=decide (d=88)) (fun k' hk'=>?_) ?_
     · refine Bi (s:=48::d::r) (by simp) ?_
       show k' (Ba (Int.ofNat d.toNat) (Int.ofNat 88)) _
       rw[toNat_eq _ 88 (by decide)];exact hk'
     show cnd (Ba (Int.ofNat d.toNat) (Int.ofNat 120)||decide (d=88)) _ _
     rw[toNat_eq _ 120 (by decide)]
     have hx:Ev (48::d::r)=(decide (d=120)||decide (d=88)):=by unfold Ev hx1 hx2;simp
     refine Ap (fun e=>?_) (fun e=>?_)
     · exact go 16 2 Ec (.inr (.inr ⟨rfl,rfl⟩)) (by simp) (by unfold Ahv;rw[hx,show(decide (d=120)||decide (d=88))=true from e,if_pos rfl])
     · refine go 8 0 Pn (.inl ⟨rfl,rfl⟩) (Nat.zero_le _) ?_
       unfold Ahv
       rw[hx,show(decide (d=120)||decide (d=88))=false from e,if_neg (by simp),if_pos (by rfl)]
       rfl
  · have e:¬c=48:=of_decide_eq_false e
    refine go 10 0 Ek (.inr (.inl ⟨rfl,rfl⟩)) (Nat.zero_le _) ?_
    unfold Ahv
    have hx:Ev (c::r)=false:=by unfold Ev hx1 hx2;cases r<;>simp[e]
    rw[hx,if_neg (by simp),if_neg (by simp[e])]
    rfl
theorem Acl:∀(p:Option UInt8)(s z:List UInt8),Ho p s=some z→z.length=s.length
 |_,[],z,h=>by cases h;rfl
 |p,c::r,z,h=>by
  have key:∀(x:UInt8),(Ho (some c) r).map (x::·)=some z→z.length=(c::r).length:=by
   intro x h
   cases hr:Ho (some c) r with
   |none=>rw[hr] at h;cases h
   |some y=>rw[hr] at h;cases h;rw[List.length_cons,List.length_cons,Acl _ r y hr]
  unfold Ho at h
  split at h
  · exact key _ h
  · split at h
    · split at h
      · cases h
      · exact key _ h
    · exact key _ h
theorem Ack{x:UInt8}(h1:x≠85)(h2:x≠76):∀(p:Option UInt8)(s z:List UInt8),Ho p s=some z→x∈s→x∈z
 |_,[],_,_,hx=>absurd hx (by simp)
 |p,c::r,z,h,hx=>by
  have key:∀(y:UInt8),(c=x→y=x)→(Ho (some c) r).map (y::·)=some z→x∈z:=by
   intro y hy h
   cases hr:Ho (some c) r with
   |none=>rw[hr] at h;cases h
   |some w=>
    rw[hr] at h;cases h
    rcases List.mem_cons.1 hx with rfl|hx
    · rw[hy rfl];simp
    · exact List.mem_cons_of_mem _ (Ack h1 h2 _ r w hr hx)
  unfold Ho at h
  split at h
  · rename_i e;exact key _ (fun e2=>absurd (e2.symm.trans e) h1) h
  · split at h
    · rename_i e
      split at h
      · cases h
      · exact key _ (fun e2=>absurd (e2.symm.trans e) h2) h
    · exact key _ (fun e=>e) h
theorem Yv:∀w∈Ix,w.length≤3∧∀x∈w,x∈Gg:=by decide
theorem Arx{s:List UInt8}{x:UInt8}(hx:x∈s)(h:x∉Gg):(Ly s).2=false:=by
 unfold Ly
 cases hz:Ho none s with
 |none=>rfl
 |some z=>
  have h1:x≠85:=fun e=>h (by subst e;decide)
  have h2:x≠76:=fun e=>h (by subst e;decide)
  have:=Ack h1 h2 none s z hz hx
  show(if z∈Ix then(z.contains 117,true) else(false,false)).2=false
  rw[if_neg (fun hw=>h ((Yv z hw).2 x this))]
theorem Arw:∀(t:List UInt8),(∀x∈t,x∈Gg)→(Ly t).2=(Jb t).2∧((Jb t).2=true→(Ly t).1=(Jb t).1)
 |[],_=>by decide
 |[a],h=>(show∀a∈Gg,(Ly [a]).2=(Jb [a]).2∧((Jb [a]).2=true→(Ly [a]).1=(Jb [a]).1) by decide) a (h a (by simp))
 |[a,b],h=>(show∀a∈Gg,∀b∈Gg,(Ly [a,b]).2=(Jb [a,b]).2∧((Jb [a,b]).2=true→(Ly [a,b]).1=(Jb [a,b]).1) by decide) a (h a (by simp)) b (h b (by simp))
 |[a,b,c],h=>(show∀a∈Gg,∀b∈Gg,∀c∈Gg,(Ly [a,b,c]).2=(Jb [a,b,c]).2∧((Jb [a,b,c]).2=true→(Ly [a,b,c]).1=(Jb [a,b,c]).1) by decide) a (h a (by simp)) b (h b (by simp)) c (h c (by simp))
 |a::b::c::d::t,_=>by
  have h1:(Ly (a::b::c::d::t)).2=false:=by
   unfold Ly
   cases hz:Ho none (a::b::c::d::t) with
   |none=>rfl
   |some z=>
    have:=Acl _ _ _ hz
    show(if z∈Ix then(z.contains 117,true) else(false,false)).2=false
    rw[if_neg (fun hw=>by have:=(Yv z hw).1;simp at *;omega)]
  have long:∀r:List UInt8,3≤r.length→Pk r=false:=by
   intro r hr
   match r,hr with
   |_::_::_::_,_=>simp[Pk]
  have h2:(Jb (a::b::c::d::t)).2=false:=by
   show(if Xs a then(true,Pk (b::c::d::t)) else if We (a::b::c::d::t) then(true,Pk (a::b::c::d::t).dropLast) else(false,Pk (a::b::c::d::t)):Bool×Bool).2=false
   split
   · exact long _ (by simp)
   · split
     · exact long _ (by rw[List.length_dropLast];simp)
     · exact long _ (by simp)
  rw[h1,h2]
  exact⟨rfl,fun h=>by cases h⟩
theorem Auh:∀x∈Ec,x∉Gg:=by decide
theorem Ap3{dd t set:List UInt8}(h:Ay dd set<dd.length):Ay (dd++t) set=Ay dd set:=by
 induction dd with
 |nil=>exact absurd h (by simp)
 |cons c dd ih=>
  by_cases hc:c∈set
  · rw[List.cons_append,Ms hc,Ms hc]
    rw[Ms hc,List.length_cons] at h
    rw[ih (by omega)]
  · rw[List.cons_append,Rg hc,Rg hc]
theorem Ap4{dd t set:List UInt8}(h:∀x∈dd,x∈set)(ht:∀x∈t,x∉set):Ay (dd++t) set=dd.length:=by
 induction dd with
 |nil=>
  cases t with
  |nil=>rfl
  |cons c t=>exact Rg (ht c (by simp))
 |cons c dd ih=>
  rw[List.cons_append,Ms (h c (by simp)),ih (fun x hx=>h x (by simp[hx]))];rfl
theorem Zv{B:Nat}{set dd t:List UInt8}(b:Wt B set)(ht:∀x∈t,x∈Gg)(hlast:∀x,dd.getLast? =some x→x∉Gg):My B set (dd++t)=Afh (Jb t).1 (Jb t).2 B set dd:=by
 obtain⟨hs1,hs2⟩:=Arw t ht
 have hle:=Ge dd set
 by_cases hall:Ay dd set=dd.length
 · have hm:∀x∈dd,x∈set:=fun x hx=>Rf (s:=dd) (set:=set) (n:=dd.length) (by omega) (by rw[List.take_length];exact hx)
   have hr:Ay (dd++t) set=dd.length:=Ap4 hm fun x hx h=>Auh x (b.hex x h) (ht x hx)
   unfold My Afh
   rw[hr,List.take_left,List.drop_left,hall,hs1]
   by_cases hne:dd=[]
   · subst hne
     rw[if_pos (show([]:List UInt8).length=0 from rfl),if_pos (by simp)]
   · rw[if_neg (fun h=>hne (List.eq_nil_of_length_eq_zero h)),decide_eq_true rfl,decide_eq_false hne]
     cases hok:(Jb t).2 with
     |false=>simp
     |true=>simp[hs2 hok]
 · have hlt:Ay dd set<dd.length:=by omega
   have hr:Ay (dd++t) set=Ay dd set:=Ap3 hlt
   have hn2:Afh (Jb t).1 (Jb t).2 B set dd=none:=if_pos (by rw[decide_eq_false hall];simp)
   rw[hn2]
   unfold My
   rw[hr]
   have hdrop:(dd++t).drop (Ay dd set)=dd.drop (Ay dd set)++t:=List.drop_append_of_le_length (by omega)
   have hbad:(Ly ((dd++t).drop (Ay dd set))).2=false:=by
    rw[hdrop]
    have hne:dd.drop (Ay dd set)≠[]:=by rw[ne_eq,List.drop_eq_nil_iff];omega
    have hl:dd.getLast? =some ((dd.drop (Ay dd set)).getLast hne):=by
     have hdne:dd≠[]:=fun h=>by subst h;simp at hlt
     rw[List.getLast?_eq_some_getLast hdne,List.getLast_drop]
    exact Arx (x:=(dd.drop (Ay dd set)).getLast hne) (List.mem_append_left _ (List.getLast_mem hne)) (hlast _ hl)
   rw[hbad]
   split
   · rfl
   · split<;>rfl
theorem Ahb(s:List UInt8):∃t,s=Ff s Gg++t∧(∀x∈t,x∈Gg)∧∀x,(Ff s Gg).getLast? =some x→x∉Gg:=by
 refine⟨(s.reverse.takeWhile (·∈Gg)).reverse,?_,fun x hx=>?_,fun x hx=>?_⟩
 · unfold Ff
   rw[←List.reverse_append,List.takeWhile_append_dropWhile,List.reverse_reverse]
 · rw[List.mem_reverse] at hx
   have:=List.all_eq_true.1 List.all_takeWhile x hx
   simpa using this
 · unfold Ff at hx
   rw[List.getLast?_reverse] at hx
   have:=List.head?_dropWhile_not (fun x=>decide (x∈Gg)) s.reverse
   rw[hx] at this
   simpa using this
theorem Ahu(s:List UInt8):Ahv s=Afg s:=by
 obtain⟨t,h1,h2,h3⟩:=Ahb s
 have hd:s.drop (Ff s Gg).length=t:=by
  conv=>lhs;arg 2;rw[h1]
  exact List.drop_left
 unfold Afg
 rw[hd]
 revert h1 h3
 generalize Ff s Gg=d
 intro h1 h3
 subst h1
 have hs:∀x∈t,x≠48∧x≠120∧x≠88:=fun x hx=>(show∀x∈Gg,x≠48∧x≠120∧x≠88 by decide) x (h2 x hx)
 have hx:Ev (d++t)=Ev d:=by
  unfold Ev hx1 hx2
  match d with
  |[]=>
   match t,hs with
   |[],_=>rfl
   |[a],hs=>simp
   |a::b::t,hs=>simp[(hs a (by simp)).1]
  |[a]=>
   match t,hs with
   |[],_=>rfl
   |b::t,hs=>simp[(hs b (by simp)).2]
  |a::b::d=>simp
 have h48:(d++t).take 1=[48]↔d.take 1=[48]:=by
  match d with
  |[]=>
   match t,hs with
   |[],_=>simp
   |a::t,hs=>simp[(hs a (by simp)).1]
  |a::d=>simp
 unfold Ahv
 rw[hx]
 by_cases e:Ev d=true
 · rw[if_pos e,if_pos e]
   have hd2:2≤d.length:=by
    unfold Ev at e
    rw[Bool.or_eq_true,decide_eq_true_eq,decide_eq_true_eq] at e
    rcases e with e|e<;>(have:=congrArg List.length e;simp[hx1,hx2] at this;omega)
   rw[List.drop_append_of_le_length hd2]
   refine Zv (.inr (.inr ⟨rfl,rfl⟩)) h2 fun x hx=>h3 x ?_
   have hne:d.drop 2≠[]:=fun h=>by rw[h] at hx;cases hx
   have hdne:d≠[]:=fun h=>by subst h;simp at hd2
   rw[List.getLast?_eq_some_getLast hne,List.getLast_drop] at hx
   rw[List.getLast?_eq_some_getLast hdne];exact hx
 · rw[if_neg e,if_neg e]
   by_cases e2:d.take 1=[48]
   · rw[if_pos e2,if_pos (h48.2 e2)]
     exact Zv (.inl ⟨rfl,rfl⟩) h2 h3
   · rw[if_neg e2,if_neg (fun h=>e2 (h48.1 h))]
     exact Zv (.inr (.inl ⟨rfl,rfl⟩)) h2 h3
end Go.Den
namespace Go.Den
open Go.RowKit
set_option maxRecDepth 100000
def Hx(q:UInt8)(s p:List UInt8):Bool:=decide (p.length+2≤s.length)&&decide (s.take p.length=p)&&decide ((s.drop p.length).head? =some q)&&decide (s.getLast? =some q)
def Dz(q:UInt8)(s:List UInt8):List (List UInt8)→Option Nat
 |[]=>none
 |p::ps=>if Hx q s p=true then some p.length else Dz q s ps
def A31(o:Option Nat):AV:=match o with
 |some n=>.int .i64 (Int.ofNat n)
 |none=>.int .i64 (Int.negSucc 0)
theorem Av7{s:List UInt8}{q:UInt8}{b:P}{h:H}{k:KV}(hl:s.length≤1099511627776)(ha:h.at b=.row T5b 5 0 9 true):∀(n i:Nat),5-i<n→i≤5→k (A31 (Dz q s (De.drop i))) h→(Ahh W1 k n).a1 s.length (enc s) (Int.ofNat q.toNat) (.slice b 0 5 1 true) (Int.ofNat i) h
 |0,_,hn,_,_=>absurd hn (Nat.not_lt_zero _)
 |n+1,i,hn,hi,hk=>by
  refine A4w ?_
  unfold Aep
  rw[Me,ilt]
  refine Ap (fun e=>?_) (fun e=>?_)
  · have e:i<5:=of_decide_eq_true e
    rw[Aq]
    refine Akg ha e fun t rest h1 h2=>?_
    have htl:t.length≤2:=(show∀t∈De,t.length≤2 by decide) t (List.drop_subset i De (by rw[h1];simp))
    rw[h1] at hk
    rw[Ea,Co (by omega),Al]
    have fin:cnd (Hx q s t) (k (.int .i64 (Int.ofNat t.length)) h) (fI (wrap .i64 (Cd (Int.ofNat i) (Int.ofNat 1))) fun n30=>(Ahh W1 k n).a1 s.length (enc s) (Int.ofNat q.toNat) (.slice b 0 5 1 true) n30 h):=by
     refine Ap (fun e2=>?_) (fun e2=>?_)
     · rw[show Dz q s (t::rest)=some t.length from if_pos e2] at hk
       exact hk
     · rw[Gp (by omega),Al]
       rw[show Dz q s (t::rest)=Dz q s rest from if_neg (by rw[e2];simp),h2] at hk
       exact Av7 hl ha n (i+1) (by omega) e hk
    rw[ile]
    by_cases e1:t.length+2≤s.length
    · have hh:(s.drop t.length).head? =some (s[t.length]'(by omega)):=by rw[List.drop_eq_getElem_cons (by omega)];rfl
      have hlast:s.getLast? =some (s[s.length-1]'(by omega)):=by rw[List.getLast?_eq_getElem?,List.getElem?_eq_getElem (by omega)]
      have ea:Hx q s t=(decide (s.take t.length=t)&&decide ((s[t.length]'(by omega))=q)&&decide ((s[s.length-1]'(by omega))=q)):=by
       unfold Hx
       rw[decide_eq_true e1,hh,hlast,Bool.true_and]
       congr 1
       · congr 1;rw[Bool.eq_iff_iff,decide_eq_true_eq,decide_eq_true_eq,Option.some.injEq]
       · rw[Bool.eq_iff_iff,decide_eq_true_eq,decide_eq_true_eq,Option.some.injEq]
      rw[ea] at fin
      rw[decide_eq_true e1]
      refine Vu (b:=decide (s.take t.length=t)) (fun k' hk'=>?_) ?_
      · refine Wl (by omega) ?_
        rw[Aq]
        refine Akg ha e fun t' rest' h1' h2'=>?_
        rw[h1] at h1'
        cases h1'
        rw[Cq];exact hk'
      rw[Bool.true_and]
      refine Vu (b:=decide ((s[t.length]'(by omega))=q)) (fun k' hk'=>?_) ?_
      · refine Bi (by omega) ?_
        rw[Akv];exact hk'
      refine Vu (b:=decide ((s[s.length-1]'(by omega))=q)) (fun k' hk'=>?_) ?_
      · rw[Aig (by omega) (by omega),Al,Aq]
        refine Bi (by omega) ?_
        rw[Akv];exact hk'
      exact fin
    · have ea:Hx q s t=false:=by unfold Hx;rw[decide_eq_false e1];rfl
      rw[ea] at fin
      rw[decide_eq_false e1]
      refine Dp (fun e=>by cases e) (fun _=>?_)
      refine Dp (fun e=>by cases e) (fun _=>?_)
      refine Dp (fun e=>by cases e) (fun _=>?_)
      exact fin
  · have e:i=5:=by
     have:¬i<5:=of_decide_eq_false e
     omega
    subst e
    exact hk
theorem Bk9(s:List UInt8)(q:UInt8)(hl:s.length≤1099511627776):Pure PP G h0 121 [S s,.int .u8 (Int.ofNat q.toNat)] (A31 (Dz q s De)):=by
 refine Bip (n:=10) Bs (Bjy ?_)
 unfold Aeq
 rw[b5b,Ad]
 exact Av7 hl (Ax _ _) 9 0 (by decide) (by decide) rfl
def Abl(s:List UInt8):Option (List UInt8×UInt8):=match Dz 39 s De with
 |some n=>some (s.take n,39)
 |none=>match Dz 34 s De with
  |some n=>some (s.take n,34)
  |none=>none
def Aqh(o:Option (List UInt8×UInt8)):AV:=match o with
 |some p=>.tuple [S p.1,ub p.2,.bool true]
 |none=>.tuple [S [],.int .u8 (Int.ofNat 0),.bool false]
theorem Qu{q:UInt8}{s:List UInt8}{n:Nat}:∀ps,Dz q s ps=some n→∃p∈ps,n=p.length∧Hx q s p=true
 |[],h=>by cases h
 |p::ps,h=>by
  by_cases e:Hx q s p=true
  · rw[show Dz q s (p::ps)=some p.length from if_pos e] at h
    cases h
    exact⟨p,by simp,rfl,e⟩
  · rw[show Dz q s (p::ps)=Dz q s ps from if_neg e] at h
    obtain⟨p',h1,h2⟩:=Qu ps h
    exact⟨p',by simp[h1],h2⟩
theorem Qv{q:UInt8}{s:List UInt8}:∀ps,Dz q s ps=none→∀p∈ps,Hx q s p=false
 |[],_,p,hp=>absurd hp (by simp)
 |p::ps,h,p',hp=>by
  by_cases e:Hx q s p=true
  · rw[show Dz q s (p::ps)=some p.length from if_pos e] at h;cases h
  · rw[show Dz q s (p::ps)=Dz q s ps from if_neg e] at h
    rcases List.mem_cons.1 hp with rfl|hp
    · simpa using e
    · exact Qv ps h p' hp
theorem Akh(o:Option Nat):plain (A31 o)=true:=by cases o<;>rfl
theorem A1p:Dq (Aj [.int .u8 (Int.ofNat 34)] 1 (Aj [.int .u8 (Int.ofNat 39)] 0 (Aj [.int .u8 (.ofNat 0),.int .u8 (.ofNat 0)] 0 .e))) [39,34]:=by
 intro i hi
 match i,hi with
 |0,_=>rw[Av,if_neg (by simp),Av];rfl
 |1,_=>rw[Av];rfl
theorem Bgf(h:H):Au env 115 (fun e ei=>Ak 2 [(0,(.int .u8 (Int.ofNat 39))),(1,(.int .u8 (Int.ofNat 34)))] h e ei)=some (.slice h.next 0 2 1 true,h.new (.row (Aj [.int .u8 (Int.ofNat 34)] 1 (Aj [.int .u8 (Int.ofNat 39)] 0 (Aj [.int .u8 (.ofNat 0),.int .u8 (.ofNat 0)] 0 .e))) 2 0 TB true)):=by kernel_rfl
theorem A01{s:List UInt8}{b:P}{h:H}{t:Tm}{k:KV}{n i:Nat}(hl:s.length≤1099511627776)(ha:h.at b=.row t 2 0 TB true)(hc:Dq t [39,34])(hi:i<[39,34].length)
 (h1:∀m,Dz ([39,34][i]) s De=some m→k (.tuple [S (s.take m),ub ([39,34][i]),.bool true]) h) (h2:Dz ([39,34][i]) s De=none→(r72 W1 k n).a1 s.length (enc s) (.slice b 0 2 1 true) (Int.ofNat (i+1)) h):
 (r72 W1 k (n+1)).a1 s.length (enc s) (.slice b 0 2 1 true) (Int.ofNat i) h:=by
 have hi2:i<2:=hi
 refine A0l ?_
 unfold Ag2
 rw[ilt]
 refine Df (decide_eq_true hi2) ?_
 rw[Aq]
 refine Ae8 (l:=[39,34]) ha (Nat.le_refl 2) hc hi rfl ?_
 rw[Ac8]
 refine Di (Bk9 s _ hl) ?_ rfl (Akh _)
 cases e:Dz ([39,34][i]) s De with
 |none=>
  show asI .i64 (.int .i64 (Int.negSucc 0)) _
  rw[Bu]
  refine Cm (by rw[Jh];rfl) ?_
  rw[Gp (by omega),Al]
  exact h2 e
 |some m=>
  show asI .i64 (.int .i64 (Int.ofNat m)) _
  obtain⟨p,hp,rfl,hT⟩:=Qu De e
  have hle:p.length≤s.length:=by
   unfold Hx at hT
   simp only[Bool.and_eq_true,decide_eq_true_eq] at hT
   have:=hT.1.1.1
   omega
  rw[Bu,ile]
  refine Df (decide_eq_true (Nat.zero_le _)) ?_
  rw[Aq]
  refine Wl hle ?_
  rw[Aq]
  refine Ae8 (l:=[39,34]) ha (Nat.le_refl 2) hc hi rfl ?_
  rw[Ac8]
  exact h1 _ e
theorem c72(s:List UInt8)(hl:s.length≤1099511627776):Pure PP G h0 72 [S s] (Aqh (Abl s)):=by
 refine w72 (n:=5) Bs (g72 ?_)
 unfold Al9
 rw[Bgf,Ad]
 refine A01 (i:=0) hl (Ax _ _) A1p (by decide) (fun m e=>?_) (fun e=>?_)
 · show AV.tuple _=_
   unfold Abl
   rw[show Dz 39 s De=some m from e];rfl
 · refine A01 (i:=1) hl (Ax _ _) A1p (by decide) (fun m e2=>?_) (fun e2=>?_)
   · show AV.tuple _=_
     unfold Abl
     rw[show Dz 39 s De=none from e,show Dz 34 s De=some m from e2];rfl
   · refine A0l ?_
     unfold Ag2
     refine Cm (by rw[ilt];rfl) ?_
     show AV.tuple _=_
     unfold Abl
     rw[show Dz 39 s De=none from e,show Dz 34 s De=none from e2];rfl
theorem Aqb:∀p∈De,∀x∈p,x≠34∧x≠39:=by decide
theorem Ahm{s p1 p2:List UInt8}(h1:s.take p1.length=p1)(q1:Gs (s.drop p1.length)=true)(hp2:p2∈De)(h2:s.take p2.length=p2):¬p1.length<p2.length:=by
 intro hlt
 cases hd:s.drop p1.length with
 |nil=>rw[hd] at q1;cases q1
 |cons c r=>
  rw[hd] at q1
  have hc:c=34∨c=39:=by simpa[Gs] using q1
  have hs:s[p1.length]? =some c:=by rw[←List.head?_drop,hd];rfl
  have h3:p2[p1.length]? =some c:=by rw[←h2,List.getElem?_take_of_lt hlt];exact hs
  have:=Aqb p2 hp2 c (List.mem_of_getElem? h3)
  rcases hc with rfl|rfl
  · exact this.1 rfl
  · exact this.2 rfl
theorem Oe(s:List UInt8):∀ps,(Bw ps s).2=true→(Bw ps s).1∈ps
 |[],h=>by cases h
 |p::ps,h=>by
  by_cases e:(decide (s.take p.length=p)&&Gs (s.drop p.length))=true
  · rw[show Bw (p::ps) s=(p,true) from if_pos e];simp
  · rw[show Bw (p::ps) s=Bw ps s from if_neg e] at h ⊢
    exact List.mem_cons_of_mem _ (Oe s ps h)
theorem Sk(s:List UInt8):∀ps,(Bw ps s).2=false→∀p∈ps,¬(s.take p.length=p∧Gs (s.drop p.length)=true)
 |[],_,p,hp=>absurd hp (by simp)
 |p::ps,h,p',hp=>by
  by_cases e:(decide (s.take p.length=p)&&Gs (s.drop p.length))=true
  · rw[show Bw (p::ps) s=(p,true) from if_pos e] at h;cases h
  · rw[show Bw (p::ps) s=Bw ps s from if_neg e] at h
    rcases List.mem_cons.1 hp with rfl|hp
    · simpa using e
    · exact Sk s ps h p' hp
theorem Xf{p r:List UInt8}{q:UInt8}(hr:r≠[]):(p++q::r).getLast? =r.getLast? :=by
 rw[show p++q::r=(p++[q])++r by simp,List.getLast?_append,List.getLast?_eq_some_getLast hr];rfl
theorem Aa6{q:UInt8}{s p:List UInt8}:Hx q s p=true↔∃r,s=p++q::r∧r≠[]∧r.getLast? =some q:=by
 unfold Hx
 simp only[Bool.and_eq_true,decide_eq_true_eq]
 constructor
 · rintro⟨⟨⟨h1,h2⟩,h3⟩,h4⟩
   cases hd:s.drop p.length with
   |nil=>rw[hd] at h3;cases h3
   |cons c r=>
    rw[hd] at h3
    cases h3
    have hs:s=p++q::r:=by rw[←List.take_append_drop p.length s,h2,hd]
    have hr:r≠[]:=fun e=>by subst e;rw[hs] at h1;simp at h1
    refine⟨r,hs,hr,?_⟩
    rw[hs] at h4
    rw[Xf hr] at h4
    exact h4
 · rintro⟨r,rfl,hr,hl⟩
   have:0<r.length:=List.length_pos_iff.2 hr
   refine⟨⟨⟨by simp;omega,by rw[List.take_left]⟩,by rw[List.drop_left];rfl⟩,?_⟩
   rw[Xf hr];exact hl
theorem Acp{s p:List UInt8}{q:UInt8}(h:Abl s=some (p,q)):∃r,s=p++q::r∧r≠[]∧r.getLast? =some q∧Ah s=(p,true)∧(q=39∨q=34):=by
 have key:∀(q:UInt8)(n:Nat),(q=39∨q=34)→Dz q s De=some n→∃r,s=s.take n++q::r∧r≠[]∧r.getLast? =some q∧Ah s=(s.take n,true):=by
  intro q n hq e
  obtain⟨p,hp,rfl,hT⟩:=Qu De e
  obtain⟨r,h1,h2,h3⟩:=Aa6.1 hT
  have htk:s.take p.length=p:=by rw[h1,List.take_left]
  have hdr:s.drop p.length=q::r:=by rw[h1,List.drop_left]
  have hqa:Gs (s.drop p.length)=true:=by rw[hdr];rcases hq with rfl|rfl<;>rfl
  refine⟨r,by rw[htk];exact h1,h2,h3,?_⟩
  rw[htk]
  cases hl:(Ah s).2 with
  |false=>exact absurd ⟨htk,hqa⟩ (Sk s De hl p hp)
  |true=>
   obtain⟨g1,g2⟩:=Ir s De hl
   have g3:=Oe s De hl
   have n1:=Ahm g1 g2 hp htk
   have n2:=Ahm htk hqa g3 g1
   have:(Ah s).1=p:=by
    have hlen:(Bw De s).1.length=p.length:=by omega
    rw[hlen] at g1
    exact g1.symm.trans htk
   rw[←this,←hl]
 unfold Abl at h
 cases e:Dz 39 s De with
 |some n=>
  rw[e] at h;cases h
  obtain⟨r,h1,h2,h3,h4⟩:=key 39 n (.inl rfl) e
  exact⟨r,h1,h2,h3,h4,.inl rfl⟩
 |none=>
  rw[e] at h
  cases e2:Dz 34 s De with
  |none=>rw[e2] at h;cases h
  |some n=>
   rw[e2] at h;cases h
   obtain⟨r,h1,h2,h3,h4⟩:=key 34 n (.inr rfl) e2
   exact⟨r,h1,h2,h3,h4,.inr rfl⟩
theorem Ac6{s:List UInt8}(h:Abl s=none):Fj s=none:=by
 unfold Fj
 cases hl:(Ah s).2 with
 |false=>rfl
 |true=>
  rw[if_pos rfl]
  obtain⟨g1,g2⟩:=Ir s De hl
  have g3:=Oe s De hl
  cases hd:s.drop (Ah s).1.length with
  |nil=>rfl
  |cons q r=>
   rw[show s.drop (Bw De s).1.length=q::r from hd] at g2
   have hq:q=34∨q=39:=by simpa[Gs] using g2
   show(if r=[] then none else if r.getLast? =some q then Fa q (r.length+1) r.dropLast else none)=none
   by_cases hr:r=[]
   · rw[if_pos hr]
   · rw[if_neg hr]
     by_cases hlast:r.getLast? =some q
     · exfalso
       have hs:s=(Ah s).1++q::r:=by
        conv=>lhs;rw[←List.take_append_drop (Ah s).1.length s]
        rw[show s.take (Ah s).1.length=(Ah s).1 from g1,hd]
       have hT:Hx q s (Ah s).1=true:=Aa6.2 ⟨r,hs,hr,hlast⟩
       unfold Abl at h
       rcases hq with rfl|rfl
       · cases e:Dz 39 s De with
         |some n=>rw[e] at h;cases h
         |none=>
          rw[e] at h
          cases e2:Dz 34 s De with
          |some n=>rw[e2] at h;cases h
          |none=>rw[show Hx 34 s (Ah s).1=false from Qv De e2 _ g3] at hT;cases hT
       · cases e:Dz 39 s De with
         |some n=>rw[e] at h;cases h
         |none=>rw[show Hx 39 s (Ah s).1=false from Qv De e _ g3] at hT;cases hT
     · rw[if_neg hlast]
theorem Aq5{s p r:List UInt8}{q:UInt8}(hs:s=p++q::r)(hr:r≠[])(hlast:r.getLast? =some q)(hl:Ah s=(p,true)):Fj s=Fa q (r.length+1) r.dropLast:=by
 unfold Fj
 rw[hl,if_pos rfl]
 show Yb (s.drop p.length)=_
 rw[hs,List.drop_left]
 show(if r=[] then none else if r.getLast? =some q then Fa q (r.length+1) r.dropLast else none)=_
 rw[if_neg hr,if_pos hlast]
theorem Ay8:∀i:Fin 11,Mr (Js[i.1]'i.2)=some (Tf[i.1]'i.2):=by decide
def Arp(B v:Nat)(ds:List UInt8):Nat:=ds.foldl (fun v c=>(v*B+Lz c)%256) v
theorem Ayy:∀c∈Ec,Af5 (Ah8 c)=Fy c:=by decide
theorem Agt{B:Nat}:∀(ds:List UInt8)(v w:Nat),(∀x∈ds,x∈Ec)→v%256=w%256→(Agv B v (Jq ds))%256=(Arp B w ds)%256
 |[],_,_,_,h=>h
 |c::ds,v,w,hm,h=>by
  have hc:=hm c (by simp)
  show(Agv B ((v*B+Af5 (Ah8 c))&&&4095) (Jq ds))%256=(Arp B ((w*B+Lz c)%256) ds)%256
  refine Agt ds _ _ (fun x hx=>hm x (by simp[hx])) ?_
  rw[Ayy c hc,(Nw c).2.2.2.1 hc,show(4095:Nat)=2^12-1 from rfl,Nat.and_two_pow_sub_one_eq_mod,show(2:Nat)^12=4096 from rfl,Nat.mod_mod,Nat.mod_mod_of_dvd _ (show 256 ∣ 4096 by decide)]
  rw[Nat.add_mod,Nat.mul_mod,h,←Nat.mul_mod,←Nat.add_mod]
theorem Al2{B:Nat}:∀(ds:List UInt8)(v:Nat),v<256→Arp B v ds<256
 |[],_,h=>h
 |_::ds,_,_=>Al2 ds _ (Nat.mod_lt _ (by decide))
theorem A00 {s : List UInt8} {B f m : Nat} {k : KV} (hB : B ≤ 16) (hl : s.length ≤ 1099511627776) (hm : f + m ≤ s.length) : ∀ (n j v : Nat), m - j < n → j ≤ m → v < 256 → k (.tuple [.int .u8 (Int.ofNat (Arp B v (((s.drop f).take m).drop j))), .int .i64 (Int.ofNat (f + m))]) h0 →
    (r73 W1 k n).a2 s.length (enc s) (Int.ofNat v) (Int.ofNat m) (Int.ofNat B) (Int.ofNat f) (Int.ofNat (f + j)) h0
  | 0, _, _, hn, _, _, _ => absurd hn (Nat.not_lt_zero _)
  | n + 1, j, v, hn, hj, hv, hk => by
    refine Bbr ?_
    unfold Al6
    have hlen : ((s.drop f).take m).length = m := by rw [List.length_take, List.length_drop]; omega
    rw [Ea, Co (by omega), Al, ilt]
    by_cases e : j < m
    · refine Df (decide_eq_true (by omega)) ?_
      have hd : ((s.drop f).take m).drop j = s[f + j] :: ((s.drop f).take m).drop (j + 1) := by
        rw [List.drop_eq_getElem_cons (by omega)]
        congr 1
        rw [List.getElem_take, List.getElem_drop]
      have hvB : v * B ≤ 256 * 16 := Nat.mul_le_mul (by omega) hB
      have h100 := (Nw s[f + j]).2.2.2.2
      rw [show Int.ofNat v * Int.ofNat B = Int.ofNat (v * B) from rfl, Co (by omega), Al, Aq]
      refine Bi (by omega) ?_
      refine Di (c69 _) ?_
      rw [Bu, Ea, Co (by omega), Al, Bah (by decide), Gp (by omega), Al]
      refine A00 hB hl hm n (j + 1) _ (by omega) e (Nat.mod_lt _ (by decide)) ?_
      rw [hd] at hk
      exact hk
    · have ej : j = m := by omega
      subst ej
      refine Cm (decide_eq_false (by omega)) ?_
      have hd : ((s.drop f).take j).drop j = [] := by rw [List.drop_eq_nil_iff]; omega
      rw [hd] at hk
      rw [Wu hv, Al, Al]
      exact hk
theorem Avu{s set:List UInt8}{B f m n:Nat}(b:Wt B set)(hl:s.length≤1099511627776)(hm:m≤Ay (s.drop f) set)(hf:f≤s.length)(hn:s.length+2≤n){k:KV}(hk:k (.tuple [ub (Rz s (f+m) f B).1,.int .i64 (Int.ofNat (Rz s (f+m) f B).2)]) h0):(r73 W1 k (n+1)).a3 s.length (enc s) (Int.ofNat 0) (Int.ofNat m) (Int.ofNat B) (Int.ofNat f) h0:=by
 refine Bbq ?_
 unfold Al5
 have hr:=Ge (s.drop f) set
 have hdl:(s.drop f).length=s.length-f:=List.length_drop
 rw[Ld]
 unfold Rz at hk
 refine Ap (fun e=>?_) (fun e=>?_)
 · have e:m=0:=of_decide_eq_true e
   rw[if_pos (by omega)] at hk
   exact hk
 · have e:¬m=0:=of_decide_eq_false e
   rw[if_neg (by omega)] at hk
   have hB:=b.two
   refine A00 (f:=f) hB.2 hl (by omega) n 0 0 (by omega) (Nat.zero_le _) (by decide) ?_
   rw[List.drop_zero]
   have hmem:∀x∈(s.drop f).take m,x∈Ec:=fun x hx=>b.hex x (Rf hm hx)
   have e1:f+m-f=m:=by omega
   rw[e1] at hk
   have e2:(UInt8.ofNat (Agv B 0 (Jq ((s.drop f).take m)))).toNat=Arp B 0 ((s.drop f).take m):=by
    have h1:=Agt (B:=B) ((s.drop f).take m) 0 0 hmem rfl
    have h2:=Al2 (B:=B) ((s.drop f).take m) 0 (by decide)
    have h3:(UInt8.ofNat (Agv B 0 (Jq ((s.drop f).take m)))).toNat=Agv B 0 (Jq ((s.drop f).take m))%256:=by simp
    rw[h3,h1,Nat.mod_eq_of_lt h2]
   have hk:k (.tuple [.int .u8 (Int.ofNat (UInt8.ofNat (Agv B 0 (Jq ((s.drop f).take m)))).toNat),.int .i64 (Int.ofNat (f+m))]) h0:=hk
   rw[e2] at hk
   exact hk
theorem Avv{s:List UInt8}{k:KV}(hl:s.length≤1099511627776)(hk:k (.tuple [ub (Eg s).1,.int .i64 (Int.ofNat (Eg s).2)]) h0):∀(n i:Nat),11-i+s.length+5≤n→i≤11→(∀c r,s=c::r→c∉Js.take i)→(r73 W1 k n).a1 s.length (enc s) (Int.ofNat i) h0
 |0,_,hn,_,_=>absurd hn (by omega)
 |n+1,i,hn,hi,hp=>by
  refine Bbs ?_
  unfold Al7
  rw[ilt]
  by_cases e:i<11
  · refine Df (decide_eq_true e) ?_
    have he:i<Js.length:=e
    cases s with
    |nil=>
     refine Dp (fun e=>by cases e) (fun _=>?_)
     refine Cm rfl ?_
     rw[Gp (by omega),Al]
     exact Avv hl hk n (i+1) (by omega) e fun c r h=>by cases h
    |cons c r=>
     refine Dp (fun _=>?_) (fun e=>by rw[ilt] at e;simp at e)
     refine Bi (s:=c::r) (Nat.zero_lt_succ _) ?_
     rw[Aq]
     refine Bi (s:=Js) he ?_
     rw[List.getElem_cons_zero,Akv]
     refine Ap (fun e2=>?_) (fun e2=>?_)
     · have e2:c=Js[i]:=of_decide_eq_true e2
       rw[Aq]
       refine Bi (s:=Tf) (show i<11 from e) ?_
       have hs:Mr c=some (Tf[i]'(show i<11 from e)):=by rw[e2];exact Ay8 ⟨i,e⟩
       have ee:Eg (c::r)=(Tf[i]'(show i<11 from e),1):=by
        show(match Mr c with|some y=>(y,1)|none=>_:UInt8×Nat)=_
        rw[hs]
       rw[ee] at hk
       exact hk
     · have e2:¬c=Js[i]:=of_decide_eq_false e2
       rw[Gp (by omega),Al]
       refine Avv hl hk n (i+1) (by omega) e fun c' r' h=>?_
       cases h
       have hp:=hp c r rfl
       rw[List.take_add_one,List.getElem?_eq_getElem he]
       simp only[Option.toList_some,List.mem_append,List.mem_singleton,not_or]
       exact⟨hp,e2⟩
  · have ei:i=11:=by omega
    subst ei
    refine Cm rfl ?_
    refine Di (c68 (.inl ⟨rfl,rfl⟩) s 0 (Nat.zero_le _) hl) ?_
    rw[List.drop_zero,Bu,Bbm,Ad,Bu]
    obtain⟨n,rfl⟩:∃n',n=n'+1:=⟨n-1,by omega⟩
    cases s with
    |nil=>
     refine Dp (fun e=>by cases e) (fun _=>?_)
     refine Cm rfl ?_
     refine Avu (s:=[]) (f:=0) (B:=8) (.inl ⟨rfl,rfl⟩) hl (Nat.min_le_left _ _) (Nat.zero_le _) (by simp;omega) ?_
     exact hk
    |cons c r=>
     have hin:c∉Js:=by have:=hp c r rfl;exact this
     refine Dp (fun _=>?_) (fun e=>by rw[ilt] at e;simp at e)
     refine Bi (s:=c::r) (Nat.zero_lt_succ _) ?_
     rw[List.getElem_cons_zero,toNat_eq _ 120 (by decide)]
     have ee:Eg (c::r)=if c=120 then Rz (c::r) (1+Ay r Ec) 1 16 else Rz (c::r) (min (Ay (c::r) Pn) 3) 0 8:=by
      show(match Mr c with|some y=>(y,1)|none=>_:UInt8×Nat)=_
      rw[Ag0 hin]
     refine Ap (fun e2=>?_) (fun e2=>?_)
     · have e2:c=120:=of_decide_eq_true e2
       rw[ee,if_pos e2] at hk
       refine Di (c68 (.inr (.inr ⟨rfl,rfl⟩)) (c::r) 1 (by simp) hl) ?_
       rw[Bu]
       exact Avu (s:=c::r) (f:=1) (B:=16) (.inr (.inr ⟨rfl,rfl⟩)) hl (Nat.le_refl _) (by simp) (by omega) hk
     · have e2:¬c=120:=of_decide_eq_false e2
       rw[ee,if_neg e2] at hk
       refine Avu (s:=c::r) (f:=0) (B:=8) (.inl ⟨rfl,rfl⟩) hl (Nat.min_le_left _ _) (Nat.zero_le _) (by omega) ?_
       rw[Nat.zero_add];exact hk
theorem c73(s:List UInt8)(hl:s.length≤1099511627776):Pure PP G h0 73 [S s] (.tuple [ub (Eg s).1,.int .i64 (Int.ofNat (Eg s).2)]):=by
 refine w73 (n:=s.length+30) Bs (g73 ?_)
 unfold Al8
 exact Avv hl rfl _ 0 (by omega) (by omega) fun c r _=>by simp
theorem Buf.str{g:Bool}{h:H}{v:AV}{l:List UInt8}(hb:Buf g h v l):Fz env h 115 9 v=some (S l,h):=by
 rcases hb with⟨rfl,rfl⟩|⟨q,t,m,z,w,rfl,h1,h2,h3,h4,h5,_⟩
 · rw[A7i]
   show Af6 env 115 h=_
   kernel_rfl
 · exact Vg h2 h3 h5
theorem Bgr{g:Bool}{h:H}{v:AV}{l:List UInt8}{x:UInt8}(hb:Buf g h v l)(hl:l.length+1≤1099511627776){K:KV}(hk:∀v' h',Buf false h' v' (l++[x])→K v' h'):
 oK (Az env .append [115,115] [v,.slice h.next 0 1 1 true] (h.new (.row (T1 (Int.ofNat x.toNat)) 1 0 TB true))) K:=by
 have hx:Ce (h.new (.row (T1 (Int.ofNat x.toNat)) 1 0 TB true)) 1 (.slice h.next 0 1 1 true)=some ([x].length,ubs [x]):=by
  show(Option.rec none (fun cs=>some (1,cs)) ((h.new (.row (T1 (Int.ofNat x.toNat)) 1 0 TB true)).read h.next 0 1):Option (Nat×List AV))=_
  have hr:(h.new (.row (T1 (Int.ofNat x.toNat)) 1 0 TB true)).read h.next 0 1=some (ubs [x]):=by
   show Hp.Ht _ _ _ _ _ _=_
   unfold Hp.Ht
   rw[Ax]
   kernel_rfl
  rw[hr];rfl
 obtain⟨v',h3,e3,b3,_,_⟩:=Awt (hb.mono (Xo.new (o:=.row (T1 (Int.ofNat x.toNat)) 1 0 TB true))) hx (by simp) hl
 rw[Apn,e3,Ad]
 exact hk v' h3 b3
theorem Avx {q : UInt8} {s : List UInt8} {k : KV} (hl : s.length ≤ 549755813888) : ∀ (n i m : Nat) (acc : List UInt8) (v : AV) (h : H), 2 * (s.length - i) + 2 ≤ n → i ≤ s.length → s.length - i < m → acc.length + (s.length - i) ≤ 549755813888 → Buf false h v acc → (∀ h', k (Tl ((Fa q m (s.drop i)).map (acc ++ ·))) h') →
    (r41 W1 k n).a1 (Int.ofNat q.toNat) s.length (enc s) v (Int.ofNat i) h
  | 0, _, _, _, _, _, hn, _, _, _, _, _ => absurd hn (by omega)
  | n + 1, i, m, acc, v, h, hn, hi, hm, ha, hb, hk => by
    refine Bb7 ?_
    unfold Am2
    rw [ilt]
    obtain ⟨m, rfl⟩ : ∃ m', m = m' + 1 := ⟨m - 1, by omega⟩
    have mm : ∀ (x : UInt8) (o : Option (List UInt8)), (o.map (x :: ·)).map (acc ++ ·) = o.map ((acc ++ [x]) ++ ·) := by
      intro x o
      cases o with
      | none => rfl
      | some l => simp
    by_cases e : i < s.length
    · refine Df (decide_eq_true e) ?_
      obtain ⟨n, rfl⟩ : ∃ n', n = n' + 1 := ⟨n - 1, by omega⟩
      have hd : s.drop i = s[i] :: s.drop (i + 1) := List.drop_eq_getElem_cons e
      have eb : Fa q (m + 1) (s.drop i) = if s[i] = q then none else if s[i] = 92 then (if (Eg (s.drop (i + 1))).2 = 0 then none else (Fa q m ((s.drop (i + 1)).drop (Eg (s.drop (i + 1))).2)).map ((Eg (s.drop (i + 1))).1 :: ·)) else (Fa q m (s.drop (i + 1))).map (s[i] :: ·) := by rw [hd]; rfl
      rw [eb] at hk
      rw [Aq]
      refine Bi e ?_
      rw [Akv]
      refine Ap (fun e1 => ?_) (fun e1 => ?_)
      · have e1 : s[i] = q := of_decide_eq_true e1
        rw [if_pos e1] at hk
        exact hk h
      · have e1 : ¬ s[i] = q := of_decide_eq_false e1
        rw [if_neg e1] at hk
        rw [toNat_eq _ 92 (by decide)]
        refine Ap (fun e2 => ?_) (fun e2 => ?_)
        · have e2 : s[i] = 92 := of_decide_eq_true e2
          rw [if_pos e2] at hk
          rw [Gp (by omega), Al, Aq]
          refine Fl (by omega) ?_
          have hle := Afx (s.drop (i + 1))
          rw [List.length_drop] at hle
          refine Di (c73 _ (by rw [List.length_drop]; omega)) ?_
          rw [Dn, Ac8, Du, Bu, Ld]
          refine Ap (fun e3 => ?_) (fun e3 => ?_)
          · have e3 := of_decide_eq_true e3
            rw [if_pos e3] at hk
            exact hk h
          · have e3 := of_decide_eq_false e3
            rw [if_neg e3] at hk
            rw [All, Ad]
            refine Bgr hb (by omega) fun v' h' hb' => ?_
            rw [Ea, Co (by omega), Al]
            refine A0o ?_
            unfold Ag8
            rw [Gp (by omega), Al]
            refine Avx hl n _ m (acc ++ [(Eg (s.drop (i + 1))).1]) v' h' (by omega) (by omega) (by omega) (by rw [List.length_append, List.length_singleton]; omega) hb' fun h2 => ?_
            have := hk h2
            rw [mm, List.drop_drop] at this
            rw [show i + (Eg (s.drop (i + 1))).2 + 1 = i + 1 + (Eg (s.drop (i + 1))).2 by omega]
            exact this
        · have e2 : ¬ s[i] = 92 := of_decide_eq_false e2
          rw [if_neg e2] at hk
          rw [Aq]
          refine Bi e ?_
          rw [All, Ad]
          refine Bgr hb (by omega) fun v' h' hb' => ?_
          refine A0o ?_
          unfold Ag8
          rw [Gp (by omega), Al]
          refine Avx hl n (i + 1) m (acc ++ [s[i]]) v' h' (by omega) e (by omega) (by rw [List.length_append, List.length_singleton]; omega) hb' fun h2 => ?_
          have := hk h2
          rw [mm] at this
          exact this
    · refine Cm (decide_eq_false e) ?_
      have hd : s.drop i = [] := by rw [List.drop_eq_nil_iff]; omega
      rw [hb.str, Ad, Bp]
      have := hk h
      rw [hd, show (Fa q (m + 1) []).map (acc ++ ·) = some acc by show some (acc ++ []) = _; rw [List.append_nil]] at this
      exact this
theorem Zq(o:Option (List UInt8×UInt8)):plain (Aqh o)=true:=by cases o<;>rfl
theorem c41(s:List UInt8)(hl:s.length≤549755813888):Pure PP G h0 41 [S s] (Tl (Fj s)):=by
 refine w41 (n:=2*s.length+10) Bs (g41 ?_)
 unfold Am3
 refine Di (c72 s (by omega)) ?_ rfl (Zq _)
 cases e:Abl s with
 |none=>
  rw[show Aqh none=.tuple [S [],.int .u8 (Int.ofNat 0),.bool false] from rfl,Dn,Bp,Du,Bu,Ait,Bt]
  refine Df rfl ?_
  show AV.tuple _=_
  rw[Ac6 e];rfl
 |some p=>
  obtain⟨p,q⟩:=p
  obtain⟨r,h1,h2,h3,h4,_⟩:=Acp e
  have hb:=Aq5 h1 h2 h3 h4
  have hrl:0<r.length:=List.length_pos_iff.2 h2
  have hsl:s.length=p.length+(r.length+1):=by rw[h1];simp
  rw[show Aqh (some (p,q))=.tuple [S p,ub q,.bool true] from rfl,Dn,Bp,Du,Ac8,Ait,Bt]
  refine Cm rfl ?_
  rw[Gp (by omega),Al,Aig (by omega) (by omega),Al,Aq,Aq]
  refine Ti (by omega) (by omega) ?_
  have hcut:(s.drop (p.length+1)).take (s.length-1-(p.length+1))=r.dropLast:=by
   rw[h1,show p++q::r=(p++[q])++r by simp,show p.length+1=(p++[q]).length by simp,List.drop_left,List.dropLast_eq_take]
   congr 1
   simp;omega
  rw[hcut]
  have hdl:r.dropLast.length=r.length-1:=List.length_dropLast
  refine Avx (q:=q) (by omega) _ 0 (r.length+1) [] .Af h0 (by omega) (Nat.zero_le _) (by omega) (by simp;omega) (.inl ⟨rfl,rfl⟩) fun h'=>?_
  rw[List.drop_zero,hb]
  show Tl ((Fa q (r.length+1) r.dropLast).map fun x=>x)=_
  rw[Option.map_id']
theorem A30{x b:Nat}(hb:b<256):(x*256%4294967296)|||b=(x*256+b)%4294967296:=by
 have h1:x*256%4294967296=2^8*(x%16777216):=by
  rw[show(4294967296:Nat)=16777216*256 by decide,Nat.mul_mod_mul_right,Nat.mul_comm]
 have h2:=Nat.two_pow_add_eq_or_of_lt (i:=8) (b:=b) hb (x%16777216)
 rw[h1,←h2]
 show 256*(x%16777216)+b=_
 omega
def Aju(v:Nat)(l:List UInt8):Nat:=l.foldl (fun v b=>(v*256+b.toNat)%4294967296) v
theorem Ab1:∀(l:List UInt8)(v:Nat),Az0 v l=Aju v l
 |[],_=>rfl
 |b::l,v=>by
  show Az0 ((v*256%4294967296)|||b.toNat) l=Aju ((v*256+b.toNat)%4294967296) l
  rw[A30 b.toNat_lt,Ab1 l]
theorem Axy{n:Nat}(h:n<256):wrap .i8 (Int.ofNat n)=if 127<n then(n:Int)-256 else(n:Int):=by
 rw[Ft]
 by_cases h1:127<n
 · rw[if_pos h1]
   simp[IntKind.wrap,IntKind.bits,IntKind.signed]
   omega
 · rw[if_neg h1]
   simp[IntKind.wrap,IntKind.bits,IntKind.signed]
   omega
theorem wrap_i32{n:Nat}(h:n<4294967296):wrap .i32 (Int.ofNat n)=if 2147483648≤n then(n:Int)-4294967296 else(n:Int):=by
 rw[Ft]
 by_cases h1:2147483648≤n
 · rw[if_pos h1]
   simp[IntKind.wrap,IntKind.bits,IntKind.signed]
   omega
 · rw[if_neg h1]
   simp[IntKind.wrap,IntKind.bits,IntKind.signed]
   omega
theorem Aph{p:P}{h:H}{t:Tm}{L:List UInt8}{n:Int}{m:Nat}{k:KV}(ha:h.at p=.row t 2 0 58 true)(hk:∀h',k (.tuple [.agg [.int .u64 (wrap .u64 n),.bool (decide (L=[117])||decide (L=[85]))],.bool true]) h'):(r39 W1 k (m+1)).a2 (.ptr p 0) L.length (enc L) n h:=by
 refine Bb9 ?_
 unfold Am6
 rw[Al]
 refine Jc ?_
 rw[A0u,Bda,Bgh,Ad]
 exact Ap9 ha hk
theorem A1d {p : P} {h : H} {t : Tm} {L l : List UInt8} {k : KV} (ha : h.at p = .row t 2 0 58 true) (hl : l.length ≤ 1000) (hk : ∀ h', k (.tuple [.agg [.int .u64 (wrap .u64 (wrap .i64 (wrap .i32 (Int.ofNat (Aju 0 l))))), .bool (decide (L = [117]) || decide (L = [85]))], .bool true]) h') : ∀ (n i v : Nat), l.length - i + 2 ≤ n → i ≤ l.length → v < 4294967296 → Aju v (l.drop i) = Aju 0 l →
    (r39 W1 k n).a1 (.ptr p 0) L.length (enc L) l.length (enc l) (Int.ofNat v) (Int.ofNat i) h
  | 0, _, _, hn, _, _, _ => absurd hn (by omega)
  | n + 1, i, v, hn, hi, hv, hu => by
    refine Bca ?_
    unfold Am7
    rw [ilt]
    by_cases e : i < l.length
    · refine Df (decide_eq_true e) ?_
      have hd : l.drop i = l[i] :: l.drop (i + 1) := List.drop_eq_getElem_cons e
      have hx := (l[i]).toNat_lt
      rw [show Int.ofNat v * Int.ofNat 256 = Int.ofNat (v * 256) from rfl, Co (by omega), Al, Aq]
      refine Bi e ?_
      rw [Co (by omega), Al, Ea, Co (by omega), Al, Bah (by decide), Gp (by omega), Al]
      rw [hd] at hu
      exact A1d ha hl hk n (i + 1) _ (by omega) e (Nat.mod_lt _ (by decide)) hu
    · refine Cm (decide_eq_false e) ?_
      have hd : l.drop i = [] := by rw [List.drop_eq_nil_iff]; omega
      rw [hd] at hu
      have hu : v = Aju 0 l := hu
      obtain ⟨n, rfl⟩ : ∃ n', n = n' + 1 := ⟨n - 1, by omega⟩
      rw [← hu, wrap_i32 hv] at hk
      rw [ile]
      refine Ap (fun e2 => ?_) (fun e2 => ?_)
      · have e2 : 2147483648 ≤ v := of_decide_eq_true e2
        rw [if_pos e2] at hk
        have e3 : wrap .i64 (Hw (Int.ofNat v) (Int.ofNat 4294967296)) = wrap .i64 ((v : Int) - 4294967296) := by rw [Og]; rfl
        rw [e3, Al]
        exact Aph ha hk
      · have e2 : ¬ 2147483648 ≤ v := of_decide_eq_false e2
        rw [if_neg e2, wrap64 (by omega) (by omega)] at hk
        exact Aph ha hk
theorem c39(s:List UInt8)(hl:s.length≤549755813888):Pure PP G h0 39 [S s] (Aau (Jj s)):=by
 refine w39 (n:=1100) Bs (g39 ?_)
 unfold Am8
 refine Dt ?_
 have ha:(h0.new Ahr).at h0.next=.row (Aj [.int .u64 (Int.ofNat 0),.bool false] 0 .e) 2 0 58 true:=Ax _ _
 refine Di (c72 s (by omega)) ?_ rfl (Zq _)
 have plb:plain (Tl (Fj s))=true:=by cases Fj s<;>rfl
 have bad:Jj s=none→(oK (Bo env (env.ty 58) [] (h0.new Ahr)) fun v30 h31=>
  stn 2 (.ptr h0.next 0) v30 h31 fun h32=>
  ldn 2 (.ptr h0.next 0) h32 fun v33=>
  (fun v (_:H)=>v=Aau (Jj s):KV) (.tuple [v33,(.bool false)]) h32):=by
  intro e
  rw[b28,Ad]
  refine Ap9 (k:=fun v (_:H)=>v=Aau (Jj s)) ha fun h'=>?_
  show AV.tuple _=_
  rw[e];rfl
 cases e:Abl s with
 |none=>
  have hb:=Ac6 e
  rw[show Aqh none=.tuple [S [],.int .u8 (Int.ofNat 0),.bool false] from rfl,Dn,Bp,Du,Bu,Ait,Bt]
  refine Di (c41 s hl) ?_ rfl plb
  rw[hb,show Tl none=.tuple [S [],.bool false] from rfl,Dn,Bp,Du,Bt]
  refine Jp (fun e=>by cases e) (fun _=>?_)
  refine Jp (fun e=>by cases e) (fun _=>?_)
  refine Jp (fun e=>by cases e) (fun _=>?_)
  refine Jp (fun e=>by cases e) (fun _=>?_)
  refine Jp (fun e=>by cases e) (fun _=>?_)
  refine Df rfl ?_
  exact bad (by unfold Jj;rw[hb])
 |some p=>
  obtain⟨p,q⟩:=p
  obtain⟨r,h1,h2,h3,h4,_⟩:=Acp e
  have hhead:(s.drop p.length).head? =some q:=by rw[h1,List.drop_left];rfl
  rw[show Aqh (some (p,q))=.tuple [S p,ub q,.bool true] from rfl,Dn,Bp,Du,Ac8,Ait,Bt]
  refine Di (c41 s hl) ?_ rfl plb
  cases hb:Fj s with
  |none=>
   rw[show Tl none=.tuple [S [],.bool false] from rfl,Dn,Bp,Du,Bt]
   refine Jc ?_
   refine Jp (fun e=>by cases e) (fun _=>?_)
   refine Jp (fun e=>by cases e) (fun _=>?_)
   refine Jp (fun e=>by cases e) (fun _=>?_)
   refine Jp (fun e=>by cases e) (fun _=>?_)
   refine Df rfl ?_
   exact bad (by unfold Jj;rw[hb])
  |some l=>
   have ec:Jj s=if p=[117,56]∨¬some q=some 39∨l=[]∨8<l.length then none else some (wrap .u64 (cvI l),decide (p=[117])||decide (p=[85])):=by
    unfold Jj
    rw[hb,h4,hhead]
   rw[show Tl (some l)=.tuple [S l,.bool true] from rfl,Dn,Bp,Du,Bt]
   refine Jc ?_
   refine Jc ?_
   refine Jc ?_
   refine Jc ?_
   refine Jc ?_
   rw[toNat_eq _ 39 (by decide),Bc7,ilt,ilt,Bj,Bj]
   refine Ap (fun e2=>?_) (fun e2=>?_)
   · refine bad ?_
     rw[ec]
     refine if_pos ?_
     simp only[Bool.or_eq_true,Bool.not_eq_true',decide_eq_true_eq,decide_eq_false_iff_not,Bool.not_true,Bool.false_or] at e2
     rcases e2 with((e2|e2)|e2)|e2
     · exact .inr (.inl fun h=>e2 (Option.some.inj h))
     · exact .inl e2
     · refine .inr (.inr (.inl ?_))
       exact List.eq_nil_of_length_eq_zero (by omega)
     · exact .inr (.inr (.inr e2))
   · simp only[Bool.or_eq_false_iff,Bool.not_eq_false',decide_eq_false_iff_not,decide_eq_true_eq,Bool.not_true,Bool.false_or] at e2
     obtain⟨⟨⟨e2,e3⟩,e4⟩,e5⟩:=e2
     have hne:l≠[]:=fun h=>e4 (by rw[h];decide)
     rw[if_neg (by
      rintro(h|h|h|h)
      · exact e3 h
      · exact h (congrArg some e2)
      · exact hne h
      · exact e5 h)] at ec
     have fin:∀h',(fun v (_:H)=>v=Aau (Jj s):KV) (.tuple [.agg [.int .u64 (wrap .u64 (cvI l)),.bool (decide (p=[117])||decide (p=[85]))],.bool true]) h':=by
      intro h'
      show AV.tuple _=_
      rw[ec];rfl
     rw[Ld]
     refine Ap (fun e6=>?_) (fun e6=>?_)
     · have e6:l.length=1:=of_decide_eq_true e6
       match l,e6 with
       |[b],_=>
        have hx:=b.toNat_lt
        have ecv:cvI [b]=wrap .i64 (if 127<b.toNat then(b.toNat:Int)-256 else(b.toNat:Int)):=by
         rw[←Axy hx];rfl
        rw[ecv] at fin
        refine Bi (s:=[b]) (Nat.zero_lt_succ _) ?_
        rw[List.getElem_cons_zero,Co (by omega),Al,ilt]
        refine Ap (fun e7=>?_) (fun e7=>?_)
        · have e7:127<b.toNat:=of_decide_eq_true e7
          rw[if_pos e7] at fin
          have e3:wrap .i64 (Hw (Int.ofNat b.toNat) (Int.ofNat 256))=wrap .i64 ((b.toNat:Int)-256):=by rw[Og];rfl
          rw[e3,Al]
          exact Aph ha fin
        · have e7:¬127<b.toNat:=of_decide_eq_false e7
          rw[if_neg e7,wrap64 (by omega) (by omega)] at fin
          exact Aph ha fin
     · have e6:¬l.length=1:=of_decide_eq_false e6
       have hpos:0<l.length:=List.length_pos_iff.2 hne
       have ecv:cvI l=wrap .i64 (wrap .i32 (Int.ofNat (Aju 0 l))):=by
        unfold cvI;rw[if_pos (by omega),Ab1]
       rw[ecv] at fin
       exact A1d ha (by omega) fin _ 0 0 (by omega) (Nat.zero_le _) (by decide) rfl
def sgn(r:List UInt8):Nat:=match r with
 |[]=>0
 |c::_=>if c=43∨c=45 then 1 else 0
theorem Ab3(r:List UInt8):Hj r=r.drop (sgn r)∧sgn r≤r.length:=by
 cases r with
 |nil=>exact⟨rfl,Nat.le_refl _⟩
 |cons c r=>
  show(if c=43∨c=45 then r else c::r)=(c::r).drop (if c=43∨c=45 then 1 else 0)∧(if c=43∨c=45 then 1 else 0)≤(c::r).length
  by_cases h:c=43∨c=45
  · rw[if_pos h,if_pos h];exact⟨rfl,by simp⟩
  · rw[if_neg h,if_neg h];exact⟨rfl,by simp⟩
theorem A02{s:List UInt8}{i n:Nat}{k:KV}(hl:s.length≤1099511627776)(hi:i≤s.length)(hk:k (.tuple [.int .i64 (Int.ofNat (i+Ay (s.drop i) Ek)),.bool (decide (0<Ay (s.drop i) Ek))]) h0):(r71 W1 k (n+1)).a1 s.length (enc s) (Int.ofNat i) h0:=by
 refine Bbt ?_
 unfold Ama
 have hr:=Ge (s.drop i) Ek
 have hdl:(s.drop i).length=s.length-i:=List.length_drop
 refine Di (c68 (.inr (.inl ⟨rfl,rfl⟩)) s i hi hl) ?_
 rw[Bu,Ea,Co (by omega),Al,ilt]
 exact hk
theorem c71(s:List UInt8)(i:Nat)(hl:s.length≤1099511627776)(hi:i≤s.length):Pure PP G h0 71 [S s,.int .i64 (Int.ofNat i)] (.tuple [.int .i64 (Int.ofNat (i+sgn (s.drop i)+Ay (Hj (s.drop i)) Ek)),.bool (decide (0<Ay (Hj (s.drop i)) Ek))]):=by
 refine w71 (n:=2) Bs (g71 ?_)
 unfold Amb
 obtain⟨hu,hs⟩:=Ab3 (s.drop i)
 have hdl:(s.drop i).length=s.length-i:=List.length_drop
 have fin:cnd (decide (sgn (s.drop i)=1)) (fI (wrap .i64 (Cd (Int.ofNat i) (Int.ofNat 1))) fun n11=>(r71 W1 (fun v _=>v=.tuple [.int .i64 (Int.ofNat (i+sgn (s.drop i)+Ay (Hj (s.drop i)) Ek)),.bool (decide (0<Ay (Hj (s.drop i)) Ek))]) 1).a1 s.length (enc s) n11 h0) ((r71 W1 (fun v _=>v=.tuple [.int .i64 (Int.ofNat (i+sgn (s.drop i)+Ay (Hj (s.drop i)) Ek)),.bool (decide (0<Ay (Hj (s.drop i)) Ek))]) 1).a1 s.length (enc s) (Int.ofNat i) h0):=by
  have hsg:sgn (s.drop i)=1∨sgn (s.drop i)=0:=by
   cases s.drop i with
   |nil=>exact .inr rfl
   |cons c r=>
    show(if c=43∨c=45 then 1 else 0)=1∨(if c=43∨c=45 then 1 else 0)=0
    split
    · exact .inl rfl
    · exact .inr rfl
  rw[List.drop_drop] at hu
  refine Ap (fun e=>?_) (fun e=>?_)
  · have e:=of_decide_eq_true e
    rw[Gp (by omega),Al]
    refine A02 hl (by omega) ?_
    rw[e] at hu
    rw[hu,e]
  · have e:=of_decide_eq_false e
    have e0:sgn (s.drop i)=0:=by omega
    refine A02 hl hi ?_
    rw[e0] at hu
    rw[hu,e0,Nat.add_zero]
 by_cases h:i<s.length
 · have hd:s.drop i=s[i]::s.drop (i+1):=List.drop_eq_getElem_cons h
   have hsg:decide (sgn (s.drop i)=1)=(decide (s[i]=43)||decide (s[i]=45)):=by
    rw[hd]
    show decide ((if s[i]=43∨s[i]=45 then 1 else 0)=1)=_
    by_cases h1:s[i]=43<;>by_cases h2:s[i]=45<;>simp[h1,h2]
   rw[hsg] at fin
   refine Dp (fun _=>?_) (fun e=>by rw[ilt,decide_eq_true h] at e;cases e)
   rw[Aq]
   refine Bi h ?_
   refine Ma (b:=decide (s[i]=45)) (fun k' hk'=>?_) ?_
   · rw[Aq]
     refine Bi h ?_
     rw[toNat_eq _ 45 (by decide)];exact hk'
   rw[toNat_eq _ 43 (by decide)]
   exact fin
 · have hd:s.drop i=[]:=by rw[List.drop_eq_nil_iff];omega
   refine Dp (fun e=>by rw[ilt,decide_eq_false h] at e;cases e) (fun _=>?_)
   have hf:decide (sgn (s.drop i)=1)=false:=by rw[hd];rfl
   rw[hf] at fin
   exact fin
def Aw0(B:Nat)(set L:List UInt8):Prop:=(B=10∧set=Ek∧L=eL)∨(B=16∧set=Ec∧L=pL)
theorem Aw0.base{B:Nat}{set L:List UInt8}(h:Aw0 B set L):Wt B set:=by
 rcases h with⟨h1,h2,_⟩|⟨h1,h2,_⟩
 · exact .inr (.inl ⟨h1,h2⟩)
 · exact .inr (.inr ⟨h1,h2⟩)
theorem Arv(a b:UInt8)(r:List UInt8):Mc (a::b::r)=false:=by unfold Mc;simp
theorem tail_at{s:List UInt8}{i:Nat}(hl:s.length≤1099511627776)(hi:i≤s.length){h:H}{K:Bool→H→Prop}(hk:K (Mc (s.drop i)) h):
 Ao (fun k19=>gate false (Ba (Int.ofNat i) (Int.ofNat s.length))
  (fI (wrap .i64 (Cd (Int.ofNat i) (Int.ofNat 1))) fun n22=>
   Ao (fun k23=>gate true (Ba n22 (Int.ofNat s.length))
    (Bz (Int.ofNat i) fun m26=>Ci s.length (enc s) m26 fun m27=>
     Ao (fun k28=>gate false (Ba (Int.ofNat m27) (Int.ofNat 102)) (Bz (Int.ofNat i) fun m31=>Ci s.length (enc s) m31 fun m32=>k28 (Ba (Int.ofNat m32) (Int.ofNat 70)) h) (k28 true h)) fun b30 h29=>
     Ao (fun k33=>gate false b30 (Bz (Int.ofNat i) fun m36=>Ci s.length (enc s) m36 fun m37=>k33 (Ba (Int.ofNat m37) (Int.ofNat 108)) h29) (k33 true h29)) fun b35 h34=>
     Ao (fun k38=>gate false b35 (Bz (Int.ofNat i) fun m41=>Ci s.length (enc s) m41 fun m42=>k38 (Ba (Int.ofNat m42) (Int.ofNat 76)) h34) (k38 true h34)) fun b40 h39=>k23 b40 h39)
    (k23 false h)) fun b25 h24=>k19 b25 h24)
  (k19 true h)) K:=by
 rw[Ld]
 by_cases e:i=s.length
 · subst e
   refine Jp (fun e=>by rw[decide_eq_true rfl] at e;cases e) (fun _=>?_)
   rw[List.drop_length] at hk
   exact hk
 · have hlt:i<s.length:=by omega
   have hd:s.drop i=s[i]::s.drop (i+1):=List.drop_eq_getElem_cons hlt
   refine Jp (fun _=>?_) (fun e2=>absurd (of_decide_eq_true e2) e)
   rw[Gp (by omega),Al,Ld]
   by_cases e1:i+1=s.length
   · have hd1:s.drop (i+1)=[]:=by rw[List.drop_eq_nil_iff];omega
     rw[hd,hd1] at hk
     have ht:Mc [s[i]]=(decide (s[i]=102)||decide (s[i]=70)||decide (s[i]=108)||decide (s[i]=76)):=by unfold Mc;simp
     rw[ht] at hk
     refine Dp (fun _=>?_) (fun e2=>absurd e1 (of_decide_eq_false e2))
     rw[Aq]
     refine Bi hlt ?_
     have at1:∀(c:Nat)(hc:c<256)(K:Bool→Prop),K (decide (s[i]=UInt8.ofNat c))→Bz (Int.ofNat i) fun m31=>Ci s.length (enc s) m31 fun m32=>K (Ba (Int.ofNat m32) (Int.ofNat c)):=by
      intro c hc K hK
      rw[Aq]
      refine Bi hlt ?_
      rw[toNat_eq _ c hc];exact hK
     refine Ma (b:=decide (s[i]=70)) (fun k' hk'=>at1 70 (by decide) (fun b=>k' b h) hk') ?_
     refine Ma (b:=decide (s[i]=108)) (fun k' hk'=>at1 108 (by decide) (fun b=>k' b h) hk') ?_
     refine Ma (b:=decide (s[i]=76)) (fun k' hk'=>at1 76 (by decide) (fun b=>k' b h) hk') ?_
     rw[toNat_eq _ 102 (by decide)]
     exact hk
   · refine Dp (fun e2=>absurd (of_decide_eq_true e2) e1) (fun _=>?_)
     have hlt2:i+1<s.length:=by omega
     have ht:Mc (s.drop i)=false:=by
      rw[hd,List.drop_eq_getElem_cons hlt2]
      exact Arv _ _ _
     rw[ht] at hk
     exact hk
section
variable{B:Nat}{s set L:List UInt8}{k:KV}(K2:Aw0 B set L)(hl:s.length≤1099511627776)
include K2 hl
theorem Avz{i n:Nat}{dot has:Bool}(hi:i≤s.length)(hk:k (.bool (if(!has&&(!dot||decide (set=Ec)))=true then false else Mc (s.drop i))) h0):(r38 W1 k (n+1)).a1 s.length (enc s) (Int.ofNat B) (Int.ofNat i) dot has h0:=by
 refine Bcd ?_
 unfold Anb
 have hB:decide (B=16)=decide (set=Ec):=by rcases K2 with⟨rfl,rfl,_⟩|⟨rfl,rfl,_⟩<;>decide
 refine Vu (b:=decide (set=Ec)||!dot) (fun k' hk'=>?_) ?_
 · refine Jc ?_
   rw[Ld,hB,Bj];exact hk'
 rw[Bj]
 have hc:(!has&&(decide (set=Ec)||!dot))=(!has&&(!dot||decide (set=Ec))):=by rw[Bool.or_comm]
 rw[hc]
 refine Ap (fun e=>?_) (fun e=>?_)
 · rw[if_pos e] at hk;exact hk
 · rw[if_neg (by rw[e];simp)] at hk
   exact tail_at hl hi hk
theorem Avy{i n m:Nat}{dot:Bool}(hi:i≤s.length)(hk:k (.bool (Aam set L n dot (s.drop i))) h0):(r38 W1 k (m+2)).a2 s.length (enc s) (Int.ofNat B) (Int.ofNat n) (Int.ofNat i) dot h0:=by
 refine Bcc ?_
 unfold Ana
 rw[Ld]
 refine Ap (fun e=>?_) (fun e=>?_)
 · unfold Aam at hk
   rw[if_pos (by rw[e];rfl)] at hk
   exact hk
 · have hfin:Aam set L n dot (s.drop i)=if(!(Oq (s.drop i) L).2&&(!dot||decide (set=Ec)))=true then false else Mc (Oq (s.drop i) L).1:=by
    unfold Aam
    rw[e,Bool.false_or]
   rw[hfin] at hk
   have hdl:(s.drop i).length=s.length-i:=List.length_drop
   -- is there an exponent's letter?
   have letK:∀(hh:i<s.length)(K:Bool→H→Prop),K (decide (s[i]∈L)) h0→(Bz (Int.ofNat B) fun _=>Ao (fun k46=>gate true (Ba (Int.ofNat B) (Int.ofNat 10)) (Bz (Int.ofNat i) fun m49=>Ci s.length (enc s) m49 fun m50=>Ao (fun k51=>gate false (Ba (Int.ofNat m50) (Int.ofNat 101)) (Bz (Int.ofNat i) fun m54=>Ci s.length (enc s) m54 fun m55=>k51 (Ba (Int.ofNat m55) (Int.ofNat 69)) h0) (k51 true h0)) fun b53 h52=>k46 b53 h52) (k46 false h0)) fun b48 h47=>
    Ao (fun k56=>gate false b48 (Ao (fun k59=>gate true (Ba (Int.ofNat B) (Int.ofNat 16)) (Bz (Int.ofNat i) fun m62=>Ci s.length (enc s) m62 fun m63=>Ao (fun k64=>gate false (Ba (Int.ofNat m63) (Int.ofNat 112)) (Bz (Int.ofNat i) fun m67=>Ci s.length (enc s) m67 fun m68=>k64 (Ba (Int.ofNat m68) (Int.ofNat 80)) h47) (k64 true h47)) fun b66 h65=>k59 b66 h65) (k59 false h47)) fun b61 h60=>k56 b61 h60) (k56 true h47)) K):=by
    intro hh K hK
    have at1:∀(c:Nat)(hc:c<256)(K:Bool→Prop),K (decide (s[i]=UInt8.ofNat c))→Bz (Int.ofNat i) fun m31=>Ci s.length (enc s) m31 fun m32=>K (Ba (Int.ofNat m32) (Int.ofNat c)):=by
     intro c hc K hK
     rw[Aq]
     refine Bi hh ?_
     rw[toNat_eq _ c hc];exact hK
    rw[Aq]
    rcases K2 with⟨rfl,rfl,rfl⟩|⟨rfl,rfl,rfl⟩
    · have hm:decide (s[i]∈eL)=(decide (s[i]=101)||decide (s[i]=69)):=by simp[eL]
      rw[hm] at hK
      refine Dp (fun _=>?_) (fun e=>by cases e)
      rw[Aq]
      refine Bi hh ?_
      refine Ma (b:=decide (s[i]=69)) (fun k' hk'=>at1 69 (by decide) (fun b=>k' b h0) hk') ?_
      rw[toNat_eq _ 101 (by decide)]
      refine Ma (b:=false) (fun k' hk'=>?_) ?_
      · refine Dp (fun e=>by cases e) (fun _=>hk')
      rw[Bool.or_false];exact hK
    · have hm:decide (s[i]∈pL)=(decide (s[i]=112)||decide (s[i]=80)):=by simp[pL]
      rw[hm] at hK
      refine Dp (fun e=>by cases e) (fun _=>?_)
      refine Jp (fun _=>?_) (fun e=>by cases e)
      refine Dp (fun _=>?_) (fun e=>by cases e)
      rw[Aq]
      refine Bi hh ?_
      refine Ma (b:=decide (s[i]=80)) (fun k' hk'=>at1 80 (by decide) (fun b=>k' b h0) hk') ?_
      rw[toNat_eq _ 112 (by decide)]
      exact hK
   by_cases h:i<s.length
   · have hd:s.drop i=s[i]::s.drop (i+1):=List.drop_eq_getElem_cons h
     refine Dp (fun _=>?_) (fun e=>by rw[ilt,decide_eq_true h] at e;cases e)
     refine letK h _ ?_
     refine Ap (fun e1=>?_) (fun e1=>?_)
     · have hin:s[i]∈L:=of_decide_eq_true e1
       rw[hd,Ao6 hin] at hk
       rw[Gp (by omega),Al]
       refine Di (c71 s (i+1) hl (by omega)) ?_
       rw[Dn,Bu,Du,Bt,Bj]
       obtain⟨hu,hsg⟩:=Ab3 (s.drop (i+1))
       have hr:=Ge (Hj (s.drop (i+1))) Ek
       have hul:(Hj (s.drop (i+1))).length=s.length-(i+1)-sgn (s.drop (i+1)):=by rw[hu,List.length_drop,List.length_drop]
       rw[List.length_drop] at hsg
       refine Ap (fun e2=>?_) (fun e2=>?_)
       · have e2:Ay (Hj (s.drop (i+1))) Ek=0:=by
          have:¬0<Ay (Hj (s.drop (i+1))) Ek:=by simpa using e2
          omega
         rw[if_pos e2] at hk
         have ht:Mc (s[i]::s.drop (i+1))=false:=by
          have:s[i]=101∨s[i]=69∨s[i]=112∨s[i]=80:=by
           rcases K2 with⟨_,_,rfl⟩|⟨_,_,rfl⟩
           · simp[eL] at hin;rcases hin with h|h<;>simp[h]
           · simp[pL] at hin;rcases hin with h|h<;>simp[h]
          unfold Mc
          rcases this with h|h|h|h<;>(rw[h];simp)
         have hk:k (.bool (if(!false&&(!dot||decide (set=Ec)))=true then false else Mc (s[i]::s.drop (i+1)))) h0:=hk
         rw[ht,ite_self] at hk
         exact hk
       · have e2:0<Ay (Hj (s.drop (i+1))) Ek:=by simpa using e2
         rw[if_neg (show¬Ay (Hj (s.drop (i+1))) Ek=0 by omega)] at hk
         refine Avz K2 hl (i:=i+1+sgn (s.drop (i+1))+Ay (Hj (s.drop (i+1))) Ek) (dot:=dot) (has:=decide (s[i]∈L)) (by omega) ?_
         rw[e1]
         have hdd:s.drop (i+1+sgn (s.drop (i+1))+Ay (Hj (s.drop (i+1))) Ek)=(Hj (s.drop (i+1))).drop (Ay (Hj (s.drop (i+1))) Ek):=
          ((congrArg (List.drop (Ay (Hj (s.drop (i+1))) Ek)) hu).trans (by rw[List.drop_drop,List.drop_drop,Nat.add_assoc (i+1)])).symm
         rw[hdd]
         exact hk
     · have hin:s[i]∉L:=of_decide_eq_false e1
       rw[hd,Aao hin] at hk
       refine Avz K2 hl hi ?_
       rw[e1,hd]
       exact hk
   · have hd:s.drop i=[]:=by rw[List.drop_eq_nil_iff];omega
     refine Dp (fun e=>by rw[ilt,decide_eq_false h] at e;cases e) (fun _=>?_)
     refine Cm rfl ?_
     refine Avz K2 hl hi ?_
     rw[hd] at hk ⊢
     exact hk
theorem A1e{at' m:Nat}(hat:at'≤s.length)(hk:k (.bool (Ql set L (s.drop at'))) h0):(r38 W1 k (m+3)).a3 s.length (enc s) (Int.ofNat B) (Int.ofNat at') h0:=by
 refine Bcb ?_
 unfold Am9
 refine Di (c68 K2.base s at' hat hl) ?_
 have hr:=Ge (s.drop at') set
 have hdl:(s.drop at').length=s.length-at':=List.length_drop
 rw[Bu,Ea,Co (by omega),Al]
 have hdd:s.drop (at'+Ay (s.drop at') set)=(s.drop at').drop (Ay (s.drop at') set):=by rw[List.drop_drop]
 unfold Ql at hk
 rw[←hdd] at hk
 by_cases h:at'+Ay (s.drop at') set<s.length
 · have hd:s.drop (at'+Ay (s.drop at') set)=s[at'+Ay (s.drop at') set]::s.drop (at'+Ay (s.drop at') set+1):=List.drop_eq_getElem_cons h
   refine Dp (fun _=>?_) (fun e=>by rw[ilt,decide_eq_true h] at e;cases e)
   rw[Aq]
   refine Bi h ?_
   rw[toNat_eq _ 46 (by decide)]
   refine Ap (fun e=>?_) (fun e=>?_)
   · have e1:s[at'+Ay (s.drop at') set]=46:=of_decide_eq_true e
     have ht:(s.drop (at'+Ay (s.drop at') set)).take 1=[46]:=by rw[hd,e1];rfl
     have hd1:(s.drop (at'+Ay (s.drop at') set)).drop 1=s.drop (at'+Ay (s.drop at') set+1):=by rw[List.drop_drop]
     rw[if_pos ht,hd1] at hk
     rw[Gp (by omega),Al]
     refine Di (c68 K2.base s _ (by omega) hl) ?_
     have hr2:=Ge (s.drop (at'+Ay (s.drop at') set+1)) set
     rw[List.length_drop] at hr2
     rw[Bu,Ea,Co (by omega),Al,Al,Ea,Co (by omega),Al]
     refine Avy K2 hl (dot:=decide (s[at'+Ay (s.drop at') set]=UInt8.ofNat 46)) (by omega) ?_
     rw[e]
     rw[List.drop_drop,show at'+Ay (s.drop at') set+(1+Ay (s.drop (at'+Ay (s.drop at') set+1)) set)=at'+Ay (s.drop at') set+1+Ay (s.drop (at'+Ay (s.drop at') set+1)) set by omega] at hk
     exact hk
   · have e1:¬s[at'+Ay (s.drop at') set]=46:=of_decide_eq_false e
     have ht:¬(s.drop (at'+Ay (s.drop at') set)).take 1=[46]:=by
      rw[hd];intro h2;exact e1 (List.cons.inj (show[s[at'+Ay (s.drop at') set]]=[46] from h2)).1
     rw[if_neg ht] at hk
     refine Avy K2 hl (dot:=decide (s[at'+Ay (s.drop at') set]=UInt8.ofNat 46)) (by omega) ?_
     rw[e]
     exact hk
 · have hd:s.drop (at'+Ay (s.drop at') set)=[]:=by rw[List.drop_eq_nil_iff];omega
   refine Dp (fun e=>by rw[ilt,decide_eq_false h] at e;cases e) (fun _=>?_)
   refine Cm rfl ?_
   rw[if_neg (by rw[hd];simp)] at hk
   exact Avy K2 hl (by omega) hk
end
theorem c38(s:List UInt8)(hl:s.length≤1099511627776):Pure PP G h0 38 [S s] (.bool (Lp s)):=by
 refine w38 (n:=4) Bs (g38 ?_)
 unfold Ane
 have fin:cnd (Ev s) ((r38 W1 (fun v _=>v=.bool (Lp s)) 3).a3 s.length (enc s) (Int.ofNat 16) (Int.ofNat 2) h0) ((r38 W1 (fun v _=>v=.bool (Lp s)) 3).a3 s.length (enc s) (Int.ofNat 10) (Int.ofNat 0) h0):=by
  refine Ap (fun e=>?_) (fun e=>?_)
  · have h2:2≤s.length:=by
     have e:=e
     unfold Ev at e
     rw[Bool.or_eq_true,decide_eq_true_eq,decide_eq_true_eq] at e
     rcases e with e|e<;>(have:=congrArg List.length e;simp[hx1,hx2] at this;omega)
    refine A1e (.inr ⟨rfl,rfl,rfl⟩) hl h2 ?_
    show AV.bool _=AV.bool _
    unfold Lp;rw[if_pos e]
  · refine A1e (.inl ⟨rfl,rfl,rfl⟩) hl (Nat.zero_le _) ?_
    show AV.bool _=AV.bool _
    unfold Lp;rw[if_neg (by rw[e];simp)];rfl
 match s,hl,fin with
 |[],hl,fin=>
  refine Dp (fun e=>by cases e) (fun _=>?_)
  refine Dp (fun e=>by cases e) (fun _=>?_)
  exact fin
 |[c],hl,fin=>
  refine Dp (fun e=>by cases e) (fun _=>?_)
  refine Dp (fun e=>by cases e) (fun _=>?_)
  have hx:Ev [c]=false:=by unfold Ev hx1 hx2;simp
  rw[hx] at fin
  exact fin
 |c::d::r,hl,fin=>
  have hx:Ev (c::d::r)=(decide (c=48)&&(decide (d=120)||decide (d=88))):=by
   unfold Ev hx1 hx2
   by_cases h1:c=48<;>simp[h1]
  rw[hx] at fin
  refine Vu (b:=decide (c=48)) (fun k' hk'=>?_) ?_
  · refine Bi (s:=c::d::r) (Nat.zero_lt_succ _) ?_
    rw[List.getElem_cons_zero,toNat_eq _ 48 (by decide)];exact hk'
  rw[ilt,decide_eq_true (show 1<(c::d::r).length by simp),Bool.true_and]
  refine Vu (b:=decide (d=120)||decide (d=88)) (fun k' hk'=>?_) ?_
  · refine Bi (s:=c::d::r) (by simp) ?_
    refine Ma (b:=decide (d=88)) (fun k'' hk''=>?_) ?_
    · refine Bi (s:=c::d::r) (by simp) ?_
      show k'' (Ba (Int.ofNat d.toNat) (Int.ofNat 88)) _
      rw[toNat_eq _ 88 (by decide)];exact hk''
    show k' (Ba (Int.ofNat d.toNat) (Int.ofNat 120)||decide (d=88)) _
    rw[toNat_eq _ 120 (by decide)];exact hk'
  exact fin
end Go.Den
