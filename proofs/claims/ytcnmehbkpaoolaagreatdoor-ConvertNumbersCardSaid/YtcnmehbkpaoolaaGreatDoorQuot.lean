/-
 Proof.
-/
import Derived.Test.YtcnmehbkpaoolaaGreatDoorMaka
import Derived.Test.YtcnmehbkpaoolaaGreatDoorLaid
noncomputable section
namespace Go.Den
open Go.RowKit
set_option maxRecDepth 100000
def isQ (c : UInt8) : Bool := decide (c = 34) || decide (c = 92)
def Cn (s : List UInt8) : List UInt8 := s.flatMap fun c => if isQ c = true then [92, c] else [c]
def Su (s : List UInt8) : List UInt8 := 34 :: (Cn s ++ [34])
theorem Wo (c : UInt8) (s : List UInt8) : Cn (c :: s) = (if isQ c = true then [92, c] else [c]) ++ Cn s := rfl
theorem Ajd (s t : List UInt8) : Cn (s ++ t) = Cn s ++ Cn t := by unfold Cn; rw [List.flatMap_append]
theorem Mw (s : List UInt8) : (Cn s).length = s.length + s.countP isQ := by
 induction s with
 | nil => rfl
 | cons c s ih =>
  rw [Wo, List.length_append, ih, List.countP_cons, List.length_cons]
  by_cases e : isQ c = true
  · rw [if_pos e, if_pos e]; simp only [List.length_cons, List.length_nil]; omega
  · rw [if_neg e, if_neg e]; simp only [List.length_cons, List.length_nil]; omega
theorem Aqe {s : List UInt8} (h : s.countP isQ = 0) : Cn s = s := by
 induction s with
 | nil => rfl
 | cons c s ih =>
  rw [List.countP_cons] at h
  have e : ¬ isQ c = true := fun e => by rw [if_pos e] at h; omega
  rw [Wo, if_neg e, ih (by omega)]; rfl
theorem A8l (s : List UInt8) : s.countP isQ = s.count 92 + s.count 34 := by
 induction s with
 | nil => rfl
 | cons c s ih =>
  rw [List.countP_cons, List.count_cons, List.count_cons, ih]
  unfold isQ
  by_cases e : c = 34
  · subst e; simp; omega
  · by_cases e2 : c = 92
    · subst e2; simp; omega
    · simp [e, e2]
theorem Bmn (s : List UInt8) (x : UInt8) {h : H} {k : KV} (hk : k (.int .i64 (Int.ofNat (s.count x))) h) : W1 (.func 378) [S s, .int .u8 (Int.ofNat x.toNat)] h k := by
 refine A9l (Cd rfl ?_)
 have hx : Nat.ble x.toNat 255 = true := Nat.ble_eq_true_of_le (by have := x.toNat_lt; omega)
 have ec : Lv x.toNat s.length (enc s) 0 = Int.ofNat (s.count x) := by
  rw [Ol (by have := x.toNat_lt; omega)]
  have ex : x.toNat.toUInt8 = x := by rw [Nat.toUInt8, UInt8.ofNat_toNat]
  rw [ex]
  have key : ∀ (l : List UInt8) (a : Int), l.foldl (fun n y => if (y == x) = true then n + 1 else n) a = a + Int.ofNat (l.count x) := by
   intro l
   induction l with
   | nil => intro a; show a = a + ((0 : Nat) : Int); omega
   | cons y l ih =>
    intro a
    rw [List.foldl_cons, ih, List.count_cons]
    by_cases e : (y == x) = true
    · rw [if_pos e, if_pos e]
      show a + 1 + ((l.count x : Nat) : Int) = a + ((l.count x + 1 : Nat) : Int)
      omega
    · rw [if_neg e, if_neg e]; rfl
  rw [key]
  show ((0 : Nat) : Int) + ((s.count x : Nat) : Int) = ((s.count x : Nat) : Int)
  omega
 have e : Hq .count [S s, .int .u8 (Int.ofNat x.toNat)] h = some (.int .i64 (Int.ofNat (s.count x)), h) := by
  show (Bool.rec (motive := fun _ => Option (AV × H)) none (some (.int .i64 (Lv x.toNat s.length (enc s) 0), h)) (Nat.ble x.toNat 255)) = _
  rw [hx, ec]
 rw [e, Ae]; exact hk
theorem Bmo (s : List UInt8) (x : UInt8) {h : H} {k : KV} (hk : k (.int .i64 (Int.ofNat (s.count x))) h) : W1 (.func 376) [S s, S [x]] h k := by
 refine A9s (n := 1) Bm (Bkr ?_)
 unfold Adn
 refine Bi rfl (Cd rfl ?_)
 refine Cr (s := [x]) (by simp) ?_
 rw [List.getElem_cons_zero]
 refine Bmn s x ?_
 rw [Au]; exact hk
def A8n (i : Nat) : AV := Bool.rec (Bool.rec (Bool.rec .Ad (.slice (pOf 23) 0 2 1 false) (Nat.beq i 256)) (.slice (pOf 20) 0 2 1 false) (Nat.beq i 92)) (.slice (pOf 24) 0 2 1 false) (Nat.beq i 34)
def TR : Tm := Ah ((List.range 257).map A8n) 0 .e
def R24 : Tm := Ah [.int .u8 (.ofNat 92), .int .u8 (.ofNat 34)] 0 .e
def R20 : Tm := Ah [.int .u8 (.ofNat 92), .int .u8 (.ofNat 92)] 0 .e
def R23 : Tm := Ah [S [92], S [34]] 0 .e
def R14 : Tm := Ah [.int .u32 (.ofNat 1), .int .i32 (.ofNat 0), .int .u32 (.ofNat 0), .iface 413 (.ptr (pOf 16) 0), .Ad] 0 .e
structure RS (h : H) : Prop where
 r16 : h.at (pOf 16) = .row TR 257 0 412 true
 r24 : h.at (pOf 24) = .row R24 2 0 5 false
 r20 : h.at (pOf 20) = .row R20 2 0 5 false
 r23 : h.at (pOf 23) = .row R23 2 0 9 false
 hn : 25 ≤ h.next.nat
theorem RS.ext {h h' : H} (r : RS h) (x : Exh h h') : RS h' := by
 have hn := r.hn
 have f : ∀ i, i < 25 → h'.at (pOf i) = h.at (pOf i) := fun i hi => x.2 _ (by rw [Co]; omega)
 exact ⟨by rw [f 16 (by decide)]; exact r.r16, by rw [f 24 (by decide)]; exact r.r24, by rw [f 20 (by decide)]; exact r.r20, by rw [f 23 (by decide)]; exact r.r23, by have := x.1; omega⟩
theorem Aww {i : Nat} (hi : i < 257) : Ba TR i = A8n i := by
 unfold TR
 rw [Ao, if_pos ⟨Nat.zero_le _, by rw [List.length_map, List.length_range]; omega⟩, Nat.sub_zero, List.getD_eq_getElem?_getD, List.getElem?_map, List.getElem?_range hi]
 rfl
def Abj (c : UInt8) : AV := if c = 34 then .slice (pOf 24) 0 2 1 false else if c = 92 then .slice (pOf 20) 0 2 1 false else .Ad
theorem Awx (c : UInt8) : Ba TR c.toNat = Abj c := by
 have hc := c.toNat_lt
 rw [Aww (by omega)]
 unfold A8n Abj
 have e34 : Nat.beq c.toNat 34 = decide (c = 34) := by rw [Ew]; exact decide_eq_decide.2 ⟨fun e => UInt8.toNat_inj.1 e, fun e => by rw [e]; rfl⟩
 have e92 : Nat.beq c.toNat 92 = decide (c = 92) := by rw [Ew]; exact decide_eq_decide.2 ⟨fun e => UInt8.toNat_inj.1 e, fun e => by rw [e]; rfl⟩
 have e256 : Nat.beq c.toNat 256 = false := by rw [Ew]; exact decide_eq_false (by omega)
 rw [e34, e92, e256]
 by_cases a : c = 34
 · rw [if_pos a, decide_eq_true a]
 · rw [if_neg a, decide_eq_false a]
   by_cases b : c = 92
   · rw [if_pos b, decide_eq_true b]
   · rw [if_neg b, decide_eq_false b]
theorem Awy : Ba TR 256 = .slice (pOf 23) 0 2 1 false := by rw [Aww (by decide)]; rfl
theorem Bnm : Aa9 env 410 = some (256, 115) := by kernel_rfl
theorem Bb0 : (env.ty 115).map (·.size) = some 1 := by kernel_rfl
theorem Aal {b : P} {x : UInt8} {h : H} : Cy env 410 (.ptr b 0) (Bd (.int .u8 (Int.ofNat x.toNat))) h = some (.ptr b x.toNat, h) := by
 show Jt env 410 b 0 x.toNat h = _
 unfold Jt
 rw [Bnm]
 have h1 := Bb0
 cases e : env.ty 115 with
 | none => rw [e] at h1; cases h1
 | some ei =>
  rw [e] at h1
  have h2 : ei.size = 1 := Option.some.inj h1
  have hb : Nat.ble (Nat.add x.toNat 1) 256 = true := Nat.ble_eq_true_of_le (by have := x.toNat_lt; show x.toNat + 1 ≤ 256; omega)
  show (Bool.rec (motive := fun _ => Option (AV × H)) none (Option.rec (motive := fun _ => Option (AV × H)) none (fun ei => some (.ptr b (Nat.add 0 (Nat.mul x.toNat ei.size)), h)) (env.ty 115)) (Nat.ble (Nat.add x.toNat 1) 256)) = _
  rw [hb, e]
  show some (AV.ptr b (0 + x.toNat * ei.size), h) = _
  rw [h2, Nat.zero_add, Nat.mul_one]
theorem A1a (b : P) (o n z : Nat) (t : Bool) : On env .neq 115 (.slice b o n z t) .Ad = some (.bool true) := by kernel_rfl
theorem Bdj : On env .neq 115 .Ad .Ad = some (.bool false) := by kernel_rfl
theorem Anx (c : UInt8) : On env .neq 115 (Abj c) .Ad = some (.bool (isQ c)) := by
 unfold Abj isQ
 by_cases a : c = 34
 · rw [if_pos a, decide_eq_true a, A1a]; rfl
 · rw [if_neg a, decide_eq_false a]
   by_cases b : c = 92
   · rw [if_pos b, decide_eq_true b, A1a]; rfl
   · rw [if_neg b, decide_eq_false b, Bdj]; rfl
theorem Ahy {c : UInt8} (hc : isQ c = true) {K : Nat → Prop} : Dy (Abj c) K = K 2 := by
 unfold Abj
 unfold isQ at hc
 by_cases a : c = 34
 · rw [if_pos a]; rfl
 · rw [if_neg a]
   by_cases b : c = 92
   · rw [if_pos b]; rfl
   · simp [a, b] at hc
theorem Ahw {h : H} {q : P} {l : List UInt8} {w : Bool} (ha : h.at q = .row (Ah (ubs l) 0 .e) l.length 0 5 w) : Br h 1 (.slice q 0 l.length 1 false) = some (l.length, ubs l) := by
 show (Bool.rec (motive := fun _ => Option (Nat × List AV)) none (Option.rec (motive := fun _ => Option (Nat × List AV)) none (fun cs => some (l.length, cs)) (h.read q 0 (Nat.mul l.length 1))) (Nat.beq 1 1)) = _
 rw [show Nat.mul l.length 1 = l.length from Nat.mul_one _, Uc ha (Nat.le_refl _), (Dx.new l .e).get]
 rfl
theorem Aks {h : H} (r : RS h) {c : UInt8} (hc : isQ c = true) : Br h 1 (Abj c) = some (2, ubs [92, c]) := by
 unfold Abj
 unfold isQ at hc
 by_cases a : c = 34
 · subst a
   rw [if_pos rfl]; exact Ahw (l := [92, 34]) r.r24
 · rw [if_neg a]
   by_cases b : c = 92
   · subst b
     rw [if_pos rfl]; exact Ahw (l := [92, 92]) r.r20
   · simp [a, b] at hc
theorem Bb4 (b : P) (o n j : Nat) (t : Bool) (h : H) : slice3 env h 115 (.slice b o n 1 t) (some (Bd (.int .i64 (Int.ofNat j)))) none none = Fe h (Tk b o n 1 t j n none) := by kernel_rfl
theorem Bdn (n : Nat) (h : H) : Al env 115 (fun e ei => Du (Bd (.int .i64 (Int.ofNat n))) (Bd (.int .i64 (Int.ofNat n))) h e ei) = (Bool.rec none (some (.slice h.next 0 n 1 (Nat.beq n n), h.new (.row (Ah (Iw [.int .u8 (.ofNat 0)] n) 0 .e) (Nat.mul n 1) 0 TB true)))
 (Ai (Nat.ble n n) (Ai (Ai true true) (Ai (Nat.ble n 1099511627776) (Nat.ble (Nat.mul n 1) 140737488355328)))) : Option (AV × H)) := by kernel_rfl
def Bhp (h : H) (b : P) (N : Nat) (l : List UInt8) : Prop := ∃ t w, h.at b = .row t N 0 TB w ∧ b.nat < h.next.nat ∧ l.length ≤ N ∧ Dx t l
theorem RS.put {h : H} {b : P} {o : Ob FT} (r : RS h) (hb : 25 ≤ b.nat) : RS (h.put b o) := by
 have f : ∀ i, i < 25 → (h.put b o).at (pOf i) = h.at (pOf i) := fun i hi => Bx fun e => by have := Co i; rw [e] at this; omega
 exact ⟨by rw [f 16 (by decide)]; exact r.r16, by rw [f 24 (by decide)]; exact r.r24, by rw [f 20 (by decide)]; exact r.r20, by rw [f 23 (by decide)]; exact r.r23, r.hn⟩
section
variable {s : List UInt8} {b : P} {N : Nat} {t0 : Bool} {k : KV} (hl : s.length ≤ 1000000) (hb25 : 25 ≤ b.nat) (hN : N = (Cn s).length) (hk : ∀ h, k (S (Cn s)) h)
include hl hb25 hN hk
theorem Av4 : ∀ (n i : Nat) {h : H}, 2 * (s.length - i) < n → i ≤ s.length → RS h → Bhp h b N (Cn (s.take i)) → (Kn W1 k n).a4 (.ptr (pOf 16) 0) s.length (enc s) (.slice b 0 N 1 t0) (Int.ofNat (Cn (s.take i)).length) (Int.ofNat i) h
 | 0, _, _, hn, _, _, _ => absurd hn (Nat.not_lt_zero _)
 | n + 1, i, h, hn, hi, r, hf => by
  refine A4r ?_
  unfold Adq
  rw [ilt]
  have hcnt := Mw s
  have hcle : s.countP isQ ≤ s.length := List.countP_le_length
  refine Bb (fun e => ?_) (fun e => ?_)
  · have e : i < s.length := of_decide_eq_true e
    obtain ⟨m, rfl⟩ : ∃ m, n = m + 1 := ⟨n - 1, by omega⟩
    obtain ⟨t, w, ha, hbn, hle, hc⟩ := hf
    have hsplit : Cn s = Cn (s.take i) ++ Cn (s.drop i) := by rw [← Ajd, List.take_append_drop]
    have hdrop : Cn (s.drop i) = (if isQ s[i] = true then [92, s[i]] else [s[i]]) ++ Cn (s.drop (i + 1)) := by rw [List.drop_eq_getElem_cons e, Wo]
    have htake : Cn (s.take (i + 1)) = Cn (s.take i) ++ (if isQ s[i] = true then [92, s[i]] else [s[i]]) := by
     rw [List.take_succ_eq_append_getElem e, Ajd]
     show _ ++ ((if isQ s[i] = true then [92, s[i]] else [s[i]]) ++ Cn []) = _
     rw [show Cn [] = [] from rfl, List.append_nil]
    have hlen : N = (Cn (s.take i)).length + (if isQ s[i] = true then [92, s[i]] else [s[i]]).length + (Cn (s.drop (i + 1))).length := by
     rw [hN, hsplit, hdrop, List.length_append, List.length_append]; omega
    have hbl : N ≤ 2000000 := by rw [hN, hcnt]; omega
    rw [As]
    refine Cr e ?_
    rw [Bk, Ae, Hu, Aal, Ae]
    refine Da r.r16 (by have := s[i].toNat_lt; omega) ?_
    rw [Awx, Anx, Ko, Cg]
    have next : ∀ h' (c : List UInt8), RS h' → Bhp h' b N (Cn (s.take i) ++ c) → c = (if isQ s[i] = true then [92, s[i]] else [s[i]]) → (Kn W1 k (m + 1)).a5 (.ptr (pOf 16) 0) s.length (enc s) (.slice b 0 N 1 t0) (Int.ofNat ((Cn (s.take i)).length + c.length)) (Int.ofNat i) h' := fun h' c r' hf' hcc => by
     refine A4q ?_
     unfold Adp
     rw [Dm, Cm (by omega), Ar]
     subst hcc
     rw [← List.length_append, ← htake]
     rw [← htake] at hf'
     exact Av4 m (i + 1) (by omega) e r' hf'
    refine Bb (fun eq => ?_) (fun eq => ?_)
    · rw [if_pos eq] at hlen
      have hlen : N = (Cn (s.take i)).length + 2 + (Cn (s.drop (i + 1))).length := hlen
      rw [Bb4]
      have ec : (Tk b 0 N 1 t0 (Cn (s.take i)).length N none : Option AV) = some (.slice b (0 + (Cn (s.take i)).length * 1) (N - (Cn (s.take i)).length) 1 (Ai t0 (Nat.beq N N))) := by
       show (Bool.rec (motive := fun _ => Option AV) none (some (.slice b (Nat.add 0 (Nat.mul (Cn (s.take i)).length 1)) (Nat.sub N (Cn (s.take i)).length) 1 (Ai t0 (Nat.beq N N)))) (Ai (Ai (Nat.ble (Cn (s.take i)).length N) (Nat.ble N N)) true)) = _
       rw [Nat.ble_eq_true_of_le (show (Cn (s.take i)).length ≤ N by omega), Nat.ble_eq_true_of_le (Nat.le_refl N)]
       rfl
      rw [ec]
      show oK (some (AV.slice b (0 + (Cn (s.take i)).length * 1) (N - (Cn (s.take i)).length) 1 (Ai t0 (Nat.beq N N)), h)) _
      rw [Ae, Bk, Ae, Hu, Aal, Ae]
      refine Da r.r16 (by have := s[i].toNat_lt; omega) ?_
      rw [Awx, Bgf]
      have hwr : h.write b (0 + (Cn (s.take i)).length * 1) (ubs [92, s[i]]) = some (h.put b (.row (Ah (ubs [92, s[i]]) (Cn (s.take i)).length t) N 0 TB w)) := by
       rw [Nat.mul_one, Nat.zero_add]
       unfold Hp.write Hp.Gr
       rw [ha]
       show Sb h b (Cn (s.take i)).length (ubs [92, s[i]]) none some t N 0 TB w = _
       unfold Sb
       rw [Di, show (ubs [92, s[i]]).length = 2 from rfl, show Nat.ble (Nat.add (Cn (s.take i)).length 2) N = true from Nat.ble_eq_true_of_le (by show (Cn (s.take i)).length + 2 ≤ N; omega)]
       show Jg (Ah (ubs [92, s[i]]) (Cn (s.take i)).length t) (fun t => h.Pw b (.row t N 0 TB w) some) = _
       rw [Ie, Lo]
      have hcp : Th (.slice b (0 + (Cn (s.take i)).length * 1) (N - (Cn (s.take i)).length) 1 (Ai t0 (Nat.beq N N))) (Abj s[i]) h TB ei8 = some (.int .i64 (.ofNat 2), h.put b (.row (Ah (ubs [92, s[i]]) (Cn (s.take i)).length t) N 0 TB w)) := by
       show (Option.rec none (fun p => Bool.rec none (Bool.rec (Ux (N - (Cn (s.take i)).length) (h.write b (0 + (Cn (s.take i)).length * 1) (Ik (Nat.mul (N - (Cn (s.take i)).length) 1) p.2))) (Ux p.1 (h.write b (0 + (Cn (s.take i)).length * 1) p.2)) (Nat.ble p.1 (N - (Cn (s.take i)).length))) (Nat.beq 1 1)) (Br h 1 (Abj s[i])) : Option (AV × H)) = _
       rw [Aks r eq]
       show (Bool.rec (Ux (N - (Cn (s.take i)).length) (h.write b (0 + (Cn (s.take i)).length * 1) (Ik (Nat.mul (N - (Cn (s.take i)).length) 1) (ubs [92, s[i]])))) (Ux 2 (h.write b (0 + (Cn (s.take i)).length * 1) (ubs [92, s[i]]))) (Nat.ble 2 (N - (Cn (s.take i)).length)) : Option (AV × H)) = _
       rw [Nat.ble_eq_true_of_le (show 2 ≤ N - (Cn (s.take i)).length by omega)]
       show Ux 2 (h.write b (0 + (Cn (s.take i)).length * 1) (ubs [92, s[i]])) = _
       rw [hwr]; rfl
      rw [hcp, Ae, Au, Dm, Cm (by omega), Ar]
      refine next _ [92, s[i]] (r.put hb25) ⟨_, w, Bn _ _ _, hbn, ?_, hc.app⟩ (by rw [if_pos eq])
      rw [List.length_append]
      show (Cn (s.take i)).length + 2 ≤ N
      omega
    · have eq' : ¬ isQ s[i] = true := by rw [eq]; decide
      rw [if_neg eq'] at hlen
      have hlen : N = (Cn (s.take i)).length + 1 + (Cn (s.drop (i + 1))).length := hlen
      rw [As]
      refine Rm (by omega) ?_
      refine Pp ha (Nat.zero_le _) (by omega) rfl ?_
      rw [Dm, Cm (by omega), Ar]
      refine next _ [s[i]] (r.put hb25) ⟨_, w, Bn _ _ _, hbn, ?_, ?_⟩ (by rw [if_neg eq'])
      · rw [List.length_append]
        show (Cn (s.take i)).length + 1 ≤ N
        omega
      · rw [show 0 + (Cn (s.take i)).length * 1 = (Cn (s.take i)).length by omega]
        exact hc.app (m := [s[i]])
  · have e : i = s.length := by have := of_decide_eq_false e; omega
    subst e
    obtain ⟨t, w, ha, hbn, hle, hc⟩ := hf
    rw [List.take_length] at hc hle
    have : N = (Cn s).length := hN
    subst this
    rw [Ajn ha (Nat.le_refl _) hc, Ae, Ck]
    exact hk h
end
theorem Bdd {h : H} (r : RS h) {K : Nat → Nat → Prop} {j : Nat} {c : UInt8} (hj : j < 2) (hc : [92, 34][j]'hj = c) (hK : K ([c] : List UInt8).length (enc [c])) : Cf 1 j (.slice (pOf 23) 0 2 1 false) fun v => ld1 v h fun v => asS v K := by
 refine Rm hj ?_
 refine Da r.r23 (by omega) ?_
 have : Ba R23 (0 + j * 1) = S [c] := by
  unfold R23
  rw [Ao, if_pos ⟨Nat.zero_le _, by show 0 + j * 1 < 0 + 2; omega⟩]
  match j, hj with
  | 0, _ => rw [← hc]; rfl
  | 1, _ => rw [← hc]; rfl
 rw [this]
 exact Ck.mpr hK
section
variable {s : List UInt8} {k : KV} (hl : s.length ≤ 1000000) (hk : ∀ h, k (S (Cn s)) h)
include hl hk
theorem Av3 {n : Nat} {h : H} (hn : 2 * s.length + 2 ≤ n) (r : RS h) : (Kn W1 k (n + 1)).a6 (.ptr (pOf 16) 0) s.length (enc s) (Int.ofNat (Cn s).length) (decide (s.countP isQ ≠ 0)) h := by
 have hcnt := Mw s
 have hcle : s.countP isQ ≤ s.length := List.countP_le_length
 refine A4p ?_
 unfold Ado
 rw [Bl]
 refine Bb (fun e => ?_) (fun e => ?_)
 · have e : s.countP isQ = 0 := by simpa using e
   have := hk h
   rw [Aqe e] at this; exact this
 · rw [Bdn, Nat.ble_eq_true_of_le (Nat.le_refl _), Nat.ble_eq_true_of_le (show (Cn s).length ≤ 1099511627776 by omega), Nat.ble_eq_true_of_le (show Nat.mul (Cn s).length 1 ≤ 140737488355328 by show (Cn s).length * 1 ≤ _; omega)]
   show oK (some (AV.slice h.next 0 (Cn s).length 1 (Nat.beq (Cn s).length (Cn s).length), h.new (.row (Ah (Iw [.int .u8 (.ofNat 0)] (Cn s).length) 0 .e) (Nat.mul (Cn s).length 1) 0 TB true))) _
   rw [Ae, show Nat.mul (Cn s).length 1 = (Cn s).length from Nat.mul_one _]
   have hn25 := r.hn
   exact Av4 hl hn25 rfl hk n 0 (by omega) (Nat.zero_le _) (r.ext .new) ⟨_, true, Aw _ _, by rw [Bc]; omega, Nat.zero_le _, fun i hi => absurd hi (Nat.not_lt_zero _)⟩
theorem Av5 : ∀ (n i : Nat) {h : H}, 2 * (s.length - i) + 2 * s.length + 4 ≤ n → i ≤ s.length → RS h → (Kn W1 k n).a2 (.ptr (pOf 16) 0) s.length (enc s) (Int.ofNat (s.length + (s.take i).countP isQ)) (decide ((s.take i).countP isQ ≠ 0)) (Int.ofNat i) h
 | 0, _, _, hn, _, _ => by omega
 | n + 1, i, h, hn, hi, r => by
  have hcle : (s.take i).countP isQ ≤ (s.take i).length := List.countP_le_length
  have htl : (s.take i).length = i := by rw [List.length_take]; omega
  refine A4s ?_
  unfold Adr
  rw [ilt]
  refine Bb (fun e => ?_) (fun e => ?_)
  · have e : i < s.length := of_decide_eq_true e
    obtain ⟨m, rfl⟩ : ∃ m, n = m + 1 := ⟨n - 1, by omega⟩
    have htake : (s.take (i + 1)).countP isQ = (s.take i).countP isQ + if isQ s[i] = true then 1 else 0 := by
     rw [List.take_succ_eq_append_getElem e, List.countP_append, List.countP_cons]; simp
    have ih := Av5 m (i + 1) (h := h) (by omega) e r
    rw [htake] at ih
    rw [As]
    refine Cr e ?_
    rw [Bk, Ae, Hu, Aal, Ae]
    refine Da r.r16 (by have := s[i].toNat_lt; omega) ?_
    rw [Awx, Anx, Ko, Cg]
    refine Bb (fun eq => ?_) (fun eq => ?_)
    · rw [if_pos eq] at ih
      rw [Bk, Ae, Hu, Aal, Ae]
      refine Da r.r16 (by have := s[i].toNat_lt; omega) ?_
      rw [Awx, Ahy eq, Acw (by omega), Cm (by omega), Ar, Dm, Cm (by omega), Ar]
      refine At3 ?_
      unfold Za
      rw [Dm, Cm (by omega), Ar]
      rw [decide_eq_true (show (s.take i).countP isQ + 1 ≠ 0 by omega)] at ih
      exact ih
    · rw [if_neg (by rw [eq]; decide)] at ih
      refine At3 ?_
      unfold Za
      rw [Dm, Cm (by omega), Ar]
      exact ih
  · have e : i = s.length := by have := of_decide_eq_false e; omega
    subst e
    obtain ⟨m, rfl⟩ : ∃ m, n = m + 1 := ⟨n - 1, by omega⟩
    rw [List.take_length, ← Mw]
    exact Av3 hl hk (by omega) r
theorem A8u {n : Nat} {h : H} (hn : 2 * s.length + 2 ≤ n) (r : RS h) : (Kn W1 k (n + 4)).a1 (.ptr (pOf 16) 0) s.length (enc s) (Int.ofNat s.length) false (.slice (pOf 23) 0 2 1 false) (Int.ofNat 2) (Int.ofNat 0) h := by
  have hcq := A8l s
  have hc1 : s.count 92 ≤ s.length := List.count_le_length
  have hc2 : s.count 34 ≤ s.length := List.count_le_length
  have step : ∀ (c : UInt8) (j : Nat) (hj : j < 2) (n1 a : Nat) (b : Bool), [92, 34][j]'hj = c → a ≤ 3000000 → s.count c ≤ s.length → isQ c = true →
      (∀ a' b', a' = a + s.count c → b' = (b || decide (s.count c ≠ 0)) → (Kn W1 k n1).a1 (.ptr (pOf 16) 0) s.length (enc s) (Int.ofNat a') b' (.slice (pOf 23) 0 2 1 false) (Int.ofNat 2) (Int.ofNat (j + 1)) h) →
      (Kn W1 k (n1 + 1)).a1 (.ptr (pOf 16) 0) s.length (enc s) (Int.ofNat a) b (.slice (pOf 23) 0 2 1 false) (Int.ofNat 2) (Int.ofNat j) h := fun c j hj n1 a b hcj ha hcc hq hgo => by
    refine At4 ?_
    unfold Zb
    rw [ilt, decide_eq_true hj]
    refine Cd rfl ?_
    rw [As]
    refine Bdd r hj hcj ?_
    refine Bmo s c ?_
    rw [Au, Mq, Bl]
    refine Bb (fun e => ?_) (fun e => ?_)
    · have e : s.count c ≠ 0 := by simpa using e
      refine Cr (s := [c]) (by simp) ?_
      rw [List.getElem_cons_zero, Bk, Ae, Hu, Aal, Ae]
      refine Da r.r16 (by have := c.toNat_lt; omega) ?_
      rw [Awx, Ahy hq, Acw (by omega), Cm (by omega), Ar]
      rw [show (Int.ofNat (s.count c)) * (Int.ofNat (2 - 1)) = Int.ofNat (s.count c) by show ((s.count c : Nat) : Int) * ((1 : Nat) : Int) = _; rw [Int.natCast_one, Int.mul_one]; rfl, Cm (by omega), Ar, Dm, Cm (by omega), Ar, Dm, Cm (by omega), Ar]
      exact hgo _ _ rfl (by rw [decide_eq_true e]; simp)
    · have e : s.count c = 0 := by simpa using e
      rw [Dm, Cm (by omega), Ar]
      exact hgo _ _ (by rw [e]; rfl) (by rw [e]; simp)
  refine step 92 0 (by decide) (n + 3) s.length false rfl (by omega) hc1 rfl fun a' b' ea eb => ?_
  subst ea
  refine step 34 1 (by decide) (n + 2) _ b' rfl (by omega) hc2 rfl fun a'' b'' ea' eb' => ?_
  refine At4 ?_
  unfold Zb
  rw [ilt]
  refine Bi rfl ?_
  have e1 : a'' = (Cn s).length := by rw [ea', Mw, hcq]; omega
  have e2 : b'' = decide (s.countP isQ ≠ 0) := by
    rw [eb', eb, hcq]
    by_cases x : s.count 92 = 0
    · by_cases y : s.count 34 = 0
      · simp [x, y]
      · simp [x, y]
    · simp [x]
  rw [e1, e2]
  exact Av3 hl hk hn r
end
theorem Bmp {s : List UInt8} {h : H} {k : KV} (hl : s.length ≤ 1000000) (r : RS h) (hk : ∀ h, k (S (Cn s)) h) : W1 (.func 374) [.ptr (pOf 16) 0, S s] h k := by
 refine A9t (n := 4 * s.length + 10 + 1) Bm (Bks ?_)
 unfold Ads
 rw [Bk, Ae, Ay]
 refine Da r.r16 (by decide) ?_
 rw [show 0 + 256 = 256 from rfl, Awy, Jk]
 rw [show (Int.ofNat 2) * (Int.ofNat 8) = Int.ofNat 16 from rfl, Cm (by decide), Ar]
 refine Bb (fun _ => ?_) (fun _ => ?_)
 · rw [Bk, Ae, Ay]
   refine Da r.r16 (by decide) ?_
   rw [show 0 + 256 = 256 from rfl, Awy, Jk]
   exact A8u (n := 4 * s.length + 6) hl hk (by omega) r
 · have := Av5 hl hk (4 * s.length + 10) 0 (h := h) (by omega) (Nat.zero_le _) r
   exact this
def QR2 (h5 : H) : Prop := h5.at (pOf 14) = .row R14 5 0 302 true ∧ h5.at (pOf 16) = .row TR 257 0 412 true ∧ h5.at (pOf 24) = .row R24 2 0 5 false ∧ h5.at (pOf 20) = .row R20 2 0 5 false ∧ h5.at (pOf 23) = .row R23 2 0 9 false ∧ h5.next = pOf 25
def QR (v3 : AV) (h4 : H) : Prop := v3 = .ptr (pOf 14) 0 ∧ calls 100000 100000 (.func 74) [.ptr (pOf 14) 0, .func (.func 214) [.ptr (pOf 14) 0] []] h4 fun _ h5 => QR2 h5
theorem Ayz : oK (Al env 44 (fun e ei => Aj 4 [(0, (.str 1 34)), (1, (.str 2 8796)), (2, (.str 1 92)), (3, (.str 2 23644))] h0 e ei)) (fun v1 h2 => calls 100000 100000 (.func 165) [v1] h2 QR)
 = (AV.ptr (pOf 14) 0 = .ptr (pOf 14) 0 ∧ (.row R14 5 0 302 true : Ob FT) = .row R14 5 0 302 true ∧ (.row TR 257 0 412 true : Ob FT) = .row TR 257 0 412 true ∧ (.row R24 2 0 5 false : Ob FT) = .row R24 2 0 5 false ∧ (.row R20 2 0 5 false : Ob FT) = .row R20 2 0 5 false ∧ (.row R23 2 0 9 false : Ob FT) = .row R23 2 0 9 false ∧ pOf 25 = pOf 25) := by kernel_rfl
theorem Ay4 {o : Option (AV × H)} {K K' : KV} (h : oK o K) (hk : ∀ v h, K v h → K' v h) : oK o K' := by
 cases o with
 | none => exact h.elim
 | some p =>
  obtain ⟨v, h'⟩ := p
  rw [Ae] at h ⊢
  exact hk _ _ h
theorem As8 : oK (Al env 44 (fun e ei => Aj 4 [(0, (.str 1 34)), (1, (.str 2 8796)), (2, (.str 1 92)), (3, (.str 2 23644))] h0 e ei)) (fun v1 h2 => calls 100000 100000 (.func 165) [v1] h2 QR) :=
 Ayz.mpr ⟨rfl, rfl, rfl, rfl, rfl, rfl, rfl⟩
theorem Azb : Xb env 413 "Replace" = some 374 := by kernel_rfl
theorem Bee {t : TypeId} {x : AV} {name : String} {args : List AV} {h : H} {k : KV} {f : FuncId} (hm : Xb env t name = some f) (hg : W1 (.func f) (x :: args) h k) : inv2 env W1 (.iface t x) name args h k := by
 show Xj (CP env) W1 (.iface t x) name args h k
 simp only [Xj]
 rw [show Xb (CP env).E t name = some f from hm]
 exact hg
theorem Bhn : Ba R14 (0 + 3) = .iface 413 (.ptr (pOf 16) 0) := by unfold R14; rw [Ao]; rfl
theorem Bm3 {s : List UInt8} {h4 : H} {k : KV} (hl : s.length ≤ 1000000) (hq : W1 (.func 74) [.ptr (pOf 14) 0, .func (.func 214) [.ptr (pOf 14) 0] []] h4 fun _ h5 => QR2 h5) (hk : ∀ h, k (S (Cn s)) h) : W1 (.func 166) [.ptr (pOf 14) 0, S s] h4 k := by
 refine A98 (n := 1) Bm (Bk7 ?_)
 unfold Aef
 rw [Bk, Ae, Hu]
 refine Tu hq fun _ h5 hh => ?_
 obtain ⟨a14, a16, a24, a20, a23, an⟩ := hh
 rw [Bk, Ae, Ay]
 refine Da a14 (by decide) ?_
 rw [Bhn]
 refine Bee Azb ?_
 refine Bmp hl ⟨a16, a24, a20, a23, by rw [an, Co]; decide⟩ fun h6 => ?_
 rw [Ck]; exact hk h6
theorem Bng (s : List UInt8) (hl : s.length ≤ 1000000) : Pure PP G h0 111 [S s] (S (Cn s)) := by
 refine Bax (n := 1) Bm (Blx ?_)
 unfold Aff
 refine Ay4 As8 fun v h hr => ?_
 refine Tu (Ahj (Ld 100000 100000) hr) fun v3 h4 hh => ?_
 obtain ⟨rfl, hc⟩ := hh
 refine Bm3 hl (Ahj (Ld 100000 100000) hc) fun h6 => ?_
 rw [Ck]
theorem c62 (s : List UInt8) (hl : s.length ≤ 1000000) : Pure PP G h0 62 [S s] (S (Su s)) := by
 refine w62 (n := 1) Bm (g62 ?_)
 unfold Am9
 have hcnt := Mw s
 have hcle : s.countP isQ ≤ s.length := List.countP_le_length
 refine Dq (Bng s hl) ?_
 rw [Ck]
 refine Aa2 (s := [34]) (by simp only [List.length_singleton]; omega) ?_
 refine Aa2 (s := [34] ++ Cn s) (t := [34]) (by rw [List.length_append]; simp only [List.length_singleton]; omega) ?_
 rfl
end Go.Den
