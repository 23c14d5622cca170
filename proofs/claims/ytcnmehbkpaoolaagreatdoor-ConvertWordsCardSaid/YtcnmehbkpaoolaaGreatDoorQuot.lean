/-
 A part of the proof.
-/
import Derived.Test.YtcnmehbkpaoolaaGreatDoorMaka
import Derived.Test.YtcnmehbkpaoolaaGreatDoorLaid
noncomputable section
namespace Go.Den
open Go.RowKit
set_option maxRecDepth 100000
def isQ (c : UInt8) : Bool := decide (c = 34) || decide (c = 92)
def Ci (s : List UInt8) : List UInt8 := s.flatMap fun c => if isQ c = true then [92, c] else [c]
def Sk (s : List UInt8) : List UInt8 := 34 :: (Ci s ++ [34])
theorem Wk (c : UInt8) (s : List UInt8) : Ci (c :: s) = (if isQ c = true then [92, c] else [c]) ++ Ci s := rfl
theorem Ai4 (s t : List UInt8) : Ci (s ++ t) = Ci s ++ Ci t := by unfold Ci; rw [List.flatMap_append]
theorem Mi (s : List UInt8) : (Ci s).length = s.length + s.countP isQ := by
 induction s with
 | nil => rfl
 | cons c s ih =>
  rw [Wk, List.length_append, ih, List.countP_cons, List.length_cons]
  by_cases e : isQ c = true
  · rw [if_pos e, if_pos e]; simp only [List.length_cons, List.length_nil]; omega
  · rw [if_neg e, if_neg e]; simp only [List.length_cons, List.length_nil]; omega
theorem Ap4 {s : List UInt8} (h : s.countP isQ = 0) : Ci s = s := by
 induction s with
 | nil => rfl
 | cons c s ih =>
  rw [List.countP_cons] at h
  have e : ¬ isQ c = true := fun e => by rw [if_pos e] at h; omega
  rw [Wk, if_neg e, ih (by omega)]; rfl
theorem A70 (s : List UInt8) : s.countP isQ = s.count 92 + s.count 34 := by
 induction s with
 | nil => rfl
 | cons c s ih =>
  rw [List.countP_cons, List.count_cons, List.count_cons, ih]
  unfold isQ
  by_cases e : c = 34
  · subst e; simp; omega
  · by_cases e2 : c = 92
    · subst e2; simp; omega
    · simp [e, e2]
theorem Blg (s : List UInt8) (x : UInt8) {h : H} {k : KV} (hk : k (.int .i64 (Int.ofNat (s.count x))) h) : W1 (.func 378) [S s, .int .u8 (Int.ofNat x.toNat)] h k := by
 refine A81 (Cd rfl ?_)
 have hx : Nat.ble x.toNat 255 = true := Nat.ble_eq_true_of_le (by have := x.toNat_lt; omega)
 have ec : Lo x.toNat s.length (enc s) 0 = Int.ofNat (s.count x) := by
  rw [Oa (by have := x.toNat_lt; omega)]
  have ex : x.toNat.toUInt8 = x := by rw [Nat.toUInt8, UInt8.ofNat_toNat]
  rw [ex]
  have key : ∀ (l : List UInt8) (a : Int), l.foldl (fun n y => if (y == x) = true then n + 1 else n) a = a + Int.ofNat (l.count x) := by
   intro l
   induction l with
   | nil => intro a; show a = a + ((0 : Nat) : Int); omega
   | cons y l ih =>
    intro a
    rw [List.foldl_cons, ih, List.count_cons]
    by_cases e : (y == x) = true
    · rw [if_pos e, if_pos e]
      show a + 1 + ((l.count x : Nat) : Int) = a + ((l.count x + 1 : Nat) : Int)
      omega
    · rw [if_neg e, if_neg e]; rfl
  rw [key]
  show ((0 : Nat) : Int) + ((s.count x : Nat) : Int) = ((s.count x : Nat) : Int)
  omega
 have e : He .count [S s, .int .u8 (Int.ofNat x.toNat)] h = some (.int .i64 (Int.ofNat (s.count x)), h) := by
  show (Bool.rec (motive := fun _ => Option (AV × H)) none (some (.int .i64 (Lo x.toNat s.length (enc s) 0), h)) (Nat.ble x.toNat 255)) = _
  rw [hx, ec]
 rw [e, Ae]; exact hk
theorem Blh (s : List UInt8) (x : UInt8) {h : H} {k : KV} (hk : k (.int .i64 (Int.ofNat (s.count x))) h) : W1 (.func 376) [S s, S [x]] h k := by
 refine A86 (n := 1) Bj (Bjm ?_)
 unfold Ade
 refine Bl rfl (Cd rfl ?_)
 refine Ch (s := [x]) (by simp) ?_
 rw [List.getElem_cons_zero]
 refine Blg s x ?_
 rw [Au]; exact hk
def A71 (i : Nat) : AV := Bool.rec (Bool.rec (Bool.rec .Ad (.slice (pOf 23) 0 2 1 false) (Nat.beq i 256)) (.slice (pOf 20) 0 2 1 false) (Nat.beq i 92)) (.slice (pOf 24) 0 2 1 false) (Nat.beq i 34)
def TR : Tm := Ah ((List.range 257).map A71) 0 .e
def R24 : Tm := Ah [.int .u8 (.ofNat 92), .int .u8 (.ofNat 34)] 0 .e
def R20 : Tm := Ah [.int .u8 (.ofNat 92), .int .u8 (.ofNat 92)] 0 .e
def R23 : Tm := Ah [S [92], S [34]] 0 .e
def R14 : Tm := Ah [.int .u32 (.ofNat 1), .int .i32 (.ofNat 0), .int .u32 (.ofNat 0), .iface 413 (.ptr (pOf 16) 0), .Ad] 0 .e
structure RS (h : H) : Prop where
 r16 : h.at (pOf 16) = .row TR 257 0 412 true
 r24 : h.at (pOf 24) = .row R24 2 0 5 false
 r20 : h.at (pOf 20) = .row R20 2 0 5 false
 r23 : h.at (pOf 23) = .row R23 2 0 9 false
 hn : 25 ≤ h.next.nat
theorem RS.ext {h h' : H} (r : RS h) (x : Exh h h') : RS h' := by
 have hn := r.hn
 have f : ∀ i, i < 25 → h'.at (pOf i) = h.at (pOf i) := fun i hi => x.2 _ (by rw [Dg]; omega)
 exact ⟨by rw [f 16 (by decide)]; exact r.r16, by rw [f 24 (by decide)]; exact r.r24, by rw [f 20 (by decide)]; exact r.r20, by rw [f 23 (by decide)]; exact r.r23, by have := x.1; omega⟩
theorem Awn {i : Nat} (hi : i < 257) : Az TR i = A71 i := by
 unfold TR
 rw [Ao, if_pos ⟨Nat.zero_le _, by rw [List.length_map, List.length_range]; omega⟩, Nat.sub_zero, List.getD_eq_getElem?_getD, List.getElem?_map, List.getElem?_range hi]
 rfl
def Abd (c : UInt8) : AV := if c = 34 then .slice (pOf 24) 0 2 1 false else if c = 92 then .slice (pOf 20) 0 2 1 false else .Ad
theorem Awo (c : UInt8) : Az TR c.toNat = Abd c := by
 have hc := c.toNat_lt
 rw [Awn (by omega)]
 unfold A71 Abd
 have e34 : Nat.beq c.toNat 34 = decide (c = 34) := by rw [Eo]; exact decide_eq_decide.2 ⟨fun e => UInt8.toNat_inj.1 e, fun e => by rw [e]; rfl⟩
 have e92 : Nat.beq c.toNat 92 = decide (c = 92) := by rw [Eo]; exact decide_eq_decide.2 ⟨fun e => UInt8.toNat_inj.1 e, fun e => by rw [e]; rfl⟩
 have e256 : Nat.beq c.toNat 256 = false := by rw [Eo]; exact decide_eq_false (by omega)
 rw [e34, e92, e256]
 by_cases a : c = 34
 · rw [if_pos a, decide_eq_true a]
 · rw [if_neg a, decide_eq_false a]
   by_cases b : c = 92
   · rw [if_pos b, decide_eq_true b]
   · rw [if_neg b, decide_eq_false b]
theorem Awp : Az TR 256 = .slice (pOf 23) 0 2 1 false := by rw [Awn (by decide)]; rfl
theorem Bl8 : Aa3 env 410 = some (256, 115) := by kernel_rfl
theorem Bbd : (env.ty 115).map (·.size) = some 1 := by kernel_rfl
theorem Aah {b : P} {x : UInt8} {h : H} : Cr env 410 (.ptr b 0) (Bc (.int .u8 (Int.ofNat x.toNat))) h = some (.ptr b x.toNat, h) := by
 show Jj env 410 b 0 x.toNat h = _
 unfold Jj
 rw [Bl8]
 have h1 := Bbd
 cases e : env.ty 115 with
 | none => rw [e] at h1; cases h1
 | some ei =>
  rw [e] at h1
  have h2 : ei.size = 1 := Option.some.inj h1
  have hb : Nat.ble (Nat.add x.toNat 1) 256 = true := Nat.ble_eq_true_of_le (by have := x.toNat_lt; show x.toNat + 1 ≤ 256; omega)
  show (Bool.rec (motive := fun _ => Option (AV × H)) none (Option.rec (motive := fun _ => Option (AV × H)) none (fun ei => some (.ptr b (Nat.add 0 (Nat.mul x.toNat ei.size)), h)) (env.ty 115)) (Nat.ble (Nat.add x.toNat 1) 256)) = _
  rw [hb, e]
  show some (AV.ptr b (0 + x.toNat * ei.size), h) = _
  rw [h2, Nat.zero_add, Nat.mul_one]
theorem A0v (b : P) (o n z : Nat) (t : Bool) : Lw env .neq 115 (.slice b o n z t) .Ad = some (.bool true) := by kernel_rfl
theorem Bcq : Lw env .neq 115 .Ad .Ad = some (.bool false) := by kernel_rfl
theorem Anm (c : UInt8) : Lw env .neq 115 (Abd c) .Ad = some (.bool (isQ c)) := by
 unfold Abd isQ
 by_cases a : c = 34
 · rw [if_pos a, decide_eq_true a, A0v]; rfl
 · rw [if_neg a, decide_eq_false a]
   by_cases b : c = 92
   · rw [if_pos b, decide_eq_true b, A0v]; rfl
   · rw [if_neg b, decide_eq_false b, Bcq]; rfl
theorem Ahp {c : UInt8} (hc : isQ c = true) {K : Nat → Prop} : Ep (Abd c) K = K 2 := by
 unfold Abd
 unfold isQ at hc
 by_cases a : c = 34
 · rw [if_pos a]; rfl
 · rw [if_neg a]
   by_cases b : c = 92
   · rw [if_pos b]; rfl
   · simp [a, b] at hc
theorem Ahn {h : H} {q : P} {l : List UInt8} {w : Bool} (ha : h.at q = .row (Ah (ubs l) 0 .e) l.length 0 5 w) : Bs h 1 (.slice q 0 l.length 1 false) = some (l.length, ubs l) := by
 show (Bool.rec (motive := fun _ => Option (Nat × List AV)) none (Option.rec (motive := fun _ => Option (Nat × List AV)) none (fun cs => some (l.length, cs)) (h.read q 0 (Nat.mul l.length 1))) (Nat.beq 1 1)) = _
 rw [show Nat.mul l.length 1 = l.length from Nat.mul_one _, Zf ha (Nat.le_refl _), (Ds.new l .e).get]
 rfl
theorem Akh {h : H} (r : RS h) {c : UInt8} (hc : isQ c = true) : Bs h 1 (Abd c) = some (2, ubs [92, c]) := by
 unfold Abd
 unfold isQ at hc
 by_cases a : c = 34
 · subst a
   rw [if_pos rfl]; exact Ahn (l := [92, 34]) r.r24
 · rw [if_neg a]
   by_cases b : c = 92
   · subst b
     rw [if_pos rfl]; exact Ahn (l := [92, 92]) r.r20
   · simp [a, b] at hc
theorem Bbg (b : P) (o n j : Nat) (t : Bool) (h : H) : slice3 env h 115 (.slice b o n 1 t) (some (Bc (.int .i64 (Int.ofNat j)))) none none = Ex h (Sz b o n 1 t j n none) := by kernel_rfl
theorem Bct (n : Nat) (h : H) : An env 115 (fun e ei => Dp (Bc (.int .i64 (Int.ofNat n))) (Bc (.int .i64 (Int.ofNat n))) h e ei) = (Bool.rec none (some (.slice h.next 0 n 1 (Nat.beq n n), h.new (.row (Ah (Je [.int .u8 (.ofNat 0)] n) 0 .e) (Nat.mul n 1) 0 TB true)))
 (Ai (Nat.ble n n) (Ai (Ai true true) (Ai (Nat.ble n 1099511627776) (Nat.ble (Nat.mul n 1) 140737488355328)))) : Option (AV × H)) := by kernel_rfl
def Bg1 (h : H) (b : P) (N : Nat) (l : List UInt8) : Prop := ∃ t w, h.at b = .row t N 0 TB w ∧ b.nat < h.next.nat ∧ l.length ≤ N ∧ Ds t l
theorem RS.put {h : H} {b : P} {o : Ob FT} (r : RS h) (hb : 25 ≤ b.nat) : RS (h.put b o) := by
 have f : ∀ i, i < 25 → (h.put b o).at (pOf i) = h.at (pOf i) := fun i hi => Br fun e => by have := Dg i; rw [e] at this; omega
 exact ⟨by rw [f 16 (by decide)]; exact r.r16, by rw [f 24 (by decide)]; exact r.r24, by rw [f 20 (by decide)]; exact r.r20, by rw [f 23 (by decide)]; exact r.r23, r.hn⟩
section
variable {s : List UInt8} {b : P} {N : Nat} {t0 : Bool} {k : KV} (hl : s.length ≤ 1000000) (hb25 : 25 ≤ b.nat) (hN : N = (Ci s).length) (hk : ∀ h, k (S (Ci s)) h)
include hl hb25 hN hk
theorem Avu : ∀ (n i : Nat) {h : H}, 2 * (s.length - i) < n → i ≤ s.length → RS h → Bg1 h b N (Ci (s.take i)) → (Ka W1 k n).a4 (.ptr (pOf 16) 0) s.length (enc s) (.slice b 0 N 1 t0) (Int.ofNat (Ci (s.take i)).length) (Int.ofNat i) h
 | 0, _, _, hn, _, _, _ => absurd hn (Nat.not_lt_zero _)
 | n + 1, i, h, hn, hi, r, hf => by
  refine A33 ?_
  unfold Adh
  rw [ilt]
  have hcnt := Mi s
  have hcle : s.countP isQ ≤ s.length := List.countP_le_length
  refine Bb (fun e => ?_) (fun e => ?_)
  · have e : i < s.length := of_decide_eq_true e
    obtain ⟨m, rfl⟩ : ∃ m, n = m + 1 := ⟨n - 1, by omega⟩
    obtain ⟨t, w, ha, hbn, hle, hc⟩ := hf
    have hsplit : Ci s = Ci (s.take i) ++ Ci (s.drop i) := by rw [← Ai4, List.take_append_drop]
    have hdrop : Ci (s.drop i) = (if isQ s[i] = true then [92, s[i]] else [s[i]]) ++ Ci (s.drop (i + 1)) := by rw [List.drop_eq_getElem_cons e, Wk]
    have htake : Ci (s.take (i + 1)) = Ci (s.take i) ++ (if isQ s[i] = true then [92, s[i]] else [s[i]]) := by
     rw [List.take_succ_eq_append_getElem e, Ai4]
     show _ ++ ((if isQ s[i] = true then [92, s[i]] else [s[i]]) ++ Ci []) = _
     rw [show Ci [] = [] from rfl, List.append_nil]
    have hlen : N = (Ci (s.take i)).length + (if isQ s[i] = true then [92, s[i]] else [s[i]]).length + (Ci (s.drop (i + 1))).length := by
     rw [hN, hsplit, hdrop, List.length_append, List.length_append]; omega
    have hbl : N ≤ 2000000 := by rw [hN, hcnt]; omega
    rw [As]
    refine Ch e ?_
    rw [Bi, Ae, Hj, Aah, Ae]
    refine Ct r.r16 (by have := s[i].toNat_lt; omega) ?_
    rw [Awo, Anm, Iz, Bv]
    have next : ∀ h' (c : List UInt8), RS h' → Bg1 h' b N (Ci (s.take i) ++ c) → c = (if isQ s[i] = true then [92, s[i]] else [s[i]]) → (Ka W1 k (m + 1)).a5 (.ptr (pOf 16) 0) s.length (enc s) (.slice b 0 N 1 t0) (Int.ofNat ((Ci (s.take i)).length + c.length)) (Int.ofNat i) h' := fun h' c r' hf' hcc => by
     refine A32 ?_
     unfold Adg
     rw [Dk, Cm (by omega), Ar]
     subst hcc
     rw [← List.length_append, ← htake]
     rw [← htake] at hf'
     exact Avu m (i + 1) (by omega) e r' hf'
    refine Bb (fun eq => ?_) (fun eq => ?_)
    · rw [if_pos eq] at hlen
      have hlen : N = (Ci (s.take i)).length + 2 + (Ci (s.drop (i + 1))).length := hlen
      rw [Bbg]
      have ec : (Sz b 0 N 1 t0 (Ci (s.take i)).length N none : Option AV) = some (.slice b (0 + (Ci (s.take i)).length * 1) (N - (Ci (s.take i)).length) 1 (Ai t0 (Nat.beq N N))) := by
       show (Bool.rec (motive := fun _ => Option AV) none (some (.slice b (Nat.add 0 (Nat.mul (Ci (s.take i)).length 1)) (Nat.sub N (Ci (s.take i)).length) 1 (Ai t0 (Nat.beq N N)))) (Ai (Ai (Nat.ble (Ci (s.take i)).length N) (Nat.ble N N)) true)) = _
       rw [Nat.ble_eq_true_of_le (show (Ci (s.take i)).length ≤ N by omega), Nat.ble_eq_true_of_le (Nat.le_refl N)]
       rfl
      rw [ec]
      show oK (some (AV.slice b (0 + (Ci (s.take i)).length * 1) (N - (Ci (s.take i)).length) 1 (Ai t0 (Nat.beq N N)), h)) _
      rw [Ae, Bi, Ae, Hj, Aah, Ae]
      refine Ct r.r16 (by have := s[i].toNat_lt; omega) ?_
      rw [Awo, Bfs]
      have hwr : h.write b (0 + (Ci (s.take i)).length * 1) (ubs [92, s[i]]) = some (h.put b (.row (Ah (ubs [92, s[i]]) (Ci (s.take i)).length t) N 0 TB w)) := by
       rw [Nat.mul_one, Nat.zero_add]
       unfold Hp.write Hp.Gj
       rw [ha]
       show Rq h b (Ci (s.take i)).length (ubs [92, s[i]]) none some t N 0 TB w = _
       unfold Rq
       rw [Cz, show (ubs [92, s[i]]).length = 2 from rfl, show Nat.ble (Nat.add (Ci (s.take i)).length 2) N = true from Nat.ble_eq_true_of_le (by show (Ci (s.take i)).length + 2 ≤ N; omega)]
       show Iw (Ah (ubs [92, s[i]]) (Ci (s.take i)).length t) (fun t => h.Pm b (.row t N 0 TB w) some) = _
       rw [Hw, Li]
      have hcp : Sw (.slice b (0 + (Ci (s.take i)).length * 1) (N - (Ci (s.take i)).length) 1 (Ai t0 (Nat.beq N N))) (Abd s[i]) h TB ei8 = some (.int .i64 (.ofNat 2), h.put b (.row (Ah (ubs [92, s[i]]) (Ci (s.take i)).length t) N 0 TB w)) := by
       show (Option.rec none (fun p => Bool.rec none (Bool.rec (Up (N - (Ci (s.take i)).length) (h.write b (0 + (Ci (s.take i)).length * 1) (Ib (Nat.mul (N - (Ci (s.take i)).length) 1) p.2))) (Up p.1 (h.write b (0 + (Ci (s.take i)).length * 1) p.2)) (Nat.ble p.1 (N - (Ci (s.take i)).length))) (Nat.beq 1 1)) (Bs h 1 (Abd s[i])) : Option (AV × H)) = _
       rw [Akh r eq]
       show (Bool.rec (Up (N - (Ci (s.take i)).length) (h.write b (0 + (Ci (s.take i)).length * 1) (Ib (Nat.mul (N - (Ci (s.take i)).length) 1) (ubs [92, s[i]])))) (Up 2 (h.write b (0 + (Ci (s.take i)).length * 1) (ubs [92, s[i]]))) (Nat.ble 2 (N - (Ci (s.take i)).length)) : Option (AV × H)) = _
       rw [Nat.ble_eq_true_of_le (show 2 ≤ N - (Ci (s.take i)).length by omega)]
       show Up 2 (h.write b (0 + (Ci (s.take i)).length * 1) (ubs [92, s[i]])) = _
       rw [hwr]; rfl
      rw [hcp, Ae, Au, Dk, Cm (by omega), Ar]
      refine next _ [92, s[i]] (r.put hb25) ⟨_, w, Bn _ _ _, hbn, ?_, hc.app⟩ (by rw [if_pos eq])
      rw [List.length_append]
      show (Ci (s.take i)).length + 2 ≤ N
      omega
    · have eq' : ¬ isQ s[i] = true := by rw [eq]; decide
      rw [if_neg eq'] at hlen
      have hlen : N = (Ci (s.take i)).length + 1 + (Ci (s.drop (i + 1))).length := hlen
      rw [As]
      refine Vb (by omega) ?_
      refine Pf ha (Nat.zero_le _) (by omega) rfl ?_
      rw [Dk, Cm (by omega), Ar]
      refine next _ [s[i]] (r.put hb25) ⟨_, w, Bn _ _ _, hbn, ?_, ?_⟩ (by rw [if_neg eq'])
      · rw [List.length_append]
        show (Ci (s.take i)).length + 1 ≤ N
        omega
      · rw [show 0 + (Ci (s.take i)).length * 1 = (Ci (s.take i)).length by omega]
        exact hc.app (m := [s[i]])
  · have e : i = s.length := by have := of_decide_eq_false e; omega
    subst e
    obtain ⟨t, w, ha, hbn, hle, hc⟩ := hf
    rw [List.take_length] at hc hle
    have : N = (Ci s).length := hN
    subst this
    rw [Aje ha (Nat.le_refl _) hc, Ae, Ce]
    exact hk h
end
theorem Bcj {h : H} (r : RS h) {K : Nat → Nat → Prop} {j : Nat} {c : UInt8} (hj : j < 2) (hc : [92, 34][j]'hj = c) (hK : K ([c] : List UInt8).length (enc [c])) : Cc 1 j (.slice (pOf 23) 0 2 1 false) fun v => ld1 v h fun v => asS v K := by
 refine Vb hj ?_
 refine Ct r.r23 (by omega) ?_
 have : Az R23 (0 + j * 1) = S [c] := by
  unfold R23
  rw [Ao, if_pos ⟨Nat.zero_le _, by show 0 + j * 1 < 0 + 2; omega⟩]
  match j, hj with
  | 0, _ => rw [← hc]; rfl
  | 1, _ => rw [← hc]; rfl
 rw [this]
 exact Ce.mpr hK
section
variable {s : List UInt8} {k : KV} (hl : s.length ≤ 1000000) (hk : ∀ h, k (S (Ci s)) h)
include hl hk
theorem Avt {n : Nat} {h : H} (hn : 2 * s.length + 2 ≤ n) (r : RS h) : (Ka W1 k (n + 1)).a6 (.ptr (pOf 16) 0) s.length (enc s) (Int.ofNat (Ci s).length) (decide (s.countP isQ ≠ 0)) h := by
 have hcnt := Mi s
 have hcle : s.countP isQ ≤ s.length := List.countP_le_length
 refine A31 ?_
 unfold Adf
 rw [Bq]
 refine Bb (fun e => ?_) (fun e => ?_)
 · have e : s.countP isQ = 0 := by simpa using e
   have := hk h
   rw [Ap4 e] at this; exact this
 · rw [Bct, Nat.ble_eq_true_of_le (Nat.le_refl _), Nat.ble_eq_true_of_le (show (Ci s).length ≤ 1099511627776 by omega), Nat.ble_eq_true_of_le (show Nat.mul (Ci s).length 1 ≤ 140737488355328 by show (Ci s).length * 1 ≤ _; omega)]
   show oK (some (AV.slice h.next 0 (Ci s).length 1 (Nat.beq (Ci s).length (Ci s).length), h.new (.row (Ah (Je [.int .u8 (.ofNat 0)] (Ci s).length) 0 .e) (Nat.mul (Ci s).length 1) 0 TB true))) _
   rw [Ae, show Nat.mul (Ci s).length 1 = (Ci s).length from Nat.mul_one _]
   have hn25 := r.hn
   exact Avu hl hn25 rfl hk n 0 (by omega) (Nat.zero_le _) (r.ext .new) ⟨_, true, Ax _ _, by rw [Bg]; omega, Nat.zero_le _, fun i hi => absurd hi (Nat.not_lt_zero _)⟩
theorem Avv : ∀ (n i : Nat) {h : H}, 2 * (s.length - i) + 2 * s.length + 4 ≤ n → i ≤ s.length → RS h → (Ka W1 k n).a2 (.ptr (pOf 16) 0) s.length (enc s) (Int.ofNat (s.length + (s.take i).countP isQ)) (decide ((s.take i).countP isQ ≠ 0)) (Int.ofNat i) h
 | 0, _, _, hn, _, _ => by omega
 | n + 1, i, h, hn, hi, r => by
  have hcle : (s.take i).countP isQ ≤ (s.take i).length := List.countP_le_length
  have htl : (s.take i).length = i := by rw [List.length_take]; omega
  refine A34 ?_
  unfold Adi
  rw [ilt]
  refine Bb (fun e => ?_) (fun e => ?_)
  · have e : i < s.length := of_decide_eq_true e
    obtain ⟨m, rfl⟩ : ∃ m, n = m + 1 := ⟨n - 1, by omega⟩
    have htake : (s.take (i + 1)).countP isQ = (s.take i).countP isQ + if isQ s[i] = true then 1 else 0 := by
     rw [List.take_succ_eq_append_getElem e, List.countP_append, List.countP_cons]; simp
    have ih := Avv m (i + 1) (h := h) (by omega) e r
    rw [htake] at ih
    rw [As]
    refine Ch e ?_
    rw [Bi, Ae, Hj, Aah, Ae]
    refine Ct r.r16 (by have := s[i].toNat_lt; omega) ?_
    rw [Awo, Anm, Iz, Bv]
    refine Bb (fun eq => ?_) (fun eq => ?_)
    · rw [if_pos eq] at ih
      rw [Bi, Ae, Hj, Aah, Ae]
      refine Ct r.r16 (by have := s[i].toNat_lt; omega) ?_
      rw [Awo, Ahp eq, Acn (by omega), Cm (by omega), Ar, Dk, Cm (by omega), Ar]
      refine Atv ?_
      unfold Yu
      rw [Dk, Cm (by omega), Ar]
      rw [decide_eq_true (show (s.take i).countP isQ + 1 ≠ 0 by omega)] at ih
      exact ih
    · rw [if_neg (by rw [eq]; decide)] at ih
      refine Atv ?_
      unfold Yu
      rw [Dk, Cm (by omega), Ar]
      exact ih
  · have e : i = s.length := by have := of_decide_eq_false e; omega
    subst e
    obtain ⟨m, rfl⟩ : ∃ m, n = m + 1 := ⟨n - 1, by omega⟩
    rw [List.take_length, ← Mi]
    exact Avt hl hk (by omega) r
theorem A78 {n : Nat} {h : H} (hn : 2 * s.length + 2 ≤ n) (r : RS h) : (Ka W1 k (n + 4)).a1 (.ptr (pOf 16) 0) s.length (enc s) (Int.ofNat s.length) false (.slice (pOf 23) 0 2 1 false) (Int.ofNat 2) (Int.ofNat 0) h := by
 have hcq := A70 s
 have hc1 : s.count 92 ≤ s.length := List.count_le_length
 have hc2 : s.count 34 ≤ s.length := List.count_le_length
 have step : ∀ (c : UInt8) (j : Nat) (hj : j < 2) (n1 a : Nat) (b : Bool), [92, 34][j]'hj = c → a ≤ 3000000 → s.count c ≤ s.length → isQ c = true →
  (∀ a' b', a' = a + s.count c → b' = (b || decide (s.count c ≠ 0)) → (Ka W1 k n1).a1 (.ptr (pOf 16) 0) s.length (enc s) (Int.ofNat a') b' (.slice (pOf 23) 0 2 1 false) (Int.ofNat 2) (Int.ofNat (j + 1)) h) →
  (Ka W1 k (n1 + 1)).a1 (.ptr (pOf 16) 0) s.length (enc s) (Int.ofNat a) b (.slice (pOf 23) 0 2 1 false) (Int.ofNat 2) (Int.ofNat j) h := fun c j hj n1 a b hcj ha hcc hq hgo => by
  refine Atw ?_
  unfold Yv
  rw [ilt, decide_eq_true hj]
  refine Cd rfl ?_
  rw [As]
  refine Bcj r hj hcj ?_
  refine Blh s c ?_
  rw [Au, Sr, Bq]
  refine Bb (fun e => ?_) (fun e => ?_)
  · have e : s.count c ≠ 0 := by simpa using e
    refine Ch (s := [c]) (by simp) ?_
    rw [List.getElem_cons_zero, Bi, Ae, Hj, Aah, Ae]
    refine Ct r.r16 (by have := c.toNat_lt; omega) ?_
    rw [Awo, Ahp hq, Acn (by omega), Cm (by omega), Ar]
    rw [show (Int.ofNat (s.count c)) * (Int.ofNat (2 - 1)) = Int.ofNat (s.count c) by show ((s.count c : Nat) : Int) * ((1 : Nat) : Int) = _; rw [Int.natCast_one, Int.mul_one]; rfl, Cm (by omega), Ar, Dk, Cm (by omega), Ar, Dk, Cm (by omega), Ar]
    exact hgo _ _ rfl (by rw [decide_eq_true e]; simp)
  · have e : s.count c = 0 := by simpa using e
    rw [Dk, Cm (by omega), Ar]
    exact hgo _ _ (by rw [e]; rfl) (by rw [e]; simp)
 refine step 92 0 (by decide) (n + 3) s.length false rfl (by omega) hc1 rfl fun a' b' ea eb => ?_
 subst ea
 refine step 34 1 (by decide) (n + 2) _ b' rfl (by omega) hc2 rfl fun a'' b'' ea' eb' => ?_
 refine Atw ?_
 unfold Yv
 rw [ilt]
 refine Bl rfl ?_
 have e1 : a'' = (Ci s).length := by rw [ea', Mi, hcq]; omega
 have e2 : b'' = decide (s.countP isQ ≠ 0) := by
  rw [eb', eb, hcq]
  by_cases x : s.count 92 = 0
  · by_cases y : s.count 34 = 0
    · simp [x, y]
    · simp [x, y]
  · simp [x]
 rw [e1, e2]
 exact Avt hl hk hn r
end
theorem Bli {s : List UInt8} {h : H} {k : KV} (hl : s.length ≤ 1000000) (r : RS h) (hk : ∀ h, k (S (Ci s)) h) : W1 (.func 374) [.ptr (pOf 16) 0, S s] h k := by
 refine A87 (n := 4 * s.length + 10 + 1) Bj (Bjn ?_)
 unfold Adj
 rw [Bi, Ae, Ay]
 refine Ct r.r16 (by decide) ?_
 rw [show 0 + 256 = 256 from rfl, Awp, Ih]
 rw [show (Int.ofNat 2) * (Int.ofNat 8) = Int.ofNat 16 from rfl, Cm (by decide), Ar]
 refine Bb (fun _ => ?_) (fun _ => ?_)
 · rw [Bi, Ae, Ay]
   refine Ct r.r16 (by decide) ?_
   rw [show 0 + 256 = 256 from rfl, Awp, Ih]
   exact A78 (n := 4 * s.length + 6) hl hk (by omega) r
 · have := Avv hl hk (4 * s.length + 10) 0 (h := h) (by omega) (Nat.zero_le _) r
   exact this
def QR2 (h5 : H) : Prop := h5.at (pOf 14) = .row R14 5 0 302 true ∧ h5.at (pOf 16) = .row TR 257 0 412 true ∧ h5.at (pOf 24) = .row R24 2 0 5 false ∧ h5.at (pOf 20) = .row R20 2 0 5 false ∧ h5.at (pOf 23) = .row R23 2 0 9 false ∧ h5.next = pOf 25
def QR (v3 : AV) (h4 : H) : Prop := v3 = .ptr (pOf 14) 0 ∧ calls 100000 100000 (.func 74) [.ptr (pOf 14) 0, .func (.func 214) [.ptr (pOf 14) 0] []] h4 fun _ h5 => QR2 h5
theorem Ayl : oK (An env 44 (fun e ei => Ak 4 [(0, (.str 1 34)), (1, (.str 2 8796)), (2, (.str 1 92)), (3, (.str 2 23644))] h0 e ei)) (fun v1 h2 => calls 100000 100000 (.func 165) [v1] h2 QR)
 = (AV.ptr (pOf 14) 0 = .ptr (pOf 14) 0 ∧ (.row R14 5 0 302 true : Ob FT) = .row R14 5 0 302 true ∧ (.row TR 257 0 412 true : Ob FT) = .row TR 257 0 412 true ∧ (.row R24 2 0 5 false : Ob FT) = .row R24 2 0 5 false ∧ (.row R20 2 0 5 false : Ob FT) = .row R20 2 0 5 false ∧ (.row R23 2 0 9 false : Ob FT) = .row R23 2 0 9 false ∧ pOf 25 = pOf 25) := by kernel_rfl
theorem Ayq {o : Option (AV × H)} {K K' : KV} (h : oK o K) (hk : ∀ v h, K v h → K' v h) : oK o K' := by
 cases o with
 | none => exact h.elim
 | some p =>
  obtain ⟨v, h'⟩ := p
  rw [Ae] at h ⊢
  exact hk _ _ h
theorem As0 : oK (An env 44 (fun e ei => Ak 4 [(0, (.str 1 34)), (1, (.str 2 8796)), (2, (.str 1 92)), (3, (.str 2 23644))] h0 e ei)) (fun v1 h2 => calls 100000 100000 (.func 165) [v1] h2 QR) :=
 Ayl.mpr ⟨rfl, rfl, rfl, rfl, rfl, rfl, rfl⟩
theorem Ayx : Ww env 413 "Replace" = some 374 := by kernel_rfl
theorem Bdo {t : TypeId} {x : AV} {name : String} {args : List AV} {h : H} {k : KV} {f : FuncId} (hm : Ww env t name = some f) (hg : W1 (.func f) (x :: args) h k) : inv2 env W1 (.iface t x) name args h k := by
 show Xf (CP env) W1 (.iface t x) name args h k
 simp only [Xf]
 rw [show Ww (CP env).E t name = some f from hm]
 exact hg
theorem Bgz : Az R14 (0 + 3) = .iface 413 (.ptr (pOf 16) 0) := by unfold R14; rw [Ao]; rfl
theorem Blv {s : List UInt8} {h4 : H} {k : KV} (hl : s.length ≤ 1000000) (hq : W1 (.func 74) [.ptr (pOf 14) 0, .func (.func 214) [.ptr (pOf 14) 0] []] h4 fun _ h5 => QR2 h5) (hk : ∀ h, k (S (Ci s)) h) : W1 (.func 166) [.ptr (pOf 14) 0, S s] h4 k := by
 refine A9m (n := 1) Bj (Bj2 ?_)
 unfold Ad6
 rw [Bi, Ae, Hj]
 refine Tl hq fun _ h5 hh => ?_
 obtain ⟨a14, a16, a24, a20, a23, an⟩ := hh
 rw [Bi, Ae, Ay]
 refine Ct a14 (by decide) ?_
 rw [Bgz]
 refine Bdo Ayx ?_
 refine Bli hl ⟨a16, a24, a20, a23, by rw [an, Dg]; decide⟩ fun h6 => ?_
 rw [Ce]; exact hk h6
theorem Bl4 (s : List UInt8) (hl : s.length ≤ 1000000) : Pure PP G h0 111 [S s] (S (Ci s)) := by
 refine Bab (n := 1) Bj (Bkr ?_)
 unfold Ae6
 refine Ayq As0 fun v h hr => ?_
 refine Tl (Abz (Jk 100000 100000) hr) fun v3 h4 hh => ?_
 obtain ⟨rfl, hc⟩ := hh
 refine Blv hl (Abz (Jk 100000 100000) hc) fun h6 => ?_
 rw [Ce]
theorem c62 (s : List UInt8) (hl : s.length ≤ 1000000) : Pure PP G h0 62 [S s] (S (Sk s)) := by
 refine w62 (n := 1) Bj (g62 ?_)
 unfold Amw
 have hcnt := Mi s
 have hcle : s.countP isQ ≤ s.length := List.countP_le_length
 refine Dn (Bl4 s hl) ?_
 rw [Ce]
 refine Kz (s := [34]) (by simp only [List.length_singleton]; omega) ?_
 refine Kz (s := [34] ++ Ci s) (t := [34]) (by rw [List.length_append]; simp only [List.length_singleton]; omega) ?_
 rfl
end Go.Den
