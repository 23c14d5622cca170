/-
  A part of the proof: what a path is: the program's answer, whole.
-/
import Derived.Test.YtpjkiikmjddpiaaGreatDoorVap
namespace Go.Den
open Go.RowKit
set_option maxRecDepth 100000
structure SpA(h:H)(l p1 sP eP vP:P)(F:FT)(cur:List UInt8):Prop where
  lp:h.at l=.loop F lp33_0 .ready .normal
  fF:F 2=.ptr p1 0
  pr:∃t,h.at p1=.row t 1 0 4 true
  eR:AtP h eP 0 [S [47]]
  vR:AtP h vP 0 [.int .i64 (.ofNat 0)]
  sR:∃t,h.at sP=.row t 1 0 9 true∧tget t 0=S cur
  n1:l≠p1
  n2:sP≠l∧sP≠p1
  n3:eP≠l∧eP≠p1∧eP≠sP
  n4:vP≠l∧vP≠p1∧vP≠sP
theorem c105_2 {l p1 sP eP vP : P} {F : FT} {k : KV} : ∀ (n : Nat) {h : H} {cur : List UInt8}, cur.length < n → cur.length ≤ 1000000 → SpA h l p1 sP eP vP F cur →
    ((parts cur).all partB = true → ∀ w h', h'.next = h.next → (∀ c, c ≠ l → c ≠ p1 → c ≠ sP → h'.at c = h.at c) → h'.at l = .loop F lp33_0 .ready .normal → (∃ t, h'.at p1 = .row t 1 0 4 true) → k w h') →
    ((parts cur).all partB = false → ∀ w h', h'.next = h.next → (∀ c, c ≠ l → c ≠ p1 → c ≠ sP → h'.at c = h.at c) → h'.at l = .loop F lp33_0 .done .ret → (∃ t, h'.at p1 = .row t 1 0 4 true ∧ tget t 0 = .bool false) → k w h') →
    (r105 W1 k n).a2 (.func (.yield l.nat) [] []) (.ptr eP 0) (.ptr sP 0) (.ptr vP 0) h
  | 0, _, _, hn, _, _, _, _ => absurd hn (Nat.not_lt_zero _)
  | n + 1, h, cur, hn, hl, a, hT, hF => by
    obtain ⟨t, hp⟩ := a.pr
    obtain ⟨ts, hs, ht⟩ := a.sR
    refine j105_2 ?_
    unfold s105_2
    refine ld1_i hs (by decide) ?_
    rw [ht, asS_s]
    refine a.eR.ld1 (j := 0) (by show 0 < 1; decide) ?_
    show asS (S [47]) _
    rw [asS_s]
    show W1 (.func 107) [S cur, .str 1 47] h _
    refine c107 ?_
    rw [asI_k, iblt_eq]
    by_cases hm : 47 ∈ cur
    · obtain ⟨i, hi, ei, e47, hne⟩ := posL_ge hm
      rw [ei]
      refine cnd_f (decide_eq_false (by show ¬ ((i : Nat) : Int) < ((0 : Nat) : Int); omega)) ?_
      have hpt : parts cur = cur.take i :: parts (cur.drop (i + 1)) := by
        have := partsA_at (acc := []) hi e47 hne
        rw [List.nil_append] at this; exact this
      rw [hpt, List.all_cons] at hT hF
      refine ld1_i hs (by decide) ?_
      rw [ht, asS_s]
      refine a.vR.ld1 (j := 0) (by show 0 < 1; decide) ?_
      show asI .i64 (.int .i64 (.ofNat 0)) _
      rw [asI_k]
      refine fIadd (by omega) (natI_i (cutS_t (by omega) ?_))
      show W1 (.yield l.nat) [S (cur.take (i + 0))] h _
      rw [Nat.add_zero]
      refine v_yield a.lp a.fF hp a.n1 (by rw [List.length_take]; omega) (fun w h1 x1 f1 l1 => ?_) (fun w h1 x1 f1 l1 p1' => ?_)
      · rw [asB_b]
        refine cnd_f rfl ?_
        rw [w, Bool.true_and] at hT hF
        have hs1 : h1.at sP = .row ts 1 0 9 true := by rw [f1 sP a.n2.1]; exact hs
        refine ld1_i hs1 (by decide) ?_
        rw [ht, asS_s]
        refine (a.eR.frame (f1 eP a.n3.1)).ld1 (j := 0) (by show 0 < 1; decide) ?_
        show asS (S [47]) _
        rw [asS_s]
        refine fIadd (by show i + 1 ≤ _; omega) (natI_i (cutS_d (by show i + 1 ≤ _; omega) ?_))
        show st1 (.ptr sP 0) (S (cur.drop (i + 1))) h1 _
        refine st1_i hs1 (Nat.le_refl _) (by decide) rfl ?_
        have q1 : ∀ c, c ≠ sP → (h1.put sP (.row (tlist [S (cur.drop (i + 1))] 0 ts) 1 0 9 true)).at c = h1.at c := fun c hc => at_put_o hc
        refine c105_2 n (by rw [List.length_drop]; omega) (by rw [List.length_drop]; omega)
          { lp := by rw [q1 l a.n2.1.symm]; exact l1
            fF := a.fF
            pr := ⟨t, by rw [q1 p1 a.n2.2.symm, f1 p1 a.n1.symm]; exact hp⟩
            eR := (a.eR.frame (f1 eP a.n3.1)).frame (q1 eP a.n3.2.2)
            vR := (a.vR.frame (f1 vP a.n4.1)).frame (q1 vP a.n4.2.2)
            sR := ⟨_, at_put_same _ _ _, by rw [tget_tlist]; simp⟩
            n1 := a.n1
            n2 := a.n2
            n3 := a.n3
            n4 := a.n4 } (fun w2 v h2 x2 g2 l2 p2 => hT w2 v h2 (by rw [x2, next_put, x1]) (fun c c1 c2 c3 => by rw [g2 c c1 c2 c3, q1 c c3, f1 c c1]) l2 p2) (fun w2 v h2 x2 g2 l2 p2 => hF w2 v h2 (by rw [x2, next_put, x1]) (fun c c1 c2 c3 => by rw [g2 c c1 c2 c3, q1 c c3, f1 c c1]) l2 p2)
      · rw [asB_b]
        refine cnd_t rfl ?_
        rw [w, Bool.false_and] at hF
        exact hF rfl _ h1 x1 (fun c c1 c2 _ => f1 c c1 c2) l1 p1'
    · have hneg := (posL_neg cur 47).2 hm
      refine cnd_t (decide_eq_true hneg) ?_
      have hpt : parts cur = [cur] := by
        have := partsA_no (acc := []) hm
        rw [List.nil_append] at this; exact this
      rw [hpt] at hT hF
      simp only [List.all_cons, List.all_nil, Bool.and_true] at hT hF
      refine ld1_i hs (by decide) ?_
      rw [ht, asS_s]
      show W1 (.yield l.nat) [S cur] h _
      refine v_yield a.lp a.fF hp a.n1 hl (fun w h1 x1 f1 l1 => ?_) (fun w h1 x1 f1 l1 p1' => ?_)
      · rw [asB_b]
        exact hT w _ h1 x1 (fun c c1 _ _ => f1 c c1) l1 ⟨t, by rw [f1 p1 a.n1.symm]; exact hp⟩
      · rw [asB_b]
        exact hF w _ h1 x1 (fun c c1 c2 _ => f1 c c1 c2) l1 p1'
end Go.Den
