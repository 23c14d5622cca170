/-
  A part of the proof: the pieces are what the program does.
-/
import Derived.Test.YtpnfpdmkladmpaaGreatDoorFaA1
import Derived.Test.YtpnfpdmkladmpaaGreatDoorFaA2
import Derived.KernelRfl
namespace Go.Den
set_option maxRecDepth 100000
theorem e4_0 (c : Caller Prop FT) (k : KV) (J : J4) (f : FT) (h : H) (n_0 : Int) (n_1 : Int) : chunkA env c q4 u4 (f4 J) d4 (retA env Go.Proofs.Tryz.f4.results.toList k) .root (fset (fset f 0 (.int .i64 n_0)) 1 (.int .i64 n_1)) h = s4_0 c k J n_0 n_1 h := by kernel_rfl
theorem e4_1 (c : Caller Prop FT) (k : KV) (J : J4) (f : FT) (h : H) (n_0 : Int) (l_5 : Nat) (c_5 : Nat) (n_6 : Int) (l_7 : Nat) (c_7 : Nat) (n_8 : Int) : chunkA env c q4 u4 (f4 J) d4 (retA env Go.Proofs.Tryz.f4.results.toList k) (.l (.r (.l (.r (.r (.r (.r (.r .root)))))))) (fset (fset (fset (fset (fset f 0 (.int .i64 n_0)) 5 (.str l_5 c_5)) 6 (.int .i64 n_6)) 7 (.str l_7 c_7)) 8 (.int .i64 n_8)) h = s4_1 c k J n_0 l_5 c_5 n_6 l_7 c_7 n_8 h := by kernel_rfl
theorem e4_2 (c : Caller Prop FT) (k : KV) (J : J4) (f : FT) (h : H) (n_0 : Int) (l_5 : Nat) (c_5 : Nat) (n_6 : Int) (l_7 : Nat) (c_7 : Nat) (n_8 : Int) : chunkA env c q4 u4 (f4 J) d4 (retA env Go.Proofs.Tryz.f4.results.toList k) (.r (.l (.l (.r (.l (.l (.r (.l (.r (.r (.r (.r (.r .root))))))))))))) (fset (fset (fset (fset (fset f 0 (.int .i64 n_0)) 5 (.str l_5 c_5)) 6 (.int .i64 n_6)) 7 (.str l_7 c_7)) 8 (.int .i64 n_8)) h = s4_2 c k J n_0 l_5 c_5 n_6 l_7 c_7 n_8 h := by kernel_rfl
theorem e4_3 (c : Caller Prop FT) (k : KV) (J : J4) (f : FT) (h : H) (n_0 : Int) (l_5 : Nat) (c_5 : Nat) (n_6 : Int) (l_7 : Nat) (c_7 : Nat) (n_8 : Int) : chunkA env c q4 u4 (f4 J) d4 (retA env Go.Proofs.Tryz.f4.results.toList k) (.r (.r (.l (.l (.r (.l (.r (.r (.r (.r (.r .root))))))))))) (fset (fset (fset (fset (fset f 0 (.int .i64 n_0)) 5 (.str l_5 c_5)) 6 (.int .i64 n_6)) 7 (.str l_7 c_7)) 8 (.int .i64 n_8)) h = s4_3 c k J n_0 l_5 c_5 n_6 l_7 c_7 n_8 h := by kernel_rfl
theorem w4 {c : Caller Prop FT} (hc : CallOk Go.Proofs.Tryz.prog (CP env) G (fun p => p) c) {k : KV} {n : Nat} {args : List AV} {h : H} (hg : f4 (r4 c k n) 0 (finit args) h) : SW Go.Proofs.Tryz.prog G (.func 4) args h k :=
  fn_ok mixed envOk hc q4 Go.Proofs.Tryz.func4 rfl (by kernel_rfl) (by kernel_rfl) k u4 (fun n => f4 (r4 c k n))
    (fun L f h hl => by
      match L, hl with
      | 0, hl => obtain ⟨_, _, hl0⟩ := asI_inv (show _ from hl); obtain ⟨_, _, hl1⟩ := asI_inv (show _ from hl0); exact hl1
      | 1, hl => obtain ⟨_, _, hl0⟩ := asI_inv (show _ from hl); obtain ⟨_, _, _, hl1⟩ := asS_inv (show _ from hl0); obtain ⟨_, _, hl2⟩ := asI_inv (show _ from hl1); obtain ⟨_, _, _, hl3⟩ := asS_inv (show _ from hl2); obtain ⟨_, _, hl4⟩ := asI_inv (show _ from hl3); exact hl4
      | 2, hl => obtain ⟨_, _, hl0⟩ := asI_inv (show _ from hl); obtain ⟨_, _, _, hl1⟩ := asS_inv (show _ from hl0); obtain ⟨_, _, hl2⟩ := asI_inv (show _ from hl1); obtain ⟨_, _, _, hl3⟩ := asS_inv (show _ from hl2); obtain ⟨_, _, hl4⟩ := asI_inv (show _ from hl3); exact hl4
      | 3, hl => obtain ⟨_, _, hl0⟩ := asI_inv (show _ from hl); obtain ⟨_, _, _, hl1⟩ := asS_inv (show _ from hl0); obtain ⟨_, _, hl2⟩ := asI_inv (show _ from hl1); obtain ⟨_, _, _, hl3⟩ := asS_inv (show _ from hl2); obtain ⟨_, _, hl4⟩ := asI_inv (show _ from hl3); exact hl4
      | _ + 4, hl => exact hl)
    (fun n p L hm f h hl => by
      simp only [u4, List.mem_cons, Prod.mk.injEq, List.not_mem_nil, or_false] at hm
      rcases hm with ⟨rfl, rfl⟩ | ⟨rfl, rfl⟩ | ⟨rfl, rfl⟩ | ⟨rfl, rfl⟩
      · have hl : f4 (r4 c k (n + 1)) 0 f h := hl
        obtain ⟨n_0, e_0, hl0⟩ := asI_inv hl
        obtain ⟨n_1, e_1, hl1⟩ := asI_inv hl0
        have hh := e4_0 c k (r4 c k n) f h n_0 n_1
        rw [fset_self e_0] at hh
        rw [fset_self e_1] at hh
        exact Eq.mpr hh hl1
      · have hl : f4 (r4 c k (n + 1)) 1 f h := hl
        obtain ⟨n_0, e_0, hl0⟩ := asI_inv hl
        obtain ⟨l_5, c_5, e_5, hl1⟩ := asS_inv hl0
        obtain ⟨n_6, e_6, hl2⟩ := asI_inv hl1
        obtain ⟨l_7, c_7, e_7, hl3⟩ := asS_inv hl2
        obtain ⟨n_8, e_8, hl4⟩ := asI_inv hl3
        have hh := e4_1 c k (r4 c k n) f h n_0 l_5 c_5 n_6 l_7 c_7 n_8
        rw [fset_self e_0] at hh
        rw [fset_self e_5] at hh
        rw [fset_self e_6] at hh
        rw [fset_self e_7] at hh
        rw [fset_self e_8] at hh
        exact Eq.mpr hh hl4
      · have hl : f4 (r4 c k (n + 1)) 2 f h := hl
        obtain ⟨n_0, e_0, hl0⟩ := asI_inv hl
        obtain ⟨l_5, c_5, e_5, hl1⟩ := asS_inv hl0
        obtain ⟨n_6, e_6, hl2⟩ := asI_inv hl1
        obtain ⟨l_7, c_7, e_7, hl3⟩ := asS_inv hl2
        obtain ⟨n_8, e_8, hl4⟩ := asI_inv hl3
        have hh := e4_2 c k (r4 c k n) f h n_0 l_5 c_5 n_6 l_7 c_7 n_8
        rw [fset_self e_0] at hh
        rw [fset_self e_5] at hh
        rw [fset_self e_6] at hh
        rw [fset_self e_7] at hh
        rw [fset_self e_8] at hh
        exact Eq.mpr hh hl4
      · have hl : f4 (r4 c k (n + 1)) 3 f h := hl
        obtain ⟨n_0, e_0, hl0⟩ := asI_inv hl
        obtain ⟨l_5, c_5, e_5, hl1⟩ := asS_inv hl0
        obtain ⟨n_6, e_6, hl2⟩ := asI_inv hl1
        obtain ⟨l_7, c_7, e_7, hl3⟩ := asS_inv hl2
        obtain ⟨n_8, e_8, hl4⟩ := asI_inv hl3
        have hh := e4_3 c k (r4 c k n) f h n_0 l_5 c_5 n_6 l_7 c_7 n_8
        rw [fset_self e_0] at hh
        rw [fset_self e_5] at hh
        rw [fset_self e_6] at hh
        rw [fset_self e_7] at hh
        rw [fset_self e_8] at hh
        exact Eq.mpr hh hl4
    ) (by simp [u4]) hg

theorem e8_0 (c : Caller Prop FT) (k : KV) (J : J8) (f : FT) (h : H) (n_0 : Int) (n_1 : Int) : chunkA env c q8 u8 (f8 J) d8 (retA env Go.Proofs.Tryz.f8.results.toList k) .root (fset (fset f 0 (.int .i64 n_0)) 1 (.int .i64 n_1)) h = s8_0 c k J n_0 n_1 h := by kernel_rfl
theorem w8 {c : Caller Prop FT} (hc : CallOk Go.Proofs.Tryz.prog (CP env) G (fun p => p) c) {k : KV} {n : Nat} {args : List AV} {h : H} (hg : f8 (r8 c k n) 0 (finit args) h) : SW Go.Proofs.Tryz.prog G (.func 8) args h k :=
  fn_ok mixed envOk hc q8 Go.Proofs.Tryz.func8 rfl (by kernel_rfl) (by kernel_rfl) k u8 (fun n => f8 (r8 c k n))
    (fun L f h hl => by
      match L, hl with
      | 0, hl => obtain ⟨_, _, hl0⟩ := asI_inv (show _ from hl); obtain ⟨_, _, hl1⟩ := asI_inv (show _ from hl0); exact hl1
      | _ + 1, hl => exact hl)
    (fun n p L hm f h hl => by
      simp only [u8, List.mem_cons, Prod.mk.injEq, List.not_mem_nil, or_false] at hm
      rcases hm with ⟨rfl, rfl⟩
      · have hl : f8 (r8 c k (n + 1)) 0 f h := hl
        obtain ⟨n_0, e_0, hl0⟩ := asI_inv hl
        obtain ⟨n_1, e_1, hl1⟩ := asI_inv hl0
        have hh := e8_0 c k (r8 c k n) f h n_0 n_1
        rw [fset_self e_0] at hh
        rw [fset_self e_1] at hh
        exact Eq.mpr hh hl1
    ) (by simp [u8]) hg

theorem w10 {c : Caller Prop FT} (hc : CallOk Go.Proofs.Tryz.prog (CP env) G (fun p => p) c) {k : KV} {m : Nat} {a : List AV} {h : H} (hg : runJ env c q10 u10 d10 (retA env Go.Proofs.Tryz.f10.results.toList k) m 0 (finit a) h) : SW Go.Proofs.Tryz.prog G (.func 10) a h k := fnI_ok mixed envOk hc q10 Go.Proofs.Tryz.func10 rfl (by kernel_rfl) (by kernel_rfl) (by kernel_rfl) (by simp [u10]) hg
theorem w17 {c : Caller Prop FT} (hc : CallOk Go.Proofs.Tryz.prog (CP env) G (fun p => p) c) {k : KV} {m : Nat} {a : List AV} {h : H} (hg : runJ env c q17 u17 d17 (retA env Go.Proofs.Tryz.f17.results.toList k) m 0 (finit a) h) : SW Go.Proofs.Tryz.prog G (.func 17) a h k := fnI_ok mixed envOk hc q17 Go.Proofs.Tryz.func17 rfl (by kernel_rfl) (by kernel_rfl) (by kernel_rfl) (by simp [u17]) hg
theorem e21_0 (c : Caller Prop FT) (k : KV) (J : J21) (f : FT) (h : H) (v_0 : AV) : chunkA env c q21 u21 (f21 J) d21 (retA env Go.Proofs.Tryz.f21.results.toList k) .root (fset f 0 v_0) h = s21_0 c k J v_0 h := by kernel_rfl
theorem w21 {c : Caller Prop FT} (hc : CallOk Go.Proofs.Tryz.prog (CP env) G (fun p => p) c) {k : KV} {n : Nat} {args : List AV} {h : H} (hg : f21 (r21 c k n) 0 (finit args) h) : SW Go.Proofs.Tryz.prog G (.func 21) args h k :=
  fn_ok mixed envOk hc q21 Go.Proofs.Tryz.func21 rfl (by kernel_rfl) (by kernel_rfl) k u21 (fun n => f21 (r21 c k n))
    (fun L f h hl => by
      match L, hl with
      | 0, hl => exact hl
      | _ + 1, hl => exact hl)
    (fun n p L hm f h hl => by
      simp only [u21, List.mem_cons, Prod.mk.injEq, List.not_mem_nil, or_false] at hm
      rcases hm with ⟨rfl, rfl⟩
      · have hl : f21 (r21 c k (n + 1)) 0 f h := hl
        have hh := e21_0 c k (r21 c k n) f h (f 0)
        rw [fset_self (rfl : f 0 = f 0)] at hh
        exact Eq.mpr hh hl
    ) (by simp [u21]) hg

theorem e26_0 (c : Caller Prop FT) (k : KV) (J : J26) (f : FT) (h : H) (v_0 : AV) (l_1 : Nat) (c_1 : Nat) (v_2 : AV) (v_3 : AV) : chunkA env c q26 u26 (f26 J) d26 (retA env Go.Proofs.Tryz.f26.results.toList k) .root (fset (fset (fset (fset f 0 v_0) 1 (.str l_1 c_1)) 2 v_2) 3 v_3) h = s26_0 c k J v_0 l_1 c_1 v_2 v_3 h := by kernel_rfl
theorem w26 {c : Caller Prop FT} (hc : CallOk Go.Proofs.Tryz.prog (CP env) G (fun p => p) c) {k : KV} {n : Nat} {args : List AV} {h : H} (hg : f26 (r26 c k n) 0 (finit args) h) : SW Go.Proofs.Tryz.prog G (.func 26) args h k :=
  fn_ok mixed envOk hc q26 Go.Proofs.Tryz.func26 rfl (by kernel_rfl) (by kernel_rfl) k u26 (fun n => f26 (r26 c k n))
    (fun L f h hl => by
      match L, hl with
      | 0, hl => obtain ⟨_, _, _, hl0⟩ := asS_inv (show _ from hl); exact hl0
      | _ + 1, hl => exact hl)
    (fun n p L hm f h hl => by
      simp only [u26, List.mem_cons, Prod.mk.injEq, List.not_mem_nil, or_false] at hm
      rcases hm with ⟨rfl, rfl⟩
      · have hl : f26 (r26 c k (n + 1)) 0 f h := hl
        obtain ⟨l_1, c_1, e_1, hl1⟩ := asS_inv hl
        have hh := e26_0 c k (r26 c k n) f h (f 0) l_1 c_1 (f 2) (f 3)
        rw [fset_self (rfl : f 0 = f 0)] at hh
        rw [fset_self e_1] at hh
        rw [fset_self (rfl : f 2 = f 2)] at hh
        rw [fset_self (rfl : f 3 = f 3)] at hh
        exact Eq.mpr hh hl1
    ) (by simp [u26]) hg

theorem w29 {c : Caller Prop FT} (hc : CallOk Go.Proofs.Tryz.prog (CP env) G (fun p => p) c) {k : KV} {m : Nat} {a : List AV} {h : H} (hg : runJ env c q29 u29 d29 (retA env Go.Proofs.Tryz.f29.results.toList k) m 0 (finit a) h) : SW Go.Proofs.Tryz.prog G (.func 29) a h k := fnI_ok mixed envOk hc q29 Go.Proofs.Tryz.func29 rfl (by kernel_rfl) (by kernel_rfl) (by kernel_rfl) (by simp [u29]) hg
theorem e38_0 (c : Caller Prop FT) (k : KV) (J : J38) (f : FT) (h : H) (l_0 : Nat) (c_0 : Nat) : chunkA env c q38 u38 (f38 J) d38 (retA env Go.Proofs.Tryz.f38.results.toList k) .root (fset f 0 (.str l_0 c_0)) h = s38_0 c k J l_0 c_0 h := by kernel_rfl
theorem e38_1 (c : Caller Prop FT) (k : KV) (J : J38) (f : FT) (h : H) (v_3 : AV) (n_4 : Int) : chunkA env c q38 u38 (f38 J) d38 (retA env Go.Proofs.Tryz.f38.results.toList k) (.l (.r (.l (.r (.r (.r .root)))))) (fset (fset f 3 v_3) 4 (.int .i64 n_4)) h = s38_1 c k J v_3 n_4 h := by kernel_rfl
theorem w38 {c : Caller Prop FT} (hc : CallOk Go.Proofs.Tryz.prog (CP env) G (fun p => p) c) {k : KV} {n : Nat} {args : List AV} {h : H} (hg : f38 (r38 c k n) 0 (finit args) h) : SW Go.Proofs.Tryz.prog G (.func 38) args h k :=
  fn_ok mixed envOk hc q38 Go.Proofs.Tryz.func38 rfl (by kernel_rfl) (by kernel_rfl) k u38 (fun n => f38 (r38 c k n))
    (fun L f h hl => by
      match L, hl with
      | 0, hl => obtain ⟨_, _, _, hl0⟩ := asS_inv (show _ from hl); exact hl0
      | 1, hl => obtain ⟨_, _, hl0⟩ := asI_inv (show _ from hl); exact hl0
      | _ + 2, hl => exact hl)
    (fun n p L hm f h hl => by
      simp only [u38, List.mem_cons, Prod.mk.injEq, List.not_mem_nil, or_false] at hm
      rcases hm with ⟨rfl, rfl⟩ | ⟨rfl, rfl⟩
      · have hl : f38 (r38 c k (n + 1)) 0 f h := hl
        obtain ⟨l_0, c_0, e_0, hl0⟩ := asS_inv hl
        have hh := e38_0 c k (r38 c k n) f h l_0 c_0
        rw [fset_self e_0] at hh
        exact Eq.mpr hh hl0
      · have hl : f38 (r38 c k (n + 1)) 1 f h := hl
        obtain ⟨n_4, e_4, hl1⟩ := asI_inv hl
        have hh := e38_1 c k (r38 c k n) f h (f 3) n_4
        rw [fset_self (rfl : f 3 = f 3)] at hh
        rw [fset_self e_4] at hh
        exact Eq.mpr hh hl1
    ) (by simp [u38]) hg

theorem e39_0 (c : Caller Prop FT) (k : KV) (J : J39) (f : FT) (h : H) (v_0 : AV) (l_1 : Nat) (c_1 : Nat) (l_2 : Nat) (c_2 : Nat) : chunkA env c q39 u39 (f39 J) d39 (retA env Go.Proofs.Tryz.f39.results.toList k) .root (fset (fset (fset f 0 v_0) 1 (.str l_1 c_1)) 2 (.str l_2 c_2)) h = s39_0 c k J v_0 l_1 c_1 l_2 c_2 h := by kernel_rfl
theorem e39_1 (c : Caller Prop FT) (k : KV) (J : J39) (f : FT) (h : H) (v_0 : AV) (l_1 : Nat) (c_1 : Nat) (l_2 : Nat) (c_2 : Nat) (n_6 : Int) (v_8 : AV) : chunkA env c q39 u39 (f39 J) d39 (retA env Go.Proofs.Tryz.f39.results.toList k) (.r (.r (.r .root))) (fset (fset (fset (fset (fset f 0 v_0) 1 (.str l_1 c_1)) 2 (.str l_2 c_2)) 6 (.int .i64 n_6)) 8 v_8) h = s39_1 c k J v_0 l_1 c_1 l_2 c_2 n_6 v_8 h := by kernel_rfl
theorem w39 {c : Caller Prop FT} (hc : CallOk Go.Proofs.Tryz.prog (CP env) G (fun p => p) c) {k : KV} {n : Nat} {args : List AV} {h : H} (hg : f39 (r39 c k n) 0 (finit args) h) : SW Go.Proofs.Tryz.prog G (.func 39) args h k :=
  fn_ok mixed envOk hc q39 Go.Proofs.Tryz.func39 rfl (by kernel_rfl) (by kernel_rfl) k u39 (fun n => f39 (r39 c k n))
    (fun L f h hl => by
      match L, hl with
      | 0, hl => obtain ⟨_, _, _, hl0⟩ := asS_inv (show _ from hl); obtain ⟨_, _, _, hl1⟩ := asS_inv (show _ from hl0); exact hl1
      | 1, hl => obtain ⟨_, _, _, hl0⟩ := asS_inv (show _ from hl); obtain ⟨_, _, _, hl1⟩ := asS_inv (show _ from hl0); obtain ⟨_, _, hl2⟩ := asI_inv (show _ from hl1); exact hl2
      | _ + 2, hl => exact hl)
    (fun n p L hm f h hl => by
      simp only [u39, List.mem_cons, Prod.mk.injEq, List.not_mem_nil, or_false] at hm
      rcases hm with ⟨rfl, rfl⟩ | ⟨rfl, rfl⟩
      · have hl : f39 (r39 c k (n + 1)) 0 f h := hl
        obtain ⟨l_1, c_1, e_1, hl1⟩ := asS_inv hl
        obtain ⟨l_2, c_2, e_2, hl2⟩ := asS_inv hl1
        have hh := e39_0 c k (r39 c k n) f h (f 0) l_1 c_1 l_2 c_2
        rw [fset_self (rfl : f 0 = f 0)] at hh
        rw [fset_self e_1] at hh
        rw [fset_self e_2] at hh
        exact Eq.mpr hh hl2
      · have hl : f39 (r39 c k (n + 1)) 1 f h := hl
        obtain ⟨l_1, c_1, e_1, hl1⟩ := asS_inv hl
        obtain ⟨l_2, c_2, e_2, hl2⟩ := asS_inv hl1
        obtain ⟨n_6, e_6, hl3⟩ := asI_inv hl2
        have hh := e39_1 c k (r39 c k n) f h (f 0) l_1 c_1 l_2 c_2 n_6 (f 8)
        rw [fset_self (rfl : f 0 = f 0)] at hh
        rw [fset_self e_1] at hh
        rw [fset_self e_2] at hh
        rw [fset_self e_6] at hh
        rw [fset_self (rfl : f 8 = f 8)] at hh
        exact Eq.mpr hh hl3
    ) (by simp [u39]) hg

theorem e41_0 (c : Caller Prop FT) (k : KV) (J : J41) (f : FT) (h : H) : chunkA env c q41 u41 (f41 J) d41 (retA env Go.Proofs.Tryz.f41.results.toList k) .root f h = s41_0 c k J  h := by kernel_rfl
theorem w41 {c : Caller Prop FT} (hc : CallOk Go.Proofs.Tryz.prog (CP env) G (fun p => p) c) {k : KV} {n : Nat} {args : List AV} {h : H} (hg : f41 (r41 c k n) 0 (finit args) h) : SW Go.Proofs.Tryz.prog G (.func 41) args h k :=
  fn_ok mixed envOk hc q41 Go.Proofs.Tryz.func41 rfl (by kernel_rfl) (by kernel_rfl) k u41 (fun n => f41 (r41 c k n))
    (fun L f h hl => by
      match L, hl with
      | 0, hl => exact hl
      | _ + 1, hl => exact hl)
    (fun n p L hm f h hl => by
      simp only [u41, List.mem_cons, Prod.mk.injEq, List.not_mem_nil, or_false] at hm
      rcases hm with ⟨rfl, rfl⟩
      · have hl : f41 (r41 c k (n + 1)) 0 f h := hl
        have hh := e41_0 c k (r41 c k n) f h 
        exact Eq.mpr hh hl
    ) (by simp [u41]) hg

theorem e44_0 (c : Caller Prop FT) (k : KV) (J : J44) (f : FT) (h : H) (v_0 : AV) : chunkA env c q44 u44 (f44 J) d44 (retA env Go.Proofs.Tryz.f44.results.toList k) .root (fset f 0 v_0) h = s44_0 c k J v_0 h := by kernel_rfl
theorem w44 {c : Caller Prop FT} (hc : CallOk Go.Proofs.Tryz.prog (CP env) G (fun p => p) c) {k : KV} {n : Nat} {args : List AV} {h : H} (hg : f44 (r44 c k n) 0 (finit args) h) : SW Go.Proofs.Tryz.prog G (.func 44) args h k :=
  fn_ok mixed envOk hc q44 Go.Proofs.Tryz.func44 rfl (by kernel_rfl) (by kernel_rfl) k u44 (fun n => f44 (r44 c k n))
    (fun L f h hl => by
      match L, hl with
      | 0, hl => exact hl
      | _ + 1, hl => exact hl)
    (fun n p L hm f h hl => by
      simp only [u44, List.mem_cons, Prod.mk.injEq, List.not_mem_nil, or_false] at hm
      rcases hm with ⟨rfl, rfl⟩
      · have hl : f44 (r44 c k (n + 1)) 0 f h := hl
        have hh := e44_0 c k (r44 c k n) f h (f 0)
        rw [fset_self (rfl : f 0 = f 0)] at hh
        exact Eq.mpr hh hl
    ) (by simp [u44]) hg

theorem e46_0 (c : Caller Prop FT) (k : KV) (J : J46) (f : FT) (h : H) (l_0 : Nat) (c_0 : Nat) (l_1 : Nat) (c_1 : Nat) : chunkA env c q46 u46 (f46 J) d46 (retA env Go.Proofs.Tryz.f46.results.toList k) .root (fset (fset f 0 (.str l_0 c_0)) 1 (.str l_1 c_1)) h = s46_0 c k J l_0 c_0 l_1 c_1 h := by kernel_rfl
theorem e46_1 (c : Caller Prop FT) (k : KV) (J : J46) (f : FT) (h : H) (l_1 : Nat) (c_1 : Nat) (v_4 : AV) (v_6 : AV) (n_7 : Int) : chunkA env c q46 u46 (f46 J) d46 (retA env Go.Proofs.Tryz.f46.results.toList k) (.l (.l (.r (.r (.r .root))))) (fset (fset (fset (fset f 1 (.str l_1 c_1)) 4 v_4) 6 v_6) 7 (.int .i64 n_7)) h = s46_1 c k J l_1 c_1 v_4 v_6 n_7 h := by kernel_rfl
theorem e46_2 (c : Caller Prop FT) (k : KV) (J : J46) (f : FT) (h : H) (l_1 : Nat) (c_1 : Nat) (v_4 : AV) (v_6 : AV) (v_8 : AV) : chunkA env c q46 u46 (f46 J) d46 (retA env Go.Proofs.Tryz.f46.results.toList k) (.r (.r (.l (.r (.l (.l (.l (.r (.r (.r .root)))))))))) (fset (fset (fset (fset f 1 (.str l_1 c_1)) 4 v_4) 6 v_6) 8 v_8) h = s46_2 c k J l_1 c_1 v_4 v_6 v_8 h := by kernel_rfl
theorem e46_3 (c : Caller Prop FT) (k : KV) (J : J46) (f : FT) (h : H) (v_4 : AV) (v_6 : AV) : chunkA env c q46 u46 (f46 J) d46 (retA env Go.Proofs.Tryz.f46.results.toList k) (.r (.r (.r (.r (.r .root))))) (fset (fset f 4 v_4) 6 v_6) h = s46_3 c k J v_4 v_6 h := by kernel_rfl
theorem w46 {c : Caller Prop FT} (hc : CallOk Go.Proofs.Tryz.prog (CP env) G (fun p => p) c) {k : KV} {n : Nat} {args : List AV} {h : H} (hg : f46 (r46 c k n) 0 (finit args) h) : SW Go.Proofs.Tryz.prog G (.func 46) args h k :=
  fn_ok mixed envOk hc q46 Go.Proofs.Tryz.func46 rfl (by kernel_rfl) (by kernel_rfl) k u46 (fun n => f46 (r46 c k n))
    (fun L f h hl => by
      match L, hl with
      | 0, hl => obtain ⟨_, _, _, hl0⟩ := asS_inv (show _ from hl); obtain ⟨_, _, _, hl1⟩ := asS_inv (show _ from hl0); exact hl1
      | 1, hl => obtain ⟨_, _, _, hl0⟩ := asS_inv (show _ from hl); obtain ⟨_, _, hl1⟩ := asI_inv (show _ from hl0); exact hl1
      | 2, hl => obtain ⟨_, _, _, hl0⟩ := asS_inv (show _ from hl); exact hl0
      | 3, hl => exact hl
      | _ + 4, hl => exact hl)
    (fun n p L hm f h hl => by
      simp only [u46, List.mem_cons, Prod.mk.injEq, List.not_mem_nil, or_false] at hm
      rcases hm with ⟨rfl, rfl⟩ | ⟨rfl, rfl⟩ | ⟨rfl, rfl⟩ | ⟨rfl, rfl⟩
      · have hl : f46 (r46 c k (n + 1)) 0 f h := hl
        obtain ⟨l_0, c_0, e_0, hl0⟩ := asS_inv hl
        obtain ⟨l_1, c_1, e_1, hl1⟩ := asS_inv hl0
        have hh := e46_0 c k (r46 c k n) f h l_0 c_0 l_1 c_1
        rw [fset_self e_0] at hh
        rw [fset_self e_1] at hh
        exact Eq.mpr hh hl1
      · have hl : f46 (r46 c k (n + 1)) 1 f h := hl
        obtain ⟨l_1, c_1, e_1, hl0⟩ := asS_inv hl
        obtain ⟨n_7, e_7, hl3⟩ := asI_inv hl0
        have hh := e46_1 c k (r46 c k n) f h l_1 c_1 (f 4) (f 6) n_7
        rw [fset_self e_1] at hh
        rw [fset_self (rfl : f 4 = f 4)] at hh
        rw [fset_self (rfl : f 6 = f 6)] at hh
        rw [fset_self e_7] at hh
        exact Eq.mpr hh hl3
      · have hl : f46 (r46 c k (n + 1)) 2 f h := hl
        obtain ⟨l_1, c_1, e_1, hl0⟩ := asS_inv hl
        have hh := e46_2 c k (r46 c k n) f h l_1 c_1 (f 4) (f 6) (f 8)
        rw [fset_self e_1] at hh
        rw [fset_self (rfl : f 4 = f 4)] at hh
        rw [fset_self (rfl : f 6 = f 6)] at hh
        rw [fset_self (rfl : f 8 = f 8)] at hh
        exact Eq.mpr hh hl0
      · have hl : f46 (r46 c k (n + 1)) 3 f h := hl
        have hh := e46_3 c k (r46 c k n) f h (f 4) (f 6)
        rw [fset_self (rfl : f 4 = f 4)] at hh
        rw [fset_self (rfl : f 6 = f 6)] at hh
        exact Eq.mpr hh hl
    ) (by simp [u46]) hg

theorem e48_0 (c : Caller Prop FT) (k : KV) (J : J48) (f : FT) (h : H) (v_0 : AV) : chunkA env c q48 u48 (f48 J) d48 (retA env Go.Proofs.Tryz.f48.results.toList k) .root (fset f 0 v_0) h = s48_0 c k J v_0 h := by kernel_rfl
theorem w48 {c : Caller Prop FT} (hc : CallOk Go.Proofs.Tryz.prog (CP env) G (fun p => p) c) {k : KV} {n : Nat} {args : List AV} {h : H} (hg : f48 (r48 c k n) 0 (finit args) h) : SW Go.Proofs.Tryz.prog G (.func 48) args h k :=
  fn_ok mixed envOk hc q48 Go.Proofs.Tryz.func48 rfl (by kernel_rfl) (by kernel_rfl) k u48 (fun n => f48 (r48 c k n))
    (fun L f h hl => by
      match L, hl with
      | 0, hl => exact hl
      | _ + 1, hl => exact hl)
    (fun n p L hm f h hl => by
      simp only [u48, List.mem_cons, Prod.mk.injEq, List.not_mem_nil, or_false] at hm
      rcases hm with ⟨rfl, rfl⟩
      · have hl : f48 (r48 c k (n + 1)) 0 f h := hl
        have hh := e48_0 c k (r48 c k n) f h (f 0)
        rw [fset_self (rfl : f 0 = f 0)] at hh
        exact Eq.mpr hh hl
    ) (by simp [u48]) hg

theorem e49_0 (c : Caller Prop FT) (k : KV) (J : J49) (f : FT) (h : H) (v_0 : AV) : chunkA env c q49 u49 (f49 J) d49 (retA env Go.Proofs.Tryz.f49.results.toList k) .root (fset f 0 v_0) h = s49_0 c k J v_0 h := by kernel_rfl
theorem e49_1 (c : Caller Prop FT) (k : KV) (J : J49) (f : FT) (h : H) (v_0 : AV) : chunkA env c q49 u49 (f49 J) d49 (retA env Go.Proofs.Tryz.f49.results.toList k) (.l (.l (.r .root))) (fset f 0 v_0) h = s49_1 c k J v_0 h := by kernel_rfl
theorem w49 {c : Caller Prop FT} (hc : CallOk Go.Proofs.Tryz.prog (CP env) G (fun p => p) c) {k : KV} {n : Nat} {args : List AV} {h : H} (hg : f49 (r49 c k n) 0 (finit args) h) : SW Go.Proofs.Tryz.prog G (.func 49) args h k :=
  fn_ok mixed envOk hc q49 Go.Proofs.Tryz.func49 rfl (by kernel_rfl) (by kernel_rfl) k u49 (fun n => f49 (r49 c k n))
    (fun L f h hl => by
      match L, hl with
      | 0, hl => exact hl
      | 1, hl => exact hl
      | _ + 2, hl => exact hl)
    (fun n p L hm f h hl => by
      simp only [u49, List.mem_cons, Prod.mk.injEq, List.not_mem_nil, or_false] at hm
      rcases hm with ⟨rfl, rfl⟩ | ⟨rfl, rfl⟩
      · have hl : f49 (r49 c k (n + 1)) 0 f h := hl
        have hh := e49_0 c k (r49 c k n) f h (f 0)
        rw [fset_self (rfl : f 0 = f 0)] at hh
        exact Eq.mpr hh hl
      · have hl : f49 (r49 c k (n + 1)) 1 f h := hl
        have hh := e49_1 c k (r49 c k n) f h (f 0)
        rw [fset_self (rfl : f 0 = f 0)] at hh
        exact Eq.mpr hh hl
    ) (by simp [u49]) hg

theorem e56_0 (c : Caller Prop FT) (k : KV) (J : J56) (f : FT) (h : H) (v_0 : AV) : chunkA env c q56 u56 (f56 J) d56 (retA env Go.Proofs.Tryz.f56.results.toList k) .root (fset f 0 v_0) h = s56_0 c k J v_0 h := by kernel_rfl
theorem w56 {c : Caller Prop FT} (hc : CallOk Go.Proofs.Tryz.prog (CP env) G (fun p => p) c) {k : KV} {n : Nat} {args : List AV} {h : H} (hg : f56 (r56 c k n) 0 (finit args) h) : SW Go.Proofs.Tryz.prog G (.func 56) args h k :=
  fn_ok mixed envOk hc q56 Go.Proofs.Tryz.func56 rfl (by kernel_rfl) (by kernel_rfl) k u56 (fun n => f56 (r56 c k n))
    (fun L f h hl => by
      match L, hl with
      | 0, hl => exact hl
      | _ + 1, hl => exact hl)
    (fun n p L hm f h hl => by
      simp only [u56, List.mem_cons, Prod.mk.injEq, List.not_mem_nil, or_false] at hm
      rcases hm with ⟨rfl, rfl⟩
      · have hl : f56 (r56 c k (n + 1)) 0 f h := hl
        have hh := e56_0 c k (r56 c k n) f h (f 0)
        rw [fset_self (rfl : f 0 = f 0)] at hh
        exact Eq.mpr hh hl
    ) (by simp [u56]) hg

theorem e57_0 (c : Caller Prop FT) (k : KV) (J : J57) (f : FT) (h : H) (l_0 : Nat) (c_0 : Nat) : chunkA env c q57 u57 (f57 J) d57 (retA env Go.Proofs.Tryz.f57.results.toList k) .root (fset f 0 (.str l_0 c_0)) h = s57_0 c k J l_0 c_0 h := by kernel_rfl
theorem w57 {c : Caller Prop FT} (hc : CallOk Go.Proofs.Tryz.prog (CP env) G (fun p => p) c) {k : KV} {n : Nat} {args : List AV} {h : H} (hg : f57 (r57 c k n) 0 (finit args) h) : SW Go.Proofs.Tryz.prog G (.func 57) args h k :=
  fn_ok mixed envOk hc q57 Go.Proofs.Tryz.func57 rfl (by kernel_rfl) (by kernel_rfl) k u57 (fun n => f57 (r57 c k n))
    (fun L f h hl => by
      match L, hl with
      | 0, hl => obtain ⟨_, _, _, hl0⟩ := asS_inv (show _ from hl); exact hl0
      | _ + 1, hl => exact hl)
    (fun n p L hm f h hl => by
      simp only [u57, List.mem_cons, Prod.mk.injEq, List.not_mem_nil, or_false] at hm
      rcases hm with ⟨rfl, rfl⟩
      · have hl : f57 (r57 c k (n + 1)) 0 f h := hl
        obtain ⟨l_0, c_0, e_0, hl0⟩ := asS_inv hl
        have hh := e57_0 c k (r57 c k n) f h l_0 c_0
        rw [fset_self e_0] at hh
        exact Eq.mpr hh hl0
    ) (by simp [u57]) hg

theorem e58_0 (c : Caller Prop FT) (k : KV) (J : J58) (f : FT) (h : H) (v_0 : AV) (l_1 : Nat) (c_1 : Nat) : chunkA env c q58 u58 (f58 J) d58 (retA env Go.Proofs.Tryz.f58.results.toList k) .root (fset (fset f 0 v_0) 1 (.str l_1 c_1)) h = s58_0 c k J v_0 l_1 c_1 h := by kernel_rfl
theorem e58_1 (c : Caller Prop FT) (k : KV) (J : J58) (f : FT) (h : H) (v_0 : AV) (l_1 : Nat) (c_1 : Nat) : chunkA env c q58 u58 (f58 J) d58 (retA env Go.Proofs.Tryz.f58.results.toList k) (.r .root) (fset (fset f 0 v_0) 1 (.str l_1 c_1)) h = s58_1 c k J v_0 l_1 c_1 h := by kernel_rfl
theorem w58 {c : Caller Prop FT} (hc : CallOk Go.Proofs.Tryz.prog (CP env) G (fun p => p) c) {k : KV} {n : Nat} {args : List AV} {h : H} (hg : f58 (r58 c k n) 0 (finit args) h) : SW Go.Proofs.Tryz.prog G (.func 58) args h k :=
  fn_ok mixed envOk hc q58 Go.Proofs.Tryz.func58 rfl (by kernel_rfl) (by kernel_rfl) k u58 (fun n => f58 (r58 c k n))
    (fun L f h hl => by
      match L, hl with
      | 0, hl => obtain ⟨_, _, _, hl0⟩ := asS_inv (show _ from hl); exact hl0
      | 1, hl => obtain ⟨_, _, _, hl0⟩ := asS_inv (show _ from hl); exact hl0
      | _ + 2, hl => exact hl)
    (fun n p L hm f h hl => by
      simp only [u58, List.mem_cons, Prod.mk.injEq, List.not_mem_nil, or_false] at hm
      rcases hm with ⟨rfl, rfl⟩ | ⟨rfl, rfl⟩
      · have hl : f58 (r58 c k (n + 1)) 0 f h := hl
        obtain ⟨l_1, c_1, e_1, hl1⟩ := asS_inv hl
        have hh := e58_0 c k (r58 c k n) f h (f 0) l_1 c_1
        rw [fset_self (rfl : f 0 = f 0)] at hh
        rw [fset_self e_1] at hh
        exact Eq.mpr hh hl1
      · have hl : f58 (r58 c k (n + 1)) 1 f h := hl
        obtain ⟨l_1, c_1, e_1, hl1⟩ := asS_inv hl
        have hh := e58_1 c k (r58 c k n) f h (f 0) l_1 c_1
        rw [fset_self (rfl : f 0 = f 0)] at hh
        rw [fset_self e_1] at hh
        exact Eq.mpr hh hl1
    ) (by simp [u58]) hg

theorem e59_0 (c : Caller Prop FT) (k : KV) (J : J59) (f : FT) (h : H) (l_0 : Nat) (c_0 : Nat) : chunkA env c q59 u59 (f59 J) d59 (retA env Go.Proofs.Tryz.f59.results.toList k) .root (fset f 0 (.str l_0 c_0)) h = s59_0 c k J l_0 c_0 h := by kernel_rfl
theorem e59_1 (c : Caller Prop FT) (k : KV) (J : J59) (f : FT) (h : H) (l_0 : Nat) (c_0 : Nat) (v_3 : AV) (n_4 : Int) (n_5 : Int) : chunkA env c q59 u59 (f59 J) d59 (retA env Go.Proofs.Tryz.f59.results.toList k) (.l (.r (.l (.r (.r (.r .root)))))) (fset (fset (fset (fset f 0 (.str l_0 c_0)) 3 v_3) 4 (.int .i64 n_4)) 5 (.int .i64 n_5)) h = s59_1 c k J l_0 c_0 v_3 n_4 n_5 h := by kernel_rfl
theorem e59_2 (c : Caller Prop FT) (k : KV) (J : J59) (f : FT) (h : H) (l_0 : Nat) (c_0 : Nat) (v_3 : AV) (n_4 : Int) (n_5 : Int) : chunkA env c q59 u59 (f59 J) d59 (retA env Go.Proofs.Tryz.f59.results.toList k) (.r (.r (.l (.l (.r (.l (.r (.r (.r .root))))))))) (fset (fset (fset (fset f 0 (.str l_0 c_0)) 3 v_3) 4 (.int .i64 n_4)) 5 (.int .i64 n_5)) h = s59_2 c k J l_0 c_0 v_3 n_4 n_5 h := by kernel_rfl
theorem w59 {c : Caller Prop FT} (hc : CallOk Go.Proofs.Tryz.prog (CP env) G (fun p => p) c) {k : KV} {n : Nat} {args : List AV} {h : H} (hg : f59 (r59 c k n) 0 (finit args) h) : SW Go.Proofs.Tryz.prog G (.func 59) args h k :=
  fn_ok mixed envOk hc q59 Go.Proofs.Tryz.func59 rfl (by kernel_rfl) (by kernel_rfl) k u59 (fun n => f59 (r59 c k n))
    (fun L f h hl => by
      match L, hl with
      | 0, hl => obtain ⟨_, _, _, hl0⟩ := asS_inv (show _ from hl); exact hl0
      | 1, hl => obtain ⟨_, _, _, hl0⟩ := asS_inv (show _ from hl); obtain ⟨_, _, hl1⟩ := asI_inv (show _ from hl0); obtain ⟨_, _, hl2⟩ := asI_inv (show _ from hl1); exact hl2
      | 2, hl => obtain ⟨_, _, _, hl0⟩ := asS_inv (show _ from hl); obtain ⟨_, _, hl1⟩ := asI_inv (show _ from hl0); obtain ⟨_, _, hl2⟩ := asI_inv (show _ from hl1); exact hl2
      | _ + 3, hl => exact hl)
    (fun n p L hm f h hl => by
      simp only [u59, List.mem_cons, Prod.mk.injEq, List.not_mem_nil, or_false] at hm
      rcases hm with ⟨rfl, rfl⟩ | ⟨rfl, rfl⟩ | ⟨rfl, rfl⟩
      · have hl : f59 (r59 c k (n + 1)) 0 f h := hl
        obtain ⟨l_0, c_0, e_0, hl0⟩ := asS_inv hl
        have hh := e59_0 c k (r59 c k n) f h l_0 c_0
        rw [fset_self e_0] at hh
        exact Eq.mpr hh hl0
      · have hl : f59 (r59 c k (n + 1)) 1 f h := hl
        obtain ⟨l_0, c_0, e_0, hl0⟩ := asS_inv hl
        obtain ⟨n_4, e_4, hl2⟩ := asI_inv hl0
        obtain ⟨n_5, e_5, hl3⟩ := asI_inv hl2
        have hh := e59_1 c k (r59 c k n) f h l_0 c_0 (f 3) n_4 n_5
        rw [fset_self e_0] at hh
        rw [fset_self (rfl : f 3 = f 3)] at hh
        rw [fset_self e_4] at hh
        rw [fset_self e_5] at hh
        exact Eq.mpr hh hl3
      · have hl : f59 (r59 c k (n + 1)) 2 f h := hl
        obtain ⟨l_0, c_0, e_0, hl0⟩ := asS_inv hl
        obtain ⟨n_4, e_4, hl2⟩ := asI_inv hl0
        obtain ⟨n_5, e_5, hl3⟩ := asI_inv hl2
        have hh := e59_2 c k (r59 c k n) f h l_0 c_0 (f 3) n_4 n_5
        rw [fset_self e_0] at hh
        rw [fset_self (rfl : f 3 = f 3)] at hh
        rw [fset_self e_4] at hh
        rw [fset_self e_5] at hh
        exact Eq.mpr hh hl3
    ) (by simp [u59]) hg

theorem e61_0 (c : Caller Prop FT) (k : KV) (J : J61) (f : FT) (h : H) (v_0 : AV) (l_1 : Nat) (c_1 : Nat) : chunkA env c q61 u61 (f61 J) d61 (retA env Go.Proofs.Tryz.f61.results.toList k) .root (fset (fset f 0 v_0) 1 (.str l_1 c_1)) h = s61_0 c k J v_0 l_1 c_1 h := by kernel_rfl
theorem e61_1 (c : Caller Prop FT) (k : KV) (J : J61) (f : FT) (h : H) (v_0 : AV) (l_1 : Nat) (c_1 : Nat) (n_4 : Int) : chunkA env c q61 u61 (f61 J) d61 (retA env Go.Proofs.Tryz.f61.results.toList k) (.l (.r (.l .root))) (fset (fset (fset f 0 v_0) 1 (.str l_1 c_1)) 4 (.int .i64 n_4)) h = s61_1 c k J v_0 l_1 c_1 n_4 h := by kernel_rfl
theorem w61 {c : Caller Prop FT} (hc : CallOk Go.Proofs.Tryz.prog (CP env) G (fun p => p) c) {k : KV} {n : Nat} {args : List AV} {h : H} (hg : f61 (r61 c k n) 0 (finit args) h) : SW Go.Proofs.Tryz.prog G (.func 61) args h k :=
  fn_ok mixed envOk hc q61 Go.Proofs.Tryz.func61 rfl (by kernel_rfl) (by kernel_rfl) k u61 (fun n => f61 (r61 c k n))
    (fun L f h hl => by
      match L, hl with
      | 0, hl => obtain ⟨_, _, _, hl0⟩ := asS_inv (show _ from hl); exact hl0
      | 1, hl => obtain ⟨_, _, _, hl0⟩ := asS_inv (show _ from hl); obtain ⟨_, _, hl1⟩ := asI_inv (show _ from hl0); exact hl1
      | _ + 2, hl => exact hl)
    (fun n p L hm f h hl => by
      simp only [u61, List.mem_cons, Prod.mk.injEq, List.not_mem_nil, or_false] at hm
      rcases hm with ⟨rfl, rfl⟩ | ⟨rfl, rfl⟩
      · have hl : f61 (r61 c k (n + 1)) 0 f h := hl
        obtain ⟨l_1, c_1, e_1, hl1⟩ := asS_inv hl
        have hh := e61_0 c k (r61 c k n) f h (f 0) l_1 c_1
        rw [fset_self (rfl : f 0 = f 0)] at hh
        rw [fset_self e_1] at hh
        exact Eq.mpr hh hl1
      · have hl : f61 (r61 c k (n + 1)) 1 f h := hl
        obtain ⟨l_1, c_1, e_1, hl1⟩ := asS_inv hl
        obtain ⟨n_4, e_4, hl2⟩ := asI_inv hl1
        have hh := e61_1 c k (r61 c k n) f h (f 0) l_1 c_1 n_4
        rw [fset_self (rfl : f 0 = f 0)] at hh
        rw [fset_self e_1] at hh
        rw [fset_self e_4] at hh
        exact Eq.mpr hh hl2
    ) (by simp [u61]) hg

theorem w64 {c : Caller Prop FT} (hc : CallOk Go.Proofs.Tryz.prog (CP env) G (fun p => p) c) {k : KV} {m : Nat} {a : List AV} {h : H} (hg : runJ env c q64 u64 d64 (retA env Go.Proofs.Tryz.f64.results.toList k) m 0 (finit a) h) : SW Go.Proofs.Tryz.prog G (.func 64) a h k := fnI_ok mixed envOk hc q64 Go.Proofs.Tryz.func64 rfl (by kernel_rfl) (by kernel_rfl) (by kernel_rfl) (by simp [u64]) hg
theorem e69_0 (c : Caller Prop FT) (k : KV) (J : J69) (f : FT) (h : H) (v_0 : AV) : chunkA env c q69 u69 (f69 J) d69 (retA env Go.Proofs.Tryz.f69.results.toList k) .root (fset f 0 v_0) h = s69_0 c k J v_0 h := by kernel_rfl
theorem e69_1 (c : Caller Prop FT) (k : KV) (J : J69) (f : FT) (h : H) (v_0 : AV) (v_2 : AV) : chunkA env c q69 u69 (f69 J) d69 (retA env Go.Proofs.Tryz.f69.results.toList k) (.l (.r (.r .root))) (fset (fset f 0 v_0) 2 v_2) h = s69_1 c k J v_0 v_2 h := by kernel_rfl
theorem w69 {c : Caller Prop FT} (hc : CallOk Go.Proofs.Tryz.prog (CP env) G (fun p => p) c) {k : KV} {n : Nat} {args : List AV} {h : H} (hg : f69 (r69 c k n) 0 (finit args) h) : SW Go.Proofs.Tryz.prog G (.func 69) args h k :=
  fn_ok mixed envOk hc q69 Go.Proofs.Tryz.func69 rfl (by kernel_rfl) (by kernel_rfl) k u69 (fun n => f69 (r69 c k n))
    (fun L f h hl => by
      match L, hl with
      | 0, hl => exact hl
      | 1, hl => exact hl
      | _ + 2, hl => exact hl)
    (fun n p L hm f h hl => by
      simp only [u69, List.mem_cons, Prod.mk.injEq, List.not_mem_nil, or_false] at hm
      rcases hm with ⟨rfl, rfl⟩ | ⟨rfl, rfl⟩
      · have hl : f69 (r69 c k (n + 1)) 0 f h := hl
        have hh := e69_0 c k (r69 c k n) f h (f 0)
        rw [fset_self (rfl : f 0 = f 0)] at hh
        exact Eq.mpr hh hl
      · have hl : f69 (r69 c k (n + 1)) 1 f h := hl
        have hh := e69_1 c k (r69 c k n) f h (f 0) (f 2)
        rw [fset_self (rfl : f 0 = f 0)] at hh
        rw [fset_self (rfl : f 2 = f 2)] at hh
        exact Eq.mpr hh hl
    ) (by simp [u69]) hg

theorem e70_0 (c : Caller Prop FT) (k : KV) (J : J70) (f : FT) (h : H) (v_0 : AV) (v_1 : AV) : chunkA env c q70 u70 (f70 J) d70 (retA env Go.Proofs.Tryz.f70.results.toList k) .root (fset (fset f 0 v_0) 1 v_1) h = s70_0 c k J v_0 v_1 h := by kernel_rfl
theorem e70_1 (c : Caller Prop FT) (k : KV) (J : J70) (f : FT) (h : H) (v_0 : AV) (v_1 : AV) (n_3 : Int) : chunkA env c q70 u70 (f70 J) d70 (retA env Go.Proofs.Tryz.f70.results.toList k) (.l (.r .root)) (fset (fset (fset f 0 v_0) 1 v_1) 3 (.int .i64 n_3)) h = s70_1 c k J v_0 v_1 n_3 h := by kernel_rfl
theorem w70 {c : Caller Prop FT} (hc : CallOk Go.Proofs.Tryz.prog (CP env) G (fun p => p) c) {k : KV} {n : Nat} {args : List AV} {h : H} (hg : f70 (r70 c k n) 0 (finit args) h) : SW Go.Proofs.Tryz.prog G (.func 70) args h k :=
  fn_ok mixed envOk hc q70 Go.Proofs.Tryz.func70 rfl (by kernel_rfl) (by kernel_rfl) k u70 (fun n => f70 (r70 c k n))
    (fun L f h hl => by
      match L, hl with
      | 0, hl => exact hl
      | 1, hl => obtain ⟨_, _, hl0⟩ := asI_inv (show _ from hl); exact hl0
      | _ + 2, hl => exact hl)
    (fun n p L hm f h hl => by
      simp only [u70, List.mem_cons, Prod.mk.injEq, List.not_mem_nil, or_false] at hm
      rcases hm with ⟨rfl, rfl⟩ | ⟨rfl, rfl⟩
      · have hl : f70 (r70 c k (n + 1)) 0 f h := hl
        have hh := e70_0 c k (r70 c k n) f h (f 0) (f 1)
        rw [fset_self (rfl : f 0 = f 0)] at hh
        rw [fset_self (rfl : f 1 = f 1)] at hh
        exact Eq.mpr hh hl
      · have hl : f70 (r70 c k (n + 1)) 1 f h := hl
        obtain ⟨n_3, e_3, hl2⟩ := asI_inv hl
        have hh := e70_1 c k (r70 c k n) f h (f 0) (f 1) n_3
        rw [fset_self (rfl : f 0 = f 0)] at hh
        rw [fset_self (rfl : f 1 = f 1)] at hh
        rw [fset_self e_3] at hh
        exact Eq.mpr hh hl2
    ) (by simp [u70]) hg

theorem e72_0 (c : Caller Prop FT) (k : KV) (J : J72) (f : FT) (h : H) (v_0 : AV) (v_1 : AV) : chunkA env c q72 u72 (f72 J) d72 (retA env Go.Proofs.Tryz.f72.results.toList k) .root (fset (fset f 0 v_0) 1 v_1) h = s72_0 c k J v_0 v_1 h := by kernel_rfl
theorem e72_1 (c : Caller Prop FT) (k : KV) (J : J72) (f : FT) (h : H) (v_0 : AV) (v_3 : AV) : chunkA env c q72 u72 (f72 J) d72 (retA env Go.Proofs.Tryz.f72.results.toList k) (.r (.r (.r (.r .root)))) (fset (fset f 0 v_0) 3 v_3) h = s72_1 c k J v_0 v_3 h := by kernel_rfl
theorem w72 {c : Caller Prop FT} (hc : CallOk Go.Proofs.Tryz.prog (CP env) G (fun p => p) c) {k : KV} {n : Nat} {args : List AV} {h : H} (hg : f72 (r72 c k n) 0 (finit args) h) : SW Go.Proofs.Tryz.prog G (.func 72) args h k :=
  fn_ok mixed envOk hc q72 Go.Proofs.Tryz.func72 rfl (by kernel_rfl) (by kernel_rfl) k u72 (fun n => f72 (r72 c k n))
    (fun L f h hl => by
      match L, hl with
      | 0, hl => exact hl
      | 1, hl => exact hl
      | _ + 2, hl => exact hl)
    (fun n p L hm f h hl => by
      simp only [u72, List.mem_cons, Prod.mk.injEq, List.not_mem_nil, or_false] at hm
      rcases hm with ⟨rfl, rfl⟩ | ⟨rfl, rfl⟩
      · have hl : f72 (r72 c k (n + 1)) 0 f h := hl
        have hh := e72_0 c k (r72 c k n) f h (f 0) (f 1)
        rw [fset_self (rfl : f 0 = f 0)] at hh
        rw [fset_self (rfl : f 1 = f 1)] at hh
        exact Eq.mpr hh hl
      · have hl : f72 (r72 c k (n + 1)) 1 f h := hl
        have hh := e72_1 c k (r72 c k n) f h (f 0) (f 3)
        rw [fset_self (rfl : f 0 = f 0)] at hh
        rw [fset_self (rfl : f 3 = f 3)] at hh
        exact Eq.mpr hh hl
    ) (by simp [u72]) hg

theorem e75_0 (c : Caller Prop FT) (k : KV) (J : J75) (f : FT) (h : H) (v_0 : AV) : chunkA env c q75 u75 (f75 J) d75 (retA env Go.Proofs.Tryz.f75.results.toList k) .root (fset f 0 v_0) h = s75_0 c k J v_0 h := by kernel_rfl
theorem w75 {c : Caller Prop FT} (hc : CallOk Go.Proofs.Tryz.prog (CP env) G (fun p => p) c) {k : KV} {n : Nat} {args : List AV} {h : H} (hg : f75 (r75 c k n) 0 (finit args) h) : SW Go.Proofs.Tryz.prog G (.func 75) args h k :=
  fn_ok mixed envOk hc q75 Go.Proofs.Tryz.func75 rfl (by kernel_rfl) (by kernel_rfl) k u75 (fun n => f75 (r75 c k n))
    (fun L f h hl => by
      match L, hl with
      | 0, hl => exact hl
      | _ + 1, hl => exact hl)
    (fun n p L hm f h hl => by
      simp only [u75, List.mem_cons, Prod.mk.injEq, List.not_mem_nil, or_false] at hm
      rcases hm with ⟨rfl, rfl⟩
      · have hl : f75 (r75 c k (n + 1)) 0 f h := hl
        have hh := e75_0 c k (r75 c k n) f h (f 0)
        rw [fset_self (rfl : f 0 = f 0)] at hh
        exact Eq.mpr hh hl
    ) (by simp [u75]) hg

theorem e80_0 (c : Caller Prop FT) (k : KV) (J : J80) (f : FT) (h : H) (n_0 : Int) : chunkA env c q80 u80 (f80 J) d80 (retA env Go.Proofs.Tryz.f80.results.toList k) .root (fset f 0 (.int .u8 n_0)) h = s80_0 c k J n_0 h := by kernel_rfl
theorem w80 {c : Caller Prop FT} (hc : CallOk Go.Proofs.Tryz.prog (CP env) G (fun p => p) c) {k : KV} {n : Nat} {args : List AV} {h : H} (hg : f80 (r80 c k n) 0 (finit args) h) : SW Go.Proofs.Tryz.prog G (.func 80) args h k :=
  fn_ok mixed envOk hc q80 Go.Proofs.Tryz.func80 rfl (by kernel_rfl) (by kernel_rfl) k u80 (fun n => f80 (r80 c k n))
    (fun L f h hl => by
      match L, hl with
      | 0, hl => obtain ⟨_, _, hl0⟩ := asI_inv (show _ from hl); exact hl0
      | _ + 1, hl => exact hl)
    (fun n p L hm f h hl => by
      simp only [u80, List.mem_cons, Prod.mk.injEq, List.not_mem_nil, or_false] at hm
      rcases hm with ⟨rfl, rfl⟩
      · have hl : f80 (r80 c k (n + 1)) 0 f h := hl
        obtain ⟨n_0, e_0, hl0⟩ := asI_inv hl
        have hh := e80_0 c k (r80 c k n) f h n_0
        rw [fset_self e_0] at hh
        exact Eq.mpr hh hl0
    ) (by simp [u80]) hg

theorem e83_0 (c : Caller Prop FT) (k : KV) (J : J83) (f : FT) (h : H) (v_0 : AV) (n_1 : Int) : chunkA env c q83 u83 (f83 J) d83 (retA env Go.Proofs.Tryz.f83.results.toList k) .root (fset (fset f 0 v_0) 1 (.int .i64 n_1)) h = s83_0 c k J v_0 n_1 h := by kernel_rfl
theorem w83 {c : Caller Prop FT} (hc : CallOk Go.Proofs.Tryz.prog (CP env) G (fun p => p) c) {k : KV} {n : Nat} {args : List AV} {h : H} (hg : f83 (r83 c k n) 0 (finit args) h) : SW Go.Proofs.Tryz.prog G (.func 83) args h k :=
  fn_ok mixed envOk hc q83 Go.Proofs.Tryz.func83 rfl (by kernel_rfl) (by kernel_rfl) k u83 (fun n => f83 (r83 c k n))
    (fun L f h hl => by
      match L, hl with
      | 0, hl => obtain ⟨_, _, hl0⟩ := asI_inv (show _ from hl); exact hl0
      | _ + 1, hl => exact hl)
    (fun n p L hm f h hl => by
      simp only [u83, List.mem_cons, Prod.mk.injEq, List.not_mem_nil, or_false] at hm
      rcases hm with ⟨rfl, rfl⟩
      · have hl : f83 (r83 c k (n + 1)) 0 f h := hl
        obtain ⟨n_1, e_1, hl1⟩ := asI_inv hl
        have hh := e83_0 c k (r83 c k n) f h (f 0) n_1
        rw [fset_self (rfl : f 0 = f 0)] at hh
        rw [fset_self e_1] at hh
        exact Eq.mpr hh hl1
    ) (by simp [u83]) hg

theorem e85_0 (c : Caller Prop FT) (k : KV) (J : J85) (f : FT) (h : H) (v_0 : AV) (v_1 : AV) : chunkA env c q85 u85 (f85 J) d85 (retA env Go.Proofs.Tryz.f85.results.toList k) .root (fset (fset f 0 v_0) 1 v_1) h = s85_0 c k J v_0 v_1 h := by kernel_rfl
theorem w85 {c : Caller Prop FT} (hc : CallOk Go.Proofs.Tryz.prog (CP env) G (fun p => p) c) {k : KV} {n : Nat} {args : List AV} {h : H} (hg : f85 (r85 c k n) 0 (finit args) h) : SW Go.Proofs.Tryz.prog G (.func 85) args h k :=
  fn_ok mixed envOk hc q85 Go.Proofs.Tryz.func85 rfl (by kernel_rfl) (by kernel_rfl) k u85 (fun n => f85 (r85 c k n))
    (fun L f h hl => by
      match L, hl with
      | 0, hl => exact hl
      | _ + 1, hl => exact hl)
    (fun n p L hm f h hl => by
      simp only [u85, List.mem_cons, Prod.mk.injEq, List.not_mem_nil, or_false] at hm
      rcases hm with ⟨rfl, rfl⟩
      · have hl : f85 (r85 c k (n + 1)) 0 f h := hl
        have hh := e85_0 c k (r85 c k n) f h (f 0) (f 1)
        rw [fset_self (rfl : f 0 = f 0)] at hh
        rw [fset_self (rfl : f 1 = f 1)] at hh
        exact Eq.mpr hh hl
    ) (by simp [u85]) hg

theorem e86_0 (c : Caller Prop FT) (k : KV) (J : J86) (f : FT) (h : H) (v_0 : AV) (n_1 : Int) (v_2 : AV) : chunkA env c q86 u86 (f86 J) d86 (retA env Go.Proofs.Tryz.f86.results.toList k) .root (fset (fset (fset f 0 v_0) 1 (.int .i64 n_1)) 2 v_2) h = s86_0 c k J v_0 n_1 v_2 h := by kernel_rfl
theorem e86_1 (c : Caller Prop FT) (k : KV) (J : J86) (f : FT) (h : H) (v_0 : AV) (v_6 : AV) : chunkA env c q86 u86 (f86 J) d86 (retA env Go.Proofs.Tryz.f86.results.toList k) (.r (.r (.l (.r (.l (.r (.r (.r (.r .root))))))))) (fset (fset f 0 v_0) 6 v_6) h = s86_1 c k J v_0 v_6 h := by kernel_rfl
theorem e86_2 (c : Caller Prop FT) (k : KV) (J : J86) (f : FT) (h : H) (v_0 : AV) (n_1 : Int) (b_81 : Bool) : chunkA env c q86 u86 (f86 J) d86 (retA env Go.Proofs.Tryz.f86.results.toList k) (.r (.r (.r (.l (.r (.r (.r (.r .root)))))))) (fset (fset (fset f 0 v_0) 1 (.int .i64 n_1)) 81 (.bool b_81)) h = s86_2 c k J v_0 n_1 b_81 h := by kernel_rfl
theorem e86_3 (c : Caller Prop FT) (k : KV) (J : J86) (f : FT) (h : H) (v_0 : AV) (n_1 : Int) (n_34 : Int) (b_41 : Bool) : chunkA env c q86 u86 (f86 J) d86 (retA env Go.Proofs.Tryz.f86.results.toList k) (.r (.l (.r (.r (.r (.r .root)))))) (fset (fset (fset (fset f 0 v_0) 1 (.int .i64 n_1)) 34 (.int .i64 n_34)) 41 (.bool b_41)) h = s86_3 c k J v_0 n_1 n_34 b_41 h := by kernel_rfl
theorem e86_4 (c : Caller Prop FT) (k : KV) (J : J86) (f : FT) (h : H) (v_0 : AV) (n_1 : Int) : chunkA env c q86 u86 (f86 J) d86 (retA env Go.Proofs.Tryz.f86.results.toList k) (.r (.r (.r .root))) (fset (fset f 0 v_0) 1 (.int .i64 n_1)) h = s86_4 c k J v_0 n_1 h := by kernel_rfl
theorem w86 {c : Caller Prop FT} (hc : CallOk Go.Proofs.Tryz.prog (CP env) G (fun p => p) c) {k : KV} {n : Nat} {args : List AV} {h : H} (hg : f86 (r86 c k n) 0 (finit args) h) : SW Go.Proofs.Tryz.prog G (.func 86) args h k :=
  fn_ok mixed envOk hc q86 Go.Proofs.Tryz.func86 rfl (by kernel_rfl) (by kernel_rfl) k u86 (fun n => f86 (r86 c k n))
    (fun L f h hl => by
      match L, hl with
      | 0, hl => obtain ⟨_, _, hl0⟩ := asI_inv (show _ from hl); exact hl0
      | 1, hl => exact hl
      | 2, hl => obtain ⟨_, _, hl0⟩ := asI_inv (show _ from hl); obtain ⟨_, _, hl1⟩ := asB_inv (show _ from hl0); exact hl1
      | 3, hl => obtain ⟨_, _, hl0⟩ := asI_inv (show _ from hl); obtain ⟨_, _, hl1⟩ := asI_inv (show _ from hl0); obtain ⟨_, _, hl2⟩ := asB_inv (show _ from hl1); exact hl2
      | 4, hl => obtain ⟨_, _, hl0⟩ := asI_inv (show _ from hl); exact hl0
      | _ + 5, hl => exact hl)
    (fun n p L hm f h hl => by
      simp only [u86, List.mem_cons, Prod.mk.injEq, List.not_mem_nil, or_false] at hm
      rcases hm with ⟨rfl, rfl⟩ | ⟨rfl, rfl⟩ | ⟨rfl, rfl⟩ | ⟨rfl, rfl⟩ | ⟨rfl, rfl⟩
      · have hl : f86 (r86 c k (n + 1)) 0 f h := hl
        obtain ⟨n_1, e_1, hl1⟩ := asI_inv hl
        have hh := e86_0 c k (r86 c k n) f h (f 0) n_1 (f 2)
        rw [fset_self (rfl : f 0 = f 0)] at hh
        rw [fset_self e_1] at hh
        rw [fset_self (rfl : f 2 = f 2)] at hh
        exact Eq.mpr hh hl1
      · have hl : f86 (r86 c k (n + 1)) 1 f h := hl
        have hh := e86_1 c k (r86 c k n) f h (f 0) (f 6)
        rw [fset_self (rfl : f 0 = f 0)] at hh
        rw [fset_self (rfl : f 6 = f 6)] at hh
        exact Eq.mpr hh hl
      · have hl : f86 (r86 c k (n + 1)) 2 f h := hl
        obtain ⟨n_1, e_1, hl1⟩ := asI_inv hl
        obtain ⟨b_81, e_81, hl2⟩ := asB_inv hl1
        have hh := e86_2 c k (r86 c k n) f h (f 0) n_1 b_81
        rw [fset_self (rfl : f 0 = f 0)] at hh
        rw [fset_self e_1] at hh
        rw [fset_self e_81] at hh
        exact Eq.mpr hh hl2
      · have hl : f86 (r86 c k (n + 1)) 3 f h := hl
        obtain ⟨n_1, e_1, hl1⟩ := asI_inv hl
        obtain ⟨n_34, e_34, hl2⟩ := asI_inv hl1
        obtain ⟨b_41, e_41, hl3⟩ := asB_inv hl2
        have hh := e86_3 c k (r86 c k n) f h (f 0) n_1 n_34 b_41
        rw [fset_self (rfl : f 0 = f 0)] at hh
        rw [fset_self e_1] at hh
        rw [fset_self e_34] at hh
        rw [fset_self e_41] at hh
        exact Eq.mpr hh hl3
      · have hl : f86 (r86 c k (n + 1)) 4 f h := hl
        obtain ⟨n_1, e_1, hl1⟩ := asI_inv hl
        have hh := e86_4 c k (r86 c k n) f h (f 0) n_1
        rw [fset_self (rfl : f 0 = f 0)] at hh
        rw [fset_self e_1] at hh
        exact Eq.mpr hh hl1
    ) (by simp [u86]) hg

theorem e90_0 (c : Caller Prop FT) (k : KV) (J : J90) (f : FT) (h : H) (v_0 : AV) (n_1 : Int) (n_2 : Int) (n_3 : Int) : chunkA env c q90 u90 (f90 J) d90 (retA env Go.Proofs.Tryz.f90.results.toList k) .root (fset (fset (fset (fset f 0 v_0) 1 (.int .i64 n_1)) 2 (.int .i64 n_2)) 3 (.int .i64 n_3)) h = s90_0 c k J v_0 n_1 n_2 n_3 h := by kernel_rfl
theorem e90_1 (c : Caller Prop FT) (k : KV) (J : J90) (f : FT) (h : H) (v_0 : AV) (n_1 : Int) (n_2 : Int) (n_3 : Int) (b_8 : Bool) (b_9 : Bool) : chunkA env c q90 u90 (f90 J) d90 (retA env Go.Proofs.Tryz.f90.results.toList k) (.l (.r (.r .root))) (fset (fset (fset (fset (fset (fset f 0 v_0) 1 (.int .i64 n_1)) 2 (.int .i64 n_2)) 3 (.int .i64 n_3)) 8 (.bool b_8)) 9 (.bool b_9)) h = s90_1 c k J v_0 n_1 n_2 n_3 b_8 b_9 h := by kernel_rfl
theorem e90_2 (c : Caller Prop FT) (k : KV) (J : J90) (f : FT) (h : H) (v_0 : AV) (n_1 : Int) (n_2 : Int) (n_3 : Int) (b_8 : Bool) (b_9 : Bool) (n_10 : Int) (n_11 : Int) : chunkA env c q90 u90 (f90 J) d90 (retA env Go.Proofs.Tryz.f90.results.toList k) (.r (.r (.r (.r (.r (.r (.r (.l (.l (.l (.r (.r .root)))))))))))) (fset (fset (fset (fset (fset (fset (fset (fset f 0 v_0) 1 (.int .i64 n_1)) 2 (.int .i64 n_2)) 3 (.int .i64 n_3)) 8 (.bool b_8)) 9 (.bool b_9)) 10 (.int .i64 n_10)) 11 (.int .i64 n_11)) h = s90_2 c k J v_0 n_1 n_2 n_3 b_8 b_9 n_10 n_11 h := by kernel_rfl
theorem e90_3 (c : Caller Prop FT) (k : KV) (J : J90) (f : FT) (h : H) (v_0 : AV) (n_1 : Int) (n_2 : Int) (n_3 : Int) (b_8 : Bool) (b_9 : Bool) (n_10 : Int) (n_11 : Int) (n_12 : Int) : chunkA env c q90 u90 (f90 J) d90 (retA env Go.Proofs.Tryz.f90.results.toList k) (.r (.r (.r (.r (.r (.r (.l (.l (.l (.r (.r .root))))))))))) (fset (fset (fset (fset (fset (fset (fset (fset (fset f 0 v_0) 1 (.int .i64 n_1)) 2 (.int .i64 n_2)) 3 (.int .i64 n_3)) 8 (.bool b_8)) 9 (.bool b_9)) 10 (.int .i64 n_10)) 11 (.int .i64 n_11)) 12 (.int .i64 n_12)) h = s90_3 c k J v_0 n_1 n_2 n_3 b_8 b_9 n_10 n_11 n_12 h := by kernel_rfl
theorem e90_4 (c : Caller Prop FT) (k : KV) (J : J90) (f : FT) (h : H) (v_0 : AV) (n_1 : Int) (n_2 : Int) (n_3 : Int) (b_8 : Bool) (b_9 : Bool) (n_10 : Int) : chunkA env c q90 u90 (f90 J) d90 (retA env Go.Proofs.Tryz.f90.results.toList k) (.r (.r (.r (.r (.l (.l (.l (.r (.r .root))))))))) (fset (fset (fset (fset (fset (fset (fset f 0 v_0) 1 (.int .i64 n_1)) 2 (.int .i64 n_2)) 3 (.int .i64 n_3)) 8 (.bool b_8)) 9 (.bool b_9)) 10 (.int .i64 n_10)) h = s90_4 c k J v_0 n_1 n_2 n_3 b_8 b_9 n_10 h := by kernel_rfl
theorem w90 {c : Caller Prop FT} (hc : CallOk Go.Proofs.Tryz.prog (CP env) G (fun p => p) c) {k : KV} {n : Nat} {args : List AV} {h : H} (hg : f90 (r90 c k n) 0 (finit args) h) : SW Go.Proofs.Tryz.prog G (.func 90) args h k :=
  fn_ok mixed envOk hc q90 Go.Proofs.Tryz.func90 rfl (by kernel_rfl) (by kernel_rfl) k u90 (fun n => f90 (r90 c k n))
    (fun L f h hl => by
      match L, hl with
      | 0, hl => obtain ⟨_, _, hl0⟩ := asI_inv (show _ from hl); obtain ⟨_, _, hl1⟩ := asI_inv (show _ from hl0); obtain ⟨_, _, hl2⟩ := asI_inv (show _ from hl1); exact hl2
      | 1, hl => obtain ⟨_, _, hl0⟩ := asI_inv (show _ from hl); obtain ⟨_, _, hl1⟩ := asI_inv (show _ from hl0); obtain ⟨_, _, hl2⟩ := asI_inv (show _ from hl1); obtain ⟨_, _, hl3⟩ := asB_inv (show _ from hl2); obtain ⟨_, _, hl4⟩ := asB_inv (show _ from hl3); exact hl4
      | 2, hl => obtain ⟨_, _, hl0⟩ := asI_inv (show _ from hl); obtain ⟨_, _, hl1⟩ := asI_inv (show _ from hl0); obtain ⟨_, _, hl2⟩ := asI_inv (show _ from hl1); obtain ⟨_, _, hl3⟩ := asB_inv (show _ from hl2); obtain ⟨_, _, hl4⟩ := asB_inv (show _ from hl3); obtain ⟨_, _, hl5⟩ := asI_inv (show _ from hl4); obtain ⟨_, _, hl6⟩ := asI_inv (show _ from hl5); exact hl6
      | 3, hl => obtain ⟨_, _, hl0⟩ := asI_inv (show _ from hl); obtain ⟨_, _, hl1⟩ := asI_inv (show _ from hl0); obtain ⟨_, _, hl2⟩ := asI_inv (show _ from hl1); obtain ⟨_, _, hl3⟩ := asB_inv (show _ from hl2); obtain ⟨_, _, hl4⟩ := asB_inv (show _ from hl3); obtain ⟨_, _, hl5⟩ := asI_inv (show _ from hl4); obtain ⟨_, _, hl6⟩ := asI_inv (show _ from hl5); obtain ⟨_, _, hl7⟩ := asI_inv (show _ from hl6); exact hl7
      | 4, hl => obtain ⟨_, _, hl0⟩ := asI_inv (show _ from hl); obtain ⟨_, _, hl1⟩ := asI_inv (show _ from hl0); obtain ⟨_, _, hl2⟩ := asI_inv (show _ from hl1); obtain ⟨_, _, hl3⟩ := asB_inv (show _ from hl2); obtain ⟨_, _, hl4⟩ := asB_inv (show _ from hl3); obtain ⟨_, _, hl5⟩ := asI_inv (show _ from hl4); exact hl5
      | _ + 5, hl => exact hl)
    (fun n p L hm f h hl => by
      simp only [u90, List.mem_cons, Prod.mk.injEq, List.not_mem_nil, or_false] at hm
      rcases hm with ⟨rfl, rfl⟩ | ⟨rfl, rfl⟩ | ⟨rfl, rfl⟩ | ⟨rfl, rfl⟩ | ⟨rfl, rfl⟩
      · have hl : f90 (r90 c k (n + 1)) 0 f h := hl
        obtain ⟨n_1, e_1, hl1⟩ := asI_inv hl
        obtain ⟨n_2, e_2, hl2⟩ := asI_inv hl1
        obtain ⟨n_3, e_3, hl3⟩ := asI_inv hl2
        have hh := e90_0 c k (r90 c k n) f h (f 0) n_1 n_2 n_3
        rw [fset_self (rfl : f 0 = f 0)] at hh
        rw [fset_self e_1] at hh
        rw [fset_self e_2] at hh
        rw [fset_self e_3] at hh
        exact Eq.mpr hh hl3
      · have hl : f90 (r90 c k (n + 1)) 1 f h := hl
        obtain ⟨n_1, e_1, hl1⟩ := asI_inv hl
        obtain ⟨n_2, e_2, hl2⟩ := asI_inv hl1
        obtain ⟨n_3, e_3, hl3⟩ := asI_inv hl2
        obtain ⟨b_8, e_8, hl4⟩ := asB_inv hl3
        obtain ⟨b_9, e_9, hl5⟩ := asB_inv hl4
        have hh := e90_1 c k (r90 c k n) f h (f 0) n_1 n_2 n_3 b_8 b_9
        rw [fset_self (rfl : f 0 = f 0)] at hh
        rw [fset_self e_1] at hh
        rw [fset_self e_2] at hh
        rw [fset_self e_3] at hh
        rw [fset_self e_8] at hh
        rw [fset_self e_9] at hh
        exact Eq.mpr hh hl5
      · have hl : f90 (r90 c k (n + 1)) 2 f h := hl
        obtain ⟨n_1, e_1, hl1⟩ := asI_inv hl
        obtain ⟨n_2, e_2, hl2⟩ := asI_inv hl1
        obtain ⟨n_3, e_3, hl3⟩ := asI_inv hl2
        obtain ⟨b_8, e_8, hl4⟩ := asB_inv hl3
        obtain ⟨b_9, e_9, hl5⟩ := asB_inv hl4
        obtain ⟨n_10, e_10, hl6⟩ := asI_inv hl5
        obtain ⟨n_11, e_11, hl7⟩ := asI_inv hl6
        have hh := e90_2 c k (r90 c k n) f h (f 0) n_1 n_2 n_3 b_8 b_9 n_10 n_11
        rw [fset_self (rfl : f 0 = f 0)] at hh
        rw [fset_self e_1] at hh
        rw [fset_self e_2] at hh
        rw [fset_self e_3] at hh
        rw [fset_self e_8] at hh
        rw [fset_self e_9] at hh
        rw [fset_self e_10] at hh
        rw [fset_self e_11] at hh
        exact Eq.mpr hh hl7
      · have hl : f90 (r90 c k (n + 1)) 3 f h := hl
        obtain ⟨n_1, e_1, hl1⟩ := asI_inv hl
        obtain ⟨n_2, e_2, hl2⟩ := asI_inv hl1
        obtain ⟨n_3, e_3, hl3⟩ := asI_inv hl2
        obtain ⟨b_8, e_8, hl4⟩ := asB_inv hl3
        obtain ⟨b_9, e_9, hl5⟩ := asB_inv hl4
        obtain ⟨n_10, e_10, hl6⟩ := asI_inv hl5
        obtain ⟨n_11, e_11, hl7⟩ := asI_inv hl6
        obtain ⟨n_12, e_12, hl8⟩ := asI_inv hl7
        have hh := e90_3 c k (r90 c k n) f h (f 0) n_1 n_2 n_3 b_8 b_9 n_10 n_11 n_12
        rw [fset_self (rfl : f 0 = f 0)] at hh
        rw [fset_self e_1] at hh
        rw [fset_self e_2] at hh
        rw [fset_self e_3] at hh
        rw [fset_self e_8] at hh
        rw [fset_self e_9] at hh
        rw [fset_self e_10] at hh
        rw [fset_self e_11] at hh
        rw [fset_self e_12] at hh
        exact Eq.mpr hh hl8
      · have hl : f90 (r90 c k (n + 1)) 4 f h := hl
        obtain ⟨n_1, e_1, hl1⟩ := asI_inv hl
        obtain ⟨n_2, e_2, hl2⟩ := asI_inv hl1
        obtain ⟨n_3, e_3, hl3⟩ := asI_inv hl2
        obtain ⟨b_8, e_8, hl4⟩ := asB_inv hl3
        obtain ⟨b_9, e_9, hl5⟩ := asB_inv hl4
        obtain ⟨n_10, e_10, hl6⟩ := asI_inv hl5
        have hh := e90_4 c k (r90 c k n) f h (f 0) n_1 n_2 n_3 b_8 b_9 n_10
        rw [fset_self (rfl : f 0 = f 0)] at hh
        rw [fset_self e_1] at hh
        rw [fset_self e_2] at hh
        rw [fset_self e_3] at hh
        rw [fset_self e_8] at hh
        rw [fset_self e_9] at hh
        rw [fset_self e_10] at hh
        exact Eq.mpr hh hl6
    ) (by simp [u90]) hg

theorem e93_0 (c : Caller Prop FT) (k : KV) (J : J93) (f : FT) (h : H) (v_0 : AV) (l_1 : Nat) (c_1 : Nat) : chunkA env c q93 u93 (f93 J) d93 (retA env Go.Proofs.Tryz.f93.results.toList k) .root (fset (fset f 0 v_0) 1 (.str l_1 c_1)) h = s93_0 c k J v_0 l_1 c_1 h := by kernel_rfl
theorem w93 {c : Caller Prop FT} (hc : CallOk Go.Proofs.Tryz.prog (CP env) G (fun p => p) c) {k : KV} {n : Nat} {args : List AV} {h : H} (hg : f93 (r93 c k n) 0 (finit args) h) : SW Go.Proofs.Tryz.prog G (.func 93) args h k :=
  fn_ok mixed envOk hc q93 Go.Proofs.Tryz.func93 rfl (by kernel_rfl) (by kernel_rfl) k u93 (fun n => f93 (r93 c k n))
    (fun L f h hl => by
      match L, hl with
      | 0, hl => obtain ⟨_, _, _, hl0⟩ := asS_inv (show _ from hl); exact hl0
      | _ + 1, hl => exact hl)
    (fun n p L hm f h hl => by
      simp only [u93, List.mem_cons, Prod.mk.injEq, List.not_mem_nil, or_false] at hm
      rcases hm with ⟨rfl, rfl⟩
      · have hl : f93 (r93 c k (n + 1)) 0 f h := hl
        obtain ⟨l_1, c_1, e_1, hl1⟩ := asS_inv hl
        have hh := e93_0 c k (r93 c k n) f h (f 0) l_1 c_1
        rw [fset_self (rfl : f 0 = f 0)] at hh
        rw [fset_self e_1] at hh
        exact Eq.mpr hh hl1
    ) (by simp [u93]) hg

theorem e102_0 (c : Caller Prop FT) (k : KV) (J : J102) (f : FT) (h : H) (v_0 : AV) : chunkA env c q102 u102 (f102 J) d102 (retA env Go.Proofs.Tryz.f102.results.toList k) .root (fset f 0 v_0) h = s102_0 c k J v_0 h := by kernel_rfl
theorem w102 {c : Caller Prop FT} (hc : CallOk Go.Proofs.Tryz.prog (CP env) G (fun p => p) c) {k : KV} {n : Nat} {args : List AV} {h : H} (hg : f102 (r102 c k n) 0 (finit args) h) : SW Go.Proofs.Tryz.prog G (.func 102) args h k :=
  fn_ok mixed envOk hc q102 Go.Proofs.Tryz.func102 rfl (by kernel_rfl) (by kernel_rfl) k u102 (fun n => f102 (r102 c k n))
    (fun L f h hl => by
      match L, hl with
      | 0, hl => exact hl
      | _ + 1, hl => exact hl)
    (fun n p L hm f h hl => by
      simp only [u102, List.mem_cons, Prod.mk.injEq, List.not_mem_nil, or_false] at hm
      rcases hm with ⟨rfl, rfl⟩
      · have hl : f102 (r102 c k (n + 1)) 0 f h := hl
        have hh := e102_0 c k (r102 c k n) f h (f 0)
        rw [fset_self (rfl : f 0 = f 0)] at hh
        exact Eq.mpr hh hl
    ) (by simp [u102]) hg

theorem w111 {c : Caller Prop FT} (hc : CallOk Go.Proofs.Tryz.prog (CP env) G (fun p => p) c) {k : KV} {m : Nat} {a : List AV} {h : H} (hg : runJ env c q111 u111 d111 (retA env Go.Proofs.Tryz.f111.results.toList k) m 0 (finit a) h) : SW Go.Proofs.Tryz.prog G (.func 111) a h k := fnI_ok mixed envOk hc q111 Go.Proofs.Tryz.func111 rfl (by kernel_rfl) (by kernel_rfl) (by kernel_rfl) (by simp [u111]) hg
theorem e112_0 (c : Caller Prop FT) (k : KV) (J : J112) (f : FT) (h : H) (v_0 : AV) (n_1 : Int) : chunkA env c q112 u112 (f112 J) d112 (retA env Go.Proofs.Tryz.f112.results.toList k) .root (fset (fset f 0 v_0) 1 (.int .i64 n_1)) h = s112_0 c k J v_0 n_1 h := by kernel_rfl
theorem w112 {c : Caller Prop FT} (hc : CallOk Go.Proofs.Tryz.prog (CP env) G (fun p => p) c) {k : KV} {n : Nat} {args : List AV} {h : H} (hg : f112 (r112 c k n) 0 (finit args) h) : SW Go.Proofs.Tryz.prog G (.func 112) args h k :=
  fn_ok mixed envOk hc q112 Go.Proofs.Tryz.func112 rfl (by kernel_rfl) (by kernel_rfl) k u112 (fun n => f112 (r112 c k n))
    (fun L f h hl => by
      match L, hl with
      | 0, hl => obtain ⟨_, _, hl0⟩ := asI_inv (show _ from hl); exact hl0
      | _ + 1, hl => exact hl)
    (fun n p L hm f h hl => by
      simp only [u112, List.mem_cons, Prod.mk.injEq, List.not_mem_nil, or_false] at hm
      rcases hm with ⟨rfl, rfl⟩
      · have hl : f112 (r112 c k (n + 1)) 0 f h := hl
        obtain ⟨n_1, e_1, hl1⟩ := asI_inv hl
        have hh := e112_0 c k (r112 c k n) f h (f 0) n_1
        rw [fset_self (rfl : f 0 = f 0)] at hh
        rw [fset_self e_1] at hh
        exact Eq.mpr hh hl1
    ) (by simp [u112]) hg

theorem e123_0 (c : Caller Prop FT) (k : KV) (J : J123) (f : FT) (h : H) (n_0 : Int) : chunkA env c q123 u123 (f123 J) d123 (retA env Go.Proofs.Tryz.f123.results.toList k) .root (fset f 0 (.int .u64 n_0)) h = s123_0 c k J n_0 h := by kernel_rfl
theorem e123_1 (c : Caller Prop FT) (k : KV) (J : J123) (f : FT) (h : H) (n_0 : Int) (n_2 : Int) : chunkA env c q123 u123 (f123 J) d123 (retA env Go.Proofs.Tryz.f123.results.toList k) (.r (.r (.r (.r .root)))) (fset (fset f 0 (.int .u64 n_0)) 2 (.int .i64 n_2)) h = s123_1 c k J n_0 n_2 h := by kernel_rfl
theorem e123_2 (c : Caller Prop FT) (k : KV) (J : J123) (f : FT) (h : H) (n_0 : Int) (n_2 : Int) : chunkA env c q123 u123 (f123 J) d123 (retA env Go.Proofs.Tryz.f123.results.toList k) (.r (.r (.r .root))) (fset (fset f 0 (.int .u64 n_0)) 2 (.int .i64 n_2)) h = s123_2 c k J n_0 n_2 h := by kernel_rfl
theorem e123_3 (c : Caller Prop FT) (k : KV) (J : J123) (f : FT) (h : H) (n_0 : Int) (n_2 : Int) : chunkA env c q123 u123 (f123 J) d123 (retA env Go.Proofs.Tryz.f123.results.toList k) (.r (.r .root)) (fset (fset f 0 (.int .u64 n_0)) 2 (.int .i64 n_2)) h = s123_3 c k J n_0 n_2 h := by kernel_rfl
theorem w123 {c : Caller Prop FT} (hc : CallOk Go.Proofs.Tryz.prog (CP env) G (fun p => p) c) {k : KV} {n : Nat} {args : List AV} {h : H} (hg : f123 (r123 c k n) 0 (finit args) h) : SW Go.Proofs.Tryz.prog G (.func 123) args h k :=
  fn_ok mixed envOk hc q123 Go.Proofs.Tryz.func123 rfl (by kernel_rfl) (by kernel_rfl) k u123 (fun n => f123 (r123 c k n))
    (fun L f h hl => by
      match L, hl with
      | 0, hl => obtain ⟨_, _, hl0⟩ := asI_inv (show _ from hl); exact hl0
      | 1, hl => obtain ⟨_, _, hl0⟩ := asI_inv (show _ from hl); obtain ⟨_, _, hl1⟩ := asI_inv (show _ from hl0); exact hl1
      | 2, hl => obtain ⟨_, _, hl0⟩ := asI_inv (show _ from hl); obtain ⟨_, _, hl1⟩ := asI_inv (show _ from hl0); exact hl1
      | 3, hl => obtain ⟨_, _, hl0⟩ := asI_inv (show _ from hl); obtain ⟨_, _, hl1⟩ := asI_inv (show _ from hl0); exact hl1
      | _ + 4, hl => exact hl)
    (fun n p L hm f h hl => by
      simp only [u123, List.mem_cons, Prod.mk.injEq, List.not_mem_nil, or_false] at hm
      rcases hm with ⟨rfl, rfl⟩ | ⟨rfl, rfl⟩ | ⟨rfl, rfl⟩ | ⟨rfl, rfl⟩
      · have hl : f123 (r123 c k (n + 1)) 0 f h := hl
        obtain ⟨n_0, e_0, hl0⟩ := asI_inv hl
        have hh := e123_0 c k (r123 c k n) f h n_0
        rw [fset_self e_0] at hh
        exact Eq.mpr hh hl0
      · have hl : f123 (r123 c k (n + 1)) 1 f h := hl
        obtain ⟨n_0, e_0, hl0⟩ := asI_inv hl
        obtain ⟨n_2, e_2, hl1⟩ := asI_inv hl0
        have hh := e123_1 c k (r123 c k n) f h n_0 n_2
        rw [fset_self e_0] at hh
        rw [fset_self e_2] at hh
        exact Eq.mpr hh hl1
      · have hl : f123 (r123 c k (n + 1)) 2 f h := hl
        obtain ⟨n_0, e_0, hl0⟩ := asI_inv hl
        obtain ⟨n_2, e_2, hl1⟩ := asI_inv hl0
        have hh := e123_2 c k (r123 c k n) f h n_0 n_2
        rw [fset_self e_0] at hh
        rw [fset_self e_2] at hh
        exact Eq.mpr hh hl1
      · have hl : f123 (r123 c k (n + 1)) 3 f h := hl
        obtain ⟨n_0, e_0, hl0⟩ := asI_inv hl
        obtain ⟨n_2, e_2, hl1⟩ := asI_inv hl0
        have hh := e123_3 c k (r123 c k n) f h n_0 n_2
        rw [fset_self e_0] at hh
        rw [fset_self e_2] at hh
        exact Eq.mpr hh hl1
    ) (by simp [u123]) hg

theorem e124_0 (c : Caller Prop FT) (k : KV) (J : J124) (f : FT) (h : H) (n_0 : Int) : chunkA env c q124 u124 (f124 J) d124 (retA env Go.Proofs.Tryz.f124.results.toList k) .root (fset f 0 (.int .u8 n_0)) h = s124_0 c k J n_0 h := by kernel_rfl
theorem w124 {c : Caller Prop FT} (hc : CallOk Go.Proofs.Tryz.prog (CP env) G (fun p => p) c) {k : KV} {n : Nat} {args : List AV} {h : H} (hg : f124 (r124 c k n) 0 (finit args) h) : SW Go.Proofs.Tryz.prog G (.func 124) args h k :=
  fn_ok mixed envOk hc q124 Go.Proofs.Tryz.func124 rfl (by kernel_rfl) (by kernel_rfl) k u124 (fun n => f124 (r124 c k n))
    (fun L f h hl => by
      match L, hl with
      | 0, hl => obtain ⟨_, _, hl0⟩ := asI_inv (show _ from hl); exact hl0
      | _ + 1, hl => exact hl)
    (fun n p L hm f h hl => by
      simp only [u124, List.mem_cons, Prod.mk.injEq, List.not_mem_nil, or_false] at hm
      rcases hm with ⟨rfl, rfl⟩
      · have hl : f124 (r124 c k (n + 1)) 0 f h := hl
        obtain ⟨n_0, e_0, hl0⟩ := asI_inv hl
        have hh := e124_0 c k (r124 c k n) f h n_0
        rw [fset_self e_0] at hh
        exact Eq.mpr hh hl0
    ) (by simp [u124]) hg

theorem e125_0 (c : Caller Prop FT) (k : KV) (J : J125) (f : FT) (h : H) (v_0 : AV) : chunkA env c q125 u125 (f125 J) d125 (retA env Go.Proofs.Tryz.f125.results.toList k) .root (fset f 0 v_0) h = s125_0 c k J v_0 h := by kernel_rfl
theorem e125_1 (c : Caller Prop FT) (k : KV) (J : J125) (f : FT) (h : H) (v_0 : AV) : chunkA env c q125 u125 (f125 J) d125 (retA env Go.Proofs.Tryz.f125.results.toList k) (.l (.l (.l (.r (.l (.l (.r (.r .root)))))))) (fset f 0 v_0) h = s125_1 c k J v_0 h := by kernel_rfl
theorem e125_2 (c : Caller Prop FT) (k : KV) (J : J125) (f : FT) (h : H) (v_0 : AV) (n_4 : Int) : chunkA env c q125 u125 (f125 J) d125 (retA env Go.Proofs.Tryz.f125.results.toList k) (.l (.r (.l (.r (.r (.r .root)))))) (fset (fset f 0 v_0) 4 (.int .i64 n_4)) h = s125_2 c k J v_0 n_4 h := by kernel_rfl
theorem w125 {c : Caller Prop FT} (hc : CallOk Go.Proofs.Tryz.prog (CP env) G (fun p => p) c) {k : KV} {n : Nat} {args : List AV} {h : H} (hg : f125 (r125 c k n) 0 (finit args) h) : SW Go.Proofs.Tryz.prog G (.func 125) args h k :=
  fn_ok mixed envOk hc q125 Go.Proofs.Tryz.func125 rfl (by kernel_rfl) (by kernel_rfl) k u125 (fun n => f125 (r125 c k n))
    (fun L f h hl => by
      match L, hl with
      | 0, hl => exact hl
      | 1, hl => exact hl
      | 2, hl => obtain ⟨_, _, hl0⟩ := asI_inv (show _ from hl); exact hl0
      | _ + 3, hl => exact hl)
    (fun n p L hm f h hl => by
      simp only [u125, List.mem_cons, Prod.mk.injEq, List.not_mem_nil, or_false] at hm
      rcases hm with ⟨rfl, rfl⟩ | ⟨rfl, rfl⟩ | ⟨rfl, rfl⟩
      · have hl : f125 (r125 c k (n + 1)) 0 f h := hl
        have hh := e125_0 c k (r125 c k n) f h (f 0)
        rw [fset_self (rfl : f 0 = f 0)] at hh
        exact Eq.mpr hh hl
      · have hl : f125 (r125 c k (n + 1)) 1 f h := hl
        have hh := e125_1 c k (r125 c k n) f h (f 0)
        rw [fset_self (rfl : f 0 = f 0)] at hh
        exact Eq.mpr hh hl
      · have hl : f125 (r125 c k (n + 1)) 2 f h := hl
        obtain ⟨n_4, e_4, hl1⟩ := asI_inv hl
        have hh := e125_2 c k (r125 c k n) f h (f 0) n_4
        rw [fset_self (rfl : f 0 = f 0)] at hh
        rw [fset_self e_4] at hh
        exact Eq.mpr hh hl1
    ) (by simp [u125]) hg

theorem e127_0 (c : Caller Prop FT) (k : KV) (J : J127) (f : FT) (h : H) (v_0 : AV) (n_1 : Int) (n_2 : Int) : chunkA env c q127 u127 (f127 J) d127 (retA env Go.Proofs.Tryz.f127.results.toList k) .root (fset (fset (fset f 0 v_0) 1 (.int .i64 n_1)) 2 (.int .i64 n_2)) h = s127_0 c k J v_0 n_1 n_2 h := by kernel_rfl
theorem w127 {c : Caller Prop FT} (hc : CallOk Go.Proofs.Tryz.prog (CP env) G (fun p => p) c) {k : KV} {n : Nat} {args : List AV} {h : H} (hg : f127 (r127 c k n) 0 (finit args) h) : SW Go.Proofs.Tryz.prog G (.func 127) args h k :=
  fn_ok mixed envOk hc q127 Go.Proofs.Tryz.func127 rfl (by kernel_rfl) (by kernel_rfl) k u127 (fun n => f127 (r127 c k n))
    (fun L f h hl => by
      match L, hl with
      | 0, hl => obtain ⟨_, _, hl0⟩ := asI_inv (show _ from hl); obtain ⟨_, _, hl1⟩ := asI_inv (show _ from hl0); exact hl1
      | _ + 1, hl => exact hl)
    (fun n p L hm f h hl => by
      simp only [u127, List.mem_cons, Prod.mk.injEq, List.not_mem_nil, or_false] at hm
      rcases hm with ⟨rfl, rfl⟩
      · have hl : f127 (r127 c k (n + 1)) 0 f h := hl
        obtain ⟨n_1, e_1, hl1⟩ := asI_inv hl
        obtain ⟨n_2, e_2, hl2⟩ := asI_inv hl1
        have hh := e127_0 c k (r127 c k n) f h (f 0) n_1 n_2
        rw [fset_self (rfl : f 0 = f 0)] at hh
        rw [fset_self e_1] at hh
        rw [fset_self e_2] at hh
        exact Eq.mpr hh hl2
    ) (by simp [u127]) hg

theorem w140 {c : Caller Prop FT} (hc : CallOk Go.Proofs.Tryz.prog (CP env) G (fun p => p) c) {k : KV} {m : Nat} {a : List AV} {h : H} (hg : runJ env c q140 u140 d140 (retA env Go.Proofs.Tryz.f140.results.toList k) m 0 (finit a) h) : SW Go.Proofs.Tryz.prog G (.func 140) a h k := fnI_ok mixed envOk hc q140 Go.Proofs.Tryz.func140 rfl (by kernel_rfl) (by kernel_rfl) (by kernel_rfl) (by simp [u140]) hg
theorem w143 {c : Caller Prop FT} (hc : CallOk Go.Proofs.Tryz.prog (CP env) G (fun p => p) c) {k : KV} {m : Nat} {a : List AV} {h : H} (hg : runJ env c q143 u143 d143 (retA env Go.Proofs.Tryz.f143.results.toList k) m 0 (finit a) h) : SW Go.Proofs.Tryz.prog G (.func 143) a h k := fnI_ok mixed envOk hc q143 Go.Proofs.Tryz.func143 rfl (by kernel_rfl) (by kernel_rfl) (by kernel_rfl) (by simp [u143]) hg
theorem w146 {c : Caller Prop FT} (hc : CallOk Go.Proofs.Tryz.prog (CP env) G (fun p => p) c) {k : KV} {m : Nat} {a : List AV} {h : H} (hg : runJ env c q146 u146 d146 (retA env Go.Proofs.Tryz.f146.results.toList k) m 0 (finit a) h) : SW Go.Proofs.Tryz.prog G (.func 146) a h k := fnI_ok mixed envOk hc q146 Go.Proofs.Tryz.func146 rfl (by kernel_rfl) (by kernel_rfl) (by kernel_rfl) (by simp [u146]) hg
theorem e153_0 (c : Caller Prop FT) (k : KV) (J : J153) (f : FT) (h : H) (v_0 : AV) : chunkA env c q153 u153 (f153 J) d153 (retA env Go.Proofs.Tryz.f153.results.toList k) .root (fset f 0 v_0) h = s153_0 c k J v_0 h := by kernel_rfl
theorem e153_1 (c : Caller Prop FT) (k : KV) (J : J153) (f : FT) (h : H) (v_0 : AV) (v_7 : AV) (n_8 : Int) (n_9 : Int) : chunkA env c q153 u153 (f153 J) d153 (retA env Go.Proofs.Tryz.f153.results.toList k) (.l (.r (.r .root))) (fset (fset (fset (fset f 0 v_0) 7 v_7) 8 (.int .i64 n_8)) 9 (.int .i64 n_9)) h = s153_1 c k J v_0 v_7 n_8 n_9 h := by kernel_rfl
theorem w153 {c : Caller Prop FT} (hc : CallOk Go.Proofs.Tryz.prog (CP env) G (fun p => p) c) {k : KV} {n : Nat} {args : List AV} {h : H} (hg : f153 (r153 c k n) 0 (finit args) h) : SW Go.Proofs.Tryz.prog G (.func 153) args h k :=
  fn_ok mixed envOk hc q153 Go.Proofs.Tryz.func153 rfl (by kernel_rfl) (by kernel_rfl) k u153 (fun n => f153 (r153 c k n))
    (fun L f h hl => by
      match L, hl with
      | 0, hl => exact hl
      | 1, hl => obtain ⟨_, _, hl0⟩ := asI_inv (show _ from hl); obtain ⟨_, _, hl1⟩ := asI_inv (show _ from hl0); exact hl1
      | _ + 2, hl => exact hl)
    (fun n p L hm f h hl => by
      simp only [u153, List.mem_cons, Prod.mk.injEq, List.not_mem_nil, or_false] at hm
      rcases hm with ⟨rfl, rfl⟩ | ⟨rfl, rfl⟩
      · have hl : f153 (r153 c k (n + 1)) 0 f h := hl
        have hh := e153_0 c k (r153 c k n) f h (f 0)
        rw [fset_self (rfl : f 0 = f 0)] at hh
        exact Eq.mpr hh hl
      · have hl : f153 (r153 c k (n + 1)) 1 f h := hl
        obtain ⟨n_8, e_8, hl2⟩ := asI_inv hl
        obtain ⟨n_9, e_9, hl3⟩ := asI_inv hl2
        have hh := e153_1 c k (r153 c k n) f h (f 0) (f 7) n_8 n_9
        rw [fset_self (rfl : f 0 = f 0)] at hh
        rw [fset_self (rfl : f 7 = f 7)] at hh
        rw [fset_self e_8] at hh
        rw [fset_self e_9] at hh
        exact Eq.mpr hh hl3
    ) (by simp [u153]) hg

theorem w157 {c : Caller Prop FT} (hc : CallOk Go.Proofs.Tryz.prog (CP env) G (fun p => p) c) {k : KV} {m : Nat} {a : List AV} {h : H} (hg : runJ env c q157 u157 d157 (retA env Go.Proofs.Tryz.f157.results.toList k) m 0 (finit a) h) : SW Go.Proofs.Tryz.prog G (.func 157) a h k := fnI_ok mixed envOk hc q157 Go.Proofs.Tryz.func157 rfl (by kernel_rfl) (by kernel_rfl) (by kernel_rfl) (by simp [u157]) hg
theorem w162 {c : Caller Prop FT} (hc : CallOk Go.Proofs.Tryz.prog (CP env) G (fun p => p) c) {k : KV} {m : Nat} {a : List AV} {h : H} (hg : runJ env c q162 u162 d162 (retA env Go.Proofs.Tryz.f162.results.toList k) m 0 (finit a) h) : SW Go.Proofs.Tryz.prog G (.func 162) a h k := fnI_ok mixed envOk hc q162 Go.Proofs.Tryz.func162 rfl (by kernel_rfl) (by kernel_rfl) (by kernel_rfl) (by simp [u162]) hg
theorem e170_0 (c : Caller Prop FT) (k : KV) (J : J170) (f : FT) (h : H) (v_0 : AV) (l_1 : Nat) (c_1 : Nat) : chunkA env c q170 u170 (f170 J) d170 (retA env Go.Proofs.Tryz.f170.results.toList k) .root (fset (fset f 0 v_0) 1 (.str l_1 c_1)) h = s170_0 c k J v_0 l_1 c_1 h := by kernel_rfl
theorem e170_1 (c : Caller Prop FT) (k : KV) (J : J170) (f : FT) (h : H) (v_0 : AV) (l_1 : Nat) (c_1 : Nat) (n_20 : Int) (n_21 : Int) : chunkA env c q170 u170 (f170 J) d170 (retA env Go.Proofs.Tryz.f170.results.toList k) (.l (.r (.l (.r (.r .root))))) (fset (fset (fset (fset f 0 v_0) 1 (.str l_1 c_1)) 20 (.int .i64 n_20)) 21 (.int .i64 n_21)) h = s170_1 c k J v_0 l_1 c_1 n_20 n_21 h := by kernel_rfl
theorem w170 {c : Caller Prop FT} (hc : CallOk Go.Proofs.Tryz.prog (CP env) G (fun p => p) c) {k : KV} {n : Nat} {args : List AV} {h : H} (hg : f170 (r170 c k n) 0 (finit args) h) : SW Go.Proofs.Tryz.prog G (.func 170) args h k :=
  fn_ok mixed envOk hc q170 Go.Proofs.Tryz.func170 rfl (by kernel_rfl) (by kernel_rfl) k u170 (fun n => f170 (r170 c k n))
    (fun L f h hl => by
      match L, hl with
      | 0, hl => obtain ⟨_, _, _, hl0⟩ := asS_inv (show _ from hl); exact hl0
      | 1, hl => obtain ⟨_, _, _, hl0⟩ := asS_inv (show _ from hl); obtain ⟨_, _, hl1⟩ := asI_inv (show _ from hl0); obtain ⟨_, _, hl2⟩ := asI_inv (show _ from hl1); exact hl2
      | _ + 2, hl => exact hl)
    (fun n p L hm f h hl => by
      simp only [u170, List.mem_cons, Prod.mk.injEq, List.not_mem_nil, or_false] at hm
      rcases hm with ⟨rfl, rfl⟩ | ⟨rfl, rfl⟩
      · have hl : f170 (r170 c k (n + 1)) 0 f h := hl
        obtain ⟨l_1, c_1, e_1, hl1⟩ := asS_inv hl
        have hh := e170_0 c k (r170 c k n) f h (f 0) l_1 c_1
        rw [fset_self (rfl : f 0 = f 0)] at hh
        rw [fset_self e_1] at hh
        exact Eq.mpr hh hl1
      · have hl : f170 (r170 c k (n + 1)) 1 f h := hl
        obtain ⟨l_1, c_1, e_1, hl1⟩ := asS_inv hl
        obtain ⟨n_20, e_20, hl2⟩ := asI_inv hl1
        obtain ⟨n_21, e_21, hl3⟩ := asI_inv hl2
        have hh := e170_1 c k (r170 c k n) f h (f 0) l_1 c_1 n_20 n_21
        rw [fset_self (rfl : f 0 = f 0)] at hh
        rw [fset_self e_1] at hh
        rw [fset_self e_20] at hh
        rw [fset_self e_21] at hh
        exact Eq.mpr hh hl3
    ) (by simp [u170]) hg

theorem e174_0 (c : Caller Prop FT) (k : KV) (J : J174) (f : FT) (h : H) (n_0 : Int) : chunkA env c q174 u174 (f174 J) d174 (retA env Go.Proofs.Tryz.f174.results.toList k) .root (fset f 0 (.int .u8 n_0)) h = s174_0 c k J n_0 h := by kernel_rfl
theorem w174 {c : Caller Prop FT} (hc : CallOk Go.Proofs.Tryz.prog (CP env) G (fun p => p) c) {k : KV} {n : Nat} {args : List AV} {h : H} (hg : f174 (r174 c k n) 0 (finit args) h) : SW Go.Proofs.Tryz.prog G (.func 174) args h k :=
  fn_ok mixed envOk hc q174 Go.Proofs.Tryz.func174 rfl (by kernel_rfl) (by kernel_rfl) k u174 (fun n => f174 (r174 c k n))
    (fun L f h hl => by
      match L, hl with
      | 0, hl => obtain ⟨_, _, hl0⟩ := asI_inv (show _ from hl); exact hl0
      | _ + 1, hl => exact hl)
    (fun n p L hm f h hl => by
      simp only [u174, List.mem_cons, Prod.mk.injEq, List.not_mem_nil, or_false] at hm
      rcases hm with ⟨rfl, rfl⟩
      · have hl : f174 (r174 c k (n + 1)) 0 f h := hl
        obtain ⟨n_0, e_0, hl0⟩ := asI_inv hl
        have hh := e174_0 c k (r174 c k n) f h n_0
        rw [fset_self e_0] at hh
        exact Eq.mpr hh hl0
    ) (by simp [u174]) hg

theorem e176_0 (c : Caller Prop FT) (k : KV) (J : J176) (f : FT) (h : H) (v_0 : AV) : chunkA env c q176 u176 (f176 J) d176 (retA env Go.Proofs.Tryz.f176.results.toList k) .root (fset f 0 v_0) h = s176_0 c k J v_0 h := by kernel_rfl
theorem e176_1 (c : Caller Prop FT) (k : KV) (J : J176) (f : FT) (h : H) (v_0 : AV) (v_8 : AV) (n_9 : Int) (n_10 : Int) : chunkA env c q176 u176 (f176 J) d176 (retA env Go.Proofs.Tryz.f176.results.toList k) (.l (.r (.l (.r (.r .root))))) (fset (fset (fset (fset f 0 v_0) 8 v_8) 9 (.int .i64 n_9)) 10 (.int .i64 n_10)) h = s176_1 c k J v_0 v_8 n_9 n_10 h := by kernel_rfl
theorem w176 {c : Caller Prop FT} (hc : CallOk Go.Proofs.Tryz.prog (CP env) G (fun p => p) c) {k : KV} {n : Nat} {args : List AV} {h : H} (hg : f176 (r176 c k n) 0 (finit args) h) : SW Go.Proofs.Tryz.prog G (.func 176) args h k :=
  fn_ok mixed envOk hc q176 Go.Proofs.Tryz.func176 rfl (by kernel_rfl) (by kernel_rfl) k u176 (fun n => f176 (r176 c k n))
    (fun L f h hl => by
      match L, hl with
      | 0, hl => exact hl
      | 1, hl => obtain ⟨_, _, hl0⟩ := asI_inv (show _ from hl); obtain ⟨_, _, hl1⟩ := asI_inv (show _ from hl0); exact hl1
      | _ + 2, hl => exact hl)
    (fun n p L hm f h hl => by
      simp only [u176, List.mem_cons, Prod.mk.injEq, List.not_mem_nil, or_false] at hm
      rcases hm with ⟨rfl, rfl⟩ | ⟨rfl, rfl⟩
      · have hl : f176 (r176 c k (n + 1)) 0 f h := hl
        have hh := e176_0 c k (r176 c k n) f h (f 0)
        rw [fset_self (rfl : f 0 = f 0)] at hh
        exact Eq.mpr hh hl
      · have hl : f176 (r176 c k (n + 1)) 1 f h := hl
        obtain ⟨n_9, e_9, hl2⟩ := asI_inv hl
        obtain ⟨n_10, e_10, hl3⟩ := asI_inv hl2
        have hh := e176_1 c k (r176 c k n) f h (f 0) (f 8) n_9 n_10
        rw [fset_self (rfl : f 0 = f 0)] at hh
        rw [fset_self (rfl : f 8 = f 8)] at hh
        rw [fset_self e_9] at hh
        rw [fset_self e_10] at hh
        exact Eq.mpr hh hl3
    ) (by simp [u176]) hg

theorem w184 {c : Caller Prop FT} (hc : CallOk Go.Proofs.Tryz.prog (CP env) G (fun p => p) c) {k : KV} {m : Nat} {a : List AV} {h : H} (hg : runJ env c q184 u184 d184 (retA env Go.Proofs.Tryz.f184.results.toList k) m 0 (finit a) h) : SW Go.Proofs.Tryz.prog G (.func 184) a h k := fnI_ok mixed envOk hc q184 Go.Proofs.Tryz.func184 rfl (by kernel_rfl) (by kernel_rfl) (by kernel_rfl) (by simp [u184]) hg
theorem w187 {c : Caller Prop FT} (hc : CallOk Go.Proofs.Tryz.prog (CP env) G (fun p => p) c) {k : KV} {m : Nat} {a : List AV} {h : H} (hg : runJ env c q187 u187 d187 (retA env Go.Proofs.Tryz.f187.results.toList k) m 0 (finit a) h) : SW Go.Proofs.Tryz.prog G (.func 187) a h k := fnI_ok mixed envOk hc q187 Go.Proofs.Tryz.func187 rfl (by kernel_rfl) (by kernel_rfl) (by kernel_rfl) (by simp [u187]) hg
theorem w191 {c : Caller Prop FT} (hc : CallOk Go.Proofs.Tryz.prog (CP env) G (fun p => p) c) {k : KV} {m : Nat} {a : List AV} {h : H} (hg : runJ env c q191 u191 d191 (retA env Go.Proofs.Tryz.f191.results.toList k) m 0 (finit a) h) : SW Go.Proofs.Tryz.prog G (.func 191) a h k := fnI_ok mixed envOk hc q191 Go.Proofs.Tryz.func191 rfl (by kernel_rfl) (by kernel_rfl) (by kernel_rfl) (by simp [u191]) hg
theorem e192_0 (c : Caller Prop FT) (k : KV) (J : J192) (f : FT) (h : H) (l_0 : Nat) (c_0 : Nat) (l_1 : Nat) (c_1 : Nat) : chunkA env c q192 u192 (f192 J) d192 (retA env Go.Proofs.Tryz.f192.results.toList k) .root (fset (fset f 0 (.str l_0 c_0)) 1 (.str l_1 c_1)) h = s192_0 c k J l_0 c_0 l_1 c_1 h := by kernel_rfl
theorem w192 {c : Caller Prop FT} (hc : CallOk Go.Proofs.Tryz.prog (CP env) G (fun p => p) c) {k : KV} {n : Nat} {args : List AV} {h : H} (hg : f192 (r192 c k n) 0 (finit args) h) : SW Go.Proofs.Tryz.prog G (.func 192) args h k :=
  fn_ok mixed envOk hc q192 Go.Proofs.Tryz.func192 rfl (by kernel_rfl) (by kernel_rfl) k u192 (fun n => f192 (r192 c k n))
    (fun L f h hl => by
      match L, hl with
      | 0, hl => obtain ⟨_, _, _, hl0⟩ := asS_inv (show _ from hl); obtain ⟨_, _, _, hl1⟩ := asS_inv (show _ from hl0); exact hl1
      | _ + 1, hl => exact hl)
    (fun n p L hm f h hl => by
      simp only [u192, List.mem_cons, Prod.mk.injEq, List.not_mem_nil, or_false] at hm
      rcases hm with ⟨rfl, rfl⟩
      · have hl : f192 (r192 c k (n + 1)) 0 f h := hl
        obtain ⟨l_0, c_0, e_0, hl0⟩ := asS_inv hl
        obtain ⟨l_1, c_1, e_1, hl1⟩ := asS_inv hl0
        have hh := e192_0 c k (r192 c k n) f h l_0 c_0 l_1 c_1
        rw [fset_self e_0] at hh
        rw [fset_self e_1] at hh
        exact Eq.mpr hh hl1
    ) (by simp [u192]) hg

theorem e194_0 (c : Caller Prop FT) (k : KV) (J : J194) (f : FT) (h : H) (l_0 : Nat) (c_0 : Nat) (n_1 : Int) : chunkA env c q194 u194 (f194 J) d194 (retA env Go.Proofs.Tryz.f194.results.toList k) .root (fset (fset f 0 (.str l_0 c_0)) 1 (.int .u8 n_1)) h = s194_0 c k J l_0 c_0 n_1 h := by kernel_rfl
theorem w194 {c : Caller Prop FT} (hc : CallOk Go.Proofs.Tryz.prog (CP env) G (fun p => p) c) {k : KV} {n : Nat} {args : List AV} {h : H} (hg : f194 (r194 c k n) 0 (finit args) h) : SW Go.Proofs.Tryz.prog G (.func 194) args h k :=
  fn_ok mixed envOk hc q194 Go.Proofs.Tryz.func194 rfl (by kernel_rfl) (by kernel_rfl) k u194 (fun n => f194 (r194 c k n))
    (fun L f h hl => by
      match L, hl with
      | 0, hl => obtain ⟨_, _, _, hl0⟩ := asS_inv (show _ from hl); obtain ⟨_, _, hl1⟩ := asI_inv (show _ from hl0); exact hl1
      | _ + 1, hl => exact hl)
    (fun n p L hm f h hl => by
      simp only [u194, List.mem_cons, Prod.mk.injEq, List.not_mem_nil, or_false] at hm
      rcases hm with ⟨rfl, rfl⟩
      · have hl : f194 (r194 c k (n + 1)) 0 f h := hl
        obtain ⟨l_0, c_0, e_0, hl0⟩ := asS_inv hl
        obtain ⟨n_1, e_1, hl1⟩ := asI_inv hl0
        have hh := e194_0 c k (r194 c k n) f h l_0 c_0 n_1
        rw [fset_self e_0] at hh
        rw [fset_self e_1] at hh
        exact Eq.mpr hh hl1
    ) (by simp [u194]) hg

theorem e198_0 (c : Caller Prop FT) (k : KV) (J : J198) (f : FT) (h : H) (v_0 : AV) : chunkA env c q198 u198 (f198 J) d198 (retA env Go.Proofs.Tryz.f198.results.toList k) .root (fset f 0 v_0) h = s198_0 c k J v_0 h := by kernel_rfl
theorem w198 {c : Caller Prop FT} (hc : CallOk Go.Proofs.Tryz.prog (CP env) G (fun p => p) c) {k : KV} {n : Nat} {args : List AV} {h : H} (hg : f198 (r198 c k n) 0 (finit args) h) : SW Go.Proofs.Tryz.prog G (.func 198) args h k :=
  fn_ok mixed envOk hc q198 Go.Proofs.Tryz.func198 rfl (by kernel_rfl) (by kernel_rfl) k u198 (fun n => f198 (r198 c k n))
    (fun L f h hl => by
      match L, hl with
      | 0, hl => exact hl
      | _ + 1, hl => exact hl)
    (fun n p L hm f h hl => by
      simp only [u198, List.mem_cons, Prod.mk.injEq, List.not_mem_nil, or_false] at hm
      rcases hm with ⟨rfl, rfl⟩
      · have hl : f198 (r198 c k (n + 1)) 0 f h := hl
        have hh := e198_0 c k (r198 c k n) f h (f 0)
        rw [fset_self (rfl : f 0 = f 0)] at hh
        exact Eq.mpr hh hl
    ) (by simp [u198]) hg

theorem w202 {c : Caller Prop FT} (hc : CallOk Go.Proofs.Tryz.prog (CP env) G (fun p => p) c) {k : KV} {m : Nat} {a : List AV} {h : H} (hg : runJ env c q202 u202 d202 (retA env Go.Proofs.Tryz.f202.results.toList k) m 0 (finit a) h) : SW Go.Proofs.Tryz.prog G (.func 202) a h k := fnI_ok mixed envOk hc q202 Go.Proofs.Tryz.func202 rfl (by kernel_rfl) (by kernel_rfl) (by kernel_rfl) (by simp [u202]) hg
theorem w205 {c : Caller Prop FT} (hc : CallOk Go.Proofs.Tryz.prog (CP env) G (fun p => p) c) {k : KV} {m : Nat} {a : List AV} {h : H} (hg : runJ env c q205 u205 d205 (retA env Go.Proofs.Tryz.f205.results.toList k) m 0 (finit a) h) : SW Go.Proofs.Tryz.prog G (.func 205) a h k := fnI_ok mixed envOk hc q205 Go.Proofs.Tryz.func205 rfl (by kernel_rfl) (by kernel_rfl) (by kernel_rfl) (by simp [u205]) hg
theorem e207_0 (c : Caller Prop FT) (k : KV) (J : J207) (f : FT) (h : H) (v_0 : AV) (v_1 : AV) : chunkA env c q207 u207 (f207 J) d207 (retA env Go.Proofs.Tryz.f207.results.toList k) .root (fset (fset f 0 v_0) 1 v_1) h = s207_0 c k J v_0 v_1 h := by kernel_rfl
theorem w207 {c : Caller Prop FT} (hc : CallOk Go.Proofs.Tryz.prog (CP env) G (fun p => p) c) {k : KV} {n : Nat} {args : List AV} {h : H} (hg : f207 (r207 c k n) 0 (finit args) h) : SW Go.Proofs.Tryz.prog G (.func 207) args h k :=
  fn_ok mixed envOk hc q207 Go.Proofs.Tryz.func207 rfl (by kernel_rfl) (by kernel_rfl) k u207 (fun n => f207 (r207 c k n))
    (fun L f h hl => by
      match L, hl with
      | 0, hl => exact hl
      | _ + 1, hl => exact hl)
    (fun n p L hm f h hl => by
      simp only [u207, List.mem_cons, Prod.mk.injEq, List.not_mem_nil, or_false] at hm
      rcases hm with ⟨rfl, rfl⟩
      · have hl : f207 (r207 c k (n + 1)) 0 f h := hl
        have hh := e207_0 c k (r207 c k n) f h (f 0) (f 1)
        rw [fset_self (rfl : f 0 = f 0)] at hh
        rw [fset_self (rfl : f 1 = f 1)] at hh
        exact Eq.mpr hh hl
    ) (by simp [u207]) hg

theorem e208_0 (c : Caller Prop FT) (k : KV) (J : J208) (f : FT) (h : H) (l_0 : Nat) (c_0 : Nat) : chunkA env c q208 u208 (f208 J) d208 (retA env Go.Proofs.Tryz.f208.results.toList k) .root (fset f 0 (.str l_0 c_0)) h = s208_0 c k J l_0 c_0 h := by kernel_rfl
theorem w208 {c : Caller Prop FT} (hc : CallOk Go.Proofs.Tryz.prog (CP env) G (fun p => p) c) {k : KV} {n : Nat} {args : List AV} {h : H} (hg : f208 (r208 c k n) 0 (finit args) h) : SW Go.Proofs.Tryz.prog G (.func 208) args h k :=
  fn_ok mixed envOk hc q208 Go.Proofs.Tryz.func208 rfl (by kernel_rfl) (by kernel_rfl) k u208 (fun n => f208 (r208 c k n))
    (fun L f h hl => by
      match L, hl with
      | 0, hl => obtain ⟨_, _, _, hl0⟩ := asS_inv (show _ from hl); exact hl0
      | _ + 1, hl => exact hl)
    (fun n p L hm f h hl => by
      simp only [u208, List.mem_cons, Prod.mk.injEq, List.not_mem_nil, or_false] at hm
      rcases hm with ⟨rfl, rfl⟩
      · have hl : f208 (r208 c k (n + 1)) 0 f h := hl
        obtain ⟨l_0, c_0, e_0, hl0⟩ := asS_inv hl
        have hh := e208_0 c k (r208 c k n) f h l_0 c_0
        rw [fset_self e_0] at hh
        exact Eq.mpr hh hl0
    ) (by simp [u208]) hg

theorem w215 {c : Caller Prop FT} (hc : CallOk Go.Proofs.Tryz.prog (CP env) G (fun p => p) c) {k : KV} {m : Nat} {a : List AV} {h : H} (hg : runJ env c q215 u215 d215 (retA env Go.Proofs.Tryz.f215.results.toList k) m 0 (finit a) h) : SW Go.Proofs.Tryz.prog G (.func 215) a h k := fnI_ok mixed envOk hc q215 Go.Proofs.Tryz.func215 rfl (by kernel_rfl) (by kernel_rfl) (by kernel_rfl) (by simp [u215]) hg
theorem e220_0 (c : Caller Prop FT) (k : KV) (J : J220) (f : FT) (h : H) (v_0 : AV) (l_1 : Nat) (c_1 : Nat) : chunkA env c q220 u220 (f220 J) d220 (retA env Go.Proofs.Tryz.f220.results.toList k) .root (fset (fset f 0 v_0) 1 (.str l_1 c_1)) h = s220_0 c k J v_0 l_1 c_1 h := by kernel_rfl
theorem w220 {c : Caller Prop FT} (hc : CallOk Go.Proofs.Tryz.prog (CP env) G (fun p => p) c) {k : KV} {n : Nat} {args : List AV} {h : H} (hg : f220 (r220 c k n) 0 (finit args) h) : SW Go.Proofs.Tryz.prog G (.func 220) args h k :=
  fn_ok mixed envOk hc q220 Go.Proofs.Tryz.func220 rfl (by kernel_rfl) (by kernel_rfl) k u220 (fun n => f220 (r220 c k n))
    (fun L f h hl => by
      match L, hl with
      | 0, hl => obtain ⟨_, _, _, hl0⟩ := asS_inv (show _ from hl); exact hl0
      | _ + 1, hl => exact hl)
    (fun n p L hm f h hl => by
      simp only [u220, List.mem_cons, Prod.mk.injEq, List.not_mem_nil, or_false] at hm
      rcases hm with ⟨rfl, rfl⟩
      · have hl : f220 (r220 c k (n + 1)) 0 f h := hl
        obtain ⟨l_1, c_1, e_1, hl1⟩ := asS_inv hl
        have hh := e220_0 c k (r220 c k n) f h (f 0) l_1 c_1
        rw [fset_self (rfl : f 0 = f 0)] at hh
        rw [fset_self e_1] at hh
        exact Eq.mpr hh hl1
    ) (by simp [u220]) hg

theorem e229_0 (c : Caller Prop FT) (k : KV) (J : J229) (f : FT) (h : H) (v_0 : AV) : chunkA env c q229 u229 (f229 J) d229 (retA env Go.Proofs.Tryz.f229.results.toList k) .root (fset f 0 v_0) h = s229_0 c k J v_0 h := by kernel_rfl
theorem w229 {c : Caller Prop FT} (hc : CallOk Go.Proofs.Tryz.prog (CP env) G (fun p => p) c) {k : KV} {n : Nat} {args : List AV} {h : H} (hg : f229 (r229 c k n) 0 (finit args) h) : SW Go.Proofs.Tryz.prog G (.func 229) args h k :=
  fn_ok mixed envOk hc q229 Go.Proofs.Tryz.func229 rfl (by kernel_rfl) (by kernel_rfl) k u229 (fun n => f229 (r229 c k n))
    (fun L f h hl => by
      match L, hl with
      | 0, hl => exact hl
      | _ + 1, hl => exact hl)
    (fun n p L hm f h hl => by
      simp only [u229, List.mem_cons, Prod.mk.injEq, List.not_mem_nil, or_false] at hm
      rcases hm with ⟨rfl, rfl⟩
      · have hl : f229 (r229 c k (n + 1)) 0 f h := hl
        have hh := e229_0 c k (r229 c k n) f h (f 0)
        rw [fset_self (rfl : f 0 = f 0)] at hh
        exact Eq.mpr hh hl
    ) (by simp [u229]) hg

theorem e231_0 (c : Caller Prop FT) (k : KV) (J : J231) (f : FT) (h : H) (v_0 : AV) (b_1 : Bool) : chunkA env c q231 u231 (f231 J) d231 (retA env Go.Proofs.Tryz.f231.results.toList k) .root (fset (fset f 0 v_0) 1 (.bool b_1)) h = s231_0 c k J v_0 b_1 h := by kernel_rfl
theorem w231 {c : Caller Prop FT} (hc : CallOk Go.Proofs.Tryz.prog (CP env) G (fun p => p) c) {k : KV} {n : Nat} {args : List AV} {h : H} (hg : f231 (r231 c k n) 0 (finit args) h) : SW Go.Proofs.Tryz.prog G (.func 231) args h k :=
  fn_ok mixed envOk hc q231 Go.Proofs.Tryz.func231 rfl (by kernel_rfl) (by kernel_rfl) k u231 (fun n => f231 (r231 c k n))
    (fun L f h hl => by
      match L, hl with
      | 0, hl => obtain ⟨_, _, hl0⟩ := asB_inv (show _ from hl); exact hl0
      | _ + 1, hl => exact hl)
    (fun n p L hm f h hl => by
      simp only [u231, List.mem_cons, Prod.mk.injEq, List.not_mem_nil, or_false] at hm
      rcases hm with ⟨rfl, rfl⟩
      · have hl : f231 (r231 c k (n + 1)) 0 f h := hl
        obtain ⟨b_1, e_1, hl1⟩ := asB_inv hl
        have hh := e231_0 c k (r231 c k n) f h (f 0) b_1
        rw [fset_self (rfl : f 0 = f 0)] at hh
        rw [fset_self e_1] at hh
        exact Eq.mpr hh hl1
    ) (by simp [u231]) hg
theorem wd231 {c : Caller Prop FT} (hc : CallOk Go.Proofs.Tryz.prog (CP env) G (fun p => p) c) {k : KV} {n : Nat} {args : List AV} {h : H} (hg : f231 (r231 c k n) 0 (finit args) h) : SWD Go.Proofs.Tryz.prog G 231 args h k :=
  fnD_ok mixed envOk hc q231 Go.Proofs.Tryz.func231 rfl (by kernel_rfl) (by kernel_rfl) k u231 (fun n => f231 (r231 c k n))
    (fun L f h hl => by
      match L, hl with
      | 0, hl => obtain ⟨_, _, hl0⟩ := asB_inv (show _ from hl); exact hl0
      | _ + 1, hl => exact hl)
    (fun n p L hm f h hl => by
      simp only [u231, List.mem_cons, Prod.mk.injEq, List.not_mem_nil, or_false] at hm
      rcases hm with ⟨rfl, rfl⟩
      · have hl : f231 (r231 c k (n + 1)) 0 f h := hl
        obtain ⟨b_1, e_1, hl1⟩ := asB_inv hl
        have hh := e231_0 c k (r231 c k n) f h (f 0) b_1
        rw [fset_self (rfl : f 0 = f 0)] at hh
        rw [fset_self e_1] at hh
        exact Eq.mpr hh hl1
    ) (by simp [u231]) hg

theorem w234 {c : Caller Prop FT} (hc : CallOk Go.Proofs.Tryz.prog (CP env) G (fun p => p) c) {k : KV} {m : Nat} {a : List AV} {h : H} (hg : runJ env c q234 u234 d234 (retA env Go.Proofs.Tryz.f234.results.toList k) m 0 (finit a) h) : SW Go.Proofs.Tryz.prog G (.func 234) a h k := fnI_ok mixed envOk hc q234 Go.Proofs.Tryz.func234 rfl (by kernel_rfl) (by kernel_rfl) (by kernel_rfl) (by simp [u234]) hg
theorem w238 {c : Caller Prop FT} (hc : CallOk Go.Proofs.Tryz.prog (CP env) G (fun p => p) c) {k : KV} {m : Nat} {a : List AV} {h : H} (hg : runJ env c q238 u238 d238 (retA env Go.Proofs.Tryz.f238.results.toList k) m 0 (finit a) h) : SW Go.Proofs.Tryz.prog G (.func 238) a h k := fnI_ok mixed envOk hc q238 Go.Proofs.Tryz.func238 rfl (by kernel_rfl) (by kernel_rfl) (by kernel_rfl) (by simp [u238]) hg
theorem e241_0 (c : Caller Prop FT) (k : KV) (J : J241) (f : FT) (h : H) (v_0 : AV) (n_1 : Int) : chunkA env c q241 u241 (f241 J) d241 (retA env Go.Proofs.Tryz.f241.results.toList k) .root (fset (fset f 0 v_0) 1 (.int .i64 n_1)) h = s241_0 c k J v_0 n_1 h := by kernel_rfl
theorem w241 {c : Caller Prop FT} (hc : CallOk Go.Proofs.Tryz.prog (CP env) G (fun p => p) c) {k : KV} {n : Nat} {args : List AV} {h : H} (hg : f241 (r241 c k n) 0 (finit args) h) : SW Go.Proofs.Tryz.prog G (.func 241) args h k :=
  fn_ok mixed envOk hc q241 Go.Proofs.Tryz.func241 rfl (by kernel_rfl) (by kernel_rfl) k u241 (fun n => f241 (r241 c k n))
    (fun L f h hl => by
      match L, hl with
      | 0, hl => obtain ⟨_, _, hl0⟩ := asI_inv (show _ from hl); exact hl0
      | _ + 1, hl => exact hl)
    (fun n p L hm f h hl => by
      simp only [u241, List.mem_cons, Prod.mk.injEq, List.not_mem_nil, or_false] at hm
      rcases hm with ⟨rfl, rfl⟩
      · have hl : f241 (r241 c k (n + 1)) 0 f h := hl
        obtain ⟨n_1, e_1, hl1⟩ := asI_inv hl
        have hh := e241_0 c k (r241 c k n) f h (f 0) n_1
        rw [fset_self (rfl : f 0 = f 0)] at hh
        rw [fset_self e_1] at hh
        exact Eq.mpr hh hl1
    ) (by simp [u241]) hg

theorem w259 {c : Caller Prop FT} (hc : CallOk Go.Proofs.Tryz.prog (CP env) G (fun p => p) c) {k : KV} {m : Nat} {a : List AV} {h : H} (hg : runJ env c q259 u259 d259 (retA env Go.Proofs.Tryz.f259.results.toList k) m 0 (finit a) h) : SW Go.Proofs.Tryz.prog G (.func 259) a h k := fnI_ok mixed envOk hc q259 Go.Proofs.Tryz.func259 rfl (by kernel_rfl) (by kernel_rfl) (by kernel_rfl) (by simp [u259]) hg
theorem w262 {c : Caller Prop FT} (hc : CallOk Go.Proofs.Tryz.prog (CP env) G (fun p => p) c) {k : KV} {m : Nat} {a : List AV} {h : H} (hg : runJ env c q262 u262 d262 (retA env Go.Proofs.Tryz.f262.results.toList k) m 0 (finit a) h) : SW Go.Proofs.Tryz.prog G (.func 262) a h k := fnI_ok mixed envOk hc q262 Go.Proofs.Tryz.func262 rfl (by kernel_rfl) (by kernel_rfl) (by kernel_rfl) (by simp [u262]) hg
theorem w270 {c : Caller Prop FT} (hc : CallOk Go.Proofs.Tryz.prog (CP env) G (fun p => p) c) {k : KV} {m : Nat} {a : List AV} {h : H} (hg : runJ env c q270 u270 d270 (retA env Go.Proofs.Tryz.f270.results.toList k) m 0 (finit a) h) : SW Go.Proofs.Tryz.prog G (.func 270) a h k := fnI_ok mixed envOk hc q270 Go.Proofs.Tryz.func270 rfl (by kernel_rfl) (by kernel_rfl) (by kernel_rfl) (by simp [u270]) hg
theorem w288 {c : Caller Prop FT} (hc : CallOk Go.Proofs.Tryz.prog (CP env) G (fun p => p) c) {k : KV} {m : Nat} {a : List AV} {h : H} (hg : runJ env c q288 u288 d288 (retA env Go.Proofs.Tryz.f288.results.toList k) m 0 (finit a) h) : SW Go.Proofs.Tryz.prog G (.func 288) a h k := fnI_ok mixed envOk hc q288 Go.Proofs.Tryz.func288 rfl (by kernel_rfl) (by kernel_rfl) (by kernel_rfl) (by simp [u288]) hg
theorem w291 {c : Caller Prop FT} (hc : CallOk Go.Proofs.Tryz.prog (CP env) G (fun p => p) c) {k : KV} {m : Nat} {a : List AV} {h : H} (hg : runJ env c q291 u291 d291 (retA env Go.Proofs.Tryz.f291.results.toList k) m 0 (finit a) h) : SW Go.Proofs.Tryz.prog G (.func 291) a h k := fnI_ok mixed envOk hc q291 Go.Proofs.Tryz.func291 rfl (by kernel_rfl) (by kernel_rfl) (by kernel_rfl) (by simp [u291]) hg
theorem w295 {c : Caller Prop FT} (hc : CallOk Go.Proofs.Tryz.prog (CP env) G (fun p => p) c) {k : KV} {m : Nat} {a : List AV} {h : H} (hg : runJ env c q295 u295 d295 (retA env Go.Proofs.Tryz.f295.results.toList k) m 0 (finit a) h) : SW Go.Proofs.Tryz.prog G (.func 295) a h k := fnI_ok mixed envOk hc q295 Go.Proofs.Tryz.func295 rfl (by kernel_rfl) (by kernel_rfl) (by kernel_rfl) (by simp [u295]) hg
theorem w300 {c : Caller Prop FT} (hc : CallOk Go.Proofs.Tryz.prog (CP env) G (fun p => p) c) {k : KV} {m : Nat} {a : List AV} {h : H} (hg : runJ env c q300 u300 d300 (retA env Go.Proofs.Tryz.f300.results.toList k) m 0 (finit a) h) : SW Go.Proofs.Tryz.prog G (.func 300) a h k := fnI_ok mixed envOk hc q300 Go.Proofs.Tryz.func300 rfl (by kernel_rfl) (by kernel_rfl) (by kernel_rfl) (by simp [u300]) hg
theorem w319 {c : Caller Prop FT} (hc : CallOk Go.Proofs.Tryz.prog (CP env) G (fun p => p) c) {k : KV} {m : Nat} {a : List AV} {h : H} (hg : runJ env c q319 u319 d319 (retA env Go.Proofs.Tryz.f319.results.toList k) m 0 (finit a) h) : SW Go.Proofs.Tryz.prog G (.func 319) a h k := fnI_ok mixed envOk hc q319 Go.Proofs.Tryz.func319 rfl (by kernel_rfl) (by kernel_rfl) (by kernel_rfl) (by simp [u319]) hg
theorem w324 {c : Caller Prop FT} (hc : CallOk Go.Proofs.Tryz.prog (CP env) G (fun p => p) c) {k : KV} {m : Nat} {a : List AV} {h : H} (hg : runJ env c q324 u324 d324 (retA env Go.Proofs.Tryz.f324.results.toList k) m 0 (finit a) h) : SW Go.Proofs.Tryz.prog G (.func 324) a h k := fnI_ok mixed envOk hc q324 Go.Proofs.Tryz.func324 rfl (by kernel_rfl) (by kernel_rfl) (by kernel_rfl) (by simp [u324]) hg
theorem w341 {c : Caller Prop FT} (hc : CallOk Go.Proofs.Tryz.prog (CP env) G (fun p => p) c) {k : KV} {m : Nat} {a : List AV} {h : H} (hg : runJ env c q341 u341 d341 (retA env Go.Proofs.Tryz.f341.results.toList k) m 0 (finit a) h) : SW Go.Proofs.Tryz.prog G (.func 341) a h k := fnI_ok mixed envOk hc q341 Go.Proofs.Tryz.func341 rfl (by kernel_rfl) (by kernel_rfl) (by kernel_rfl) (by simp [u341]) hg
theorem w354 {c : Caller Prop FT} (hc : CallOk Go.Proofs.Tryz.prog (CP env) G (fun p => p) c) {k : KV} {m : Nat} {a : List AV} {h : H} (hg : runJ env c q354 u354 d354 (retA env Go.Proofs.Tryz.f354.results.toList k) m 0 (finit a) h) : SW Go.Proofs.Tryz.prog G (.func 354) a h k := fnI_ok mixed envOk hc q354 Go.Proofs.Tryz.func354 rfl (by kernel_rfl) (by kernel_rfl) (by kernel_rfl) (by simp [u354]) hg
end Go.Den
