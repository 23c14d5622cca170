/-
  A part of the proof: the pieces are what the program does.
-/
import Derived.Test.YtpnfpdmkladmpaaGreatDoorRaA1
import Derived.Test.YtpnfpdmkladmpaaGreatDoorRaA2
import Derived.KernelRfl
namespace Go.Den
set_option maxRecDepth 100000
theorem e21_0 (c : Caller Prop FT) (k : KV) (J : J21) (f : FT) (h : H) (v_0 : AV) : chunkA env c q21 u21 (f21 J) d21 (retA env Go.Proofs.Tryz.f21.results.toList k) .root (fset f 0 v_0) h = s21_0 c k J v_0 h := by kernel_rfl
theorem w21 {c : Caller Prop FT} (hc : CallOk Go.Proofs.Tryz.prog (CP env) G (fun p => p) c) {k : KV} {n : Nat} {args : List AV} {h : H} (hg : f21 (r21 c k n) 0 (finit args) h) : SW Go.Proofs.Tryz.prog G (.func 21) args h k :=
  fn_ok mixed envOk hc q21 Go.Proofs.Tryz.func21 rfl (by kernel_rfl) (by kernel_rfl) k u21 (fun n => f21 (r21 c k n))
    (fun L f h hl => by
      match L, hl with
      | 0, hl => exact hl
      | _ + 1, hl => exact hl)
    (fun n p L hm f h hl => by
      simp only [u21, List.mem_cons, Prod.mk.injEq, List.not_mem_nil, or_false] at hm
      rcases hm with ⟨rfl, rfl⟩
      · have hl : f21 (r21 c k (n + 1)) 0 f h := hl
        have hh := e21_0 c k (r21 c k n) f h (f 0)
        rw [fset_self (rfl : f 0 = f 0)] at hh
        exact Eq.mpr hh hl
    ) (by simp [u21]) hg

theorem e25_0 (c : Caller Prop FT) (k : KV) (J : J25) (f : FT) (h : H) (v_0 : AV) (l_1 : Nat) (c_1 : Nat) (l_2 : Nat) (c_2 : Nat) : chunkA env c q25 u25 (f25 J) d25 (retA env Go.Proofs.Tryz.f25.results.toList k) .root (fset (fset (fset f 0 v_0) 1 (.str l_1 c_1)) 2 (.str l_2 c_2)) h = s25_0 c k J v_0 l_1 c_1 l_2 c_2 h := by kernel_rfl
theorem w25 {c : Caller Prop FT} (hc : CallOk Go.Proofs.Tryz.prog (CP env) G (fun p => p) c) {k : KV} {n : Nat} {args : List AV} {h : H} (hg : f25 (r25 c k n) 0 (finit args) h) : SW Go.Proofs.Tryz.prog G (.func 25) args h k :=
  fn_ok mixed envOk hc q25 Go.Proofs.Tryz.func25 rfl (by kernel_rfl) (by kernel_rfl) k u25 (fun n => f25 (r25 c k n))
    (fun L f h hl => by
      match L, hl with
      | 0, hl => obtain ⟨_, _, _, hl0⟩ := asS_inv (show _ from hl); obtain ⟨_, _, _, hl1⟩ := asS_inv (show _ from hl0); exact hl1
      | _ + 1, hl => exact hl)
    (fun n p L hm f h hl => by
      simp only [u25, List.mem_cons, Prod.mk.injEq, List.not_mem_nil, or_false] at hm
      rcases hm with ⟨rfl, rfl⟩
      · have hl : f25 (r25 c k (n + 1)) 0 f h := hl
        obtain ⟨l_1, c_1, e_1, hl1⟩ := asS_inv hl
        obtain ⟨l_2, c_2, e_2, hl2⟩ := asS_inv hl1
        have hh := e25_0 c k (r25 c k n) f h (f 0) l_1 c_1 l_2 c_2
        rw [fset_self (rfl : f 0 = f 0)] at hh
        rw [fset_self e_1] at hh
        rw [fset_self e_2] at hh
        exact Eq.mpr hh hl2
    ) (by simp [u25]) hg

theorem e26_0 (c : Caller Prop FT) (k : KV) (J : J26) (f : FT) (h : H) (v_0 : AV) (l_1 : Nat) (c_1 : Nat) (v_2 : AV) (v_3 : AV) : chunkA env c q26 u26 (f26 J) d26 (retA env Go.Proofs.Tryz.f26.results.toList k) .root (fset (fset (fset (fset f 0 v_0) 1 (.str l_1 c_1)) 2 v_2) 3 v_3) h = s26_0 c k J v_0 l_1 c_1 v_2 v_3 h := by kernel_rfl
theorem w26 {c : Caller Prop FT} (hc : CallOk Go.Proofs.Tryz.prog (CP env) G (fun p => p) c) {k : KV} {n : Nat} {args : List AV} {h : H} (hg : f26 (r26 c k n) 0 (finit args) h) : SW Go.Proofs.Tryz.prog G (.func 26) args h k :=
  fn_ok mixed envOk hc q26 Go.Proofs.Tryz.func26 rfl (by kernel_rfl) (by kernel_rfl) k u26 (fun n => f26 (r26 c k n))
    (fun L f h hl => by
      match L, hl with
      | 0, hl => obtain ⟨_, _, _, hl0⟩ := asS_inv (show _ from hl); exact hl0
      | _ + 1, hl => exact hl)
    (fun n p L hm f h hl => by
      simp only [u26, List.mem_cons, Prod.mk.injEq, List.not_mem_nil, or_false] at hm
      rcases hm with ⟨rfl, rfl⟩
      · have hl : f26 (r26 c k (n + 1)) 0 f h := hl
        obtain ⟨l_1, c_1, e_1, hl1⟩ := asS_inv hl
        have hh := e26_0 c k (r26 c k n) f h (f 0) l_1 c_1 (f 2) (f 3)
        rw [fset_self (rfl : f 0 = f 0)] at hh
        rw [fset_self e_1] at hh
        rw [fset_self (rfl : f 2 = f 2)] at hh
        rw [fset_self (rfl : f 3 = f 3)] at hh
        exact Eq.mpr hh hl1
    ) (by simp [u26]) hg

theorem e27_0 (c : Caller Prop FT) (k : KV) (J : J27) (f : FT) (h : H) (l_0 : Nat) (c_0 : Nat) (l_1 : Nat) (c_1 : Nat) : chunkA env c q27 u27 (f27 J) d27 (retA env Go.Proofs.Tryz.f27.results.toList k) .root (fset (fset f 0 (.str l_0 c_0)) 1 (.str l_1 c_1)) h = s27_0 c k J l_0 c_0 l_1 c_1 h := by kernel_rfl
theorem e27_1 (c : Caller Prop FT) (k : KV) (J : J27) (f : FT) (h : H) (l_1 : Nat) (c_1 : Nat) (v_4 : AV) (n_15 : Int) (n_16 : Int) : chunkA env c q27 u27 (f27 J) d27 (retA env Go.Proofs.Tryz.f27.results.toList k) (.l (.r (.l (.r (.r .root))))) (fset (fset (fset (fset f 1 (.str l_1 c_1)) 4 v_4) 15 (.int .i64 n_15)) 16 (.int .i64 n_16)) h = s27_1 c k J l_1 c_1 v_4 n_15 n_16 h := by kernel_rfl
theorem w27 {c : Caller Prop FT} (hc : CallOk Go.Proofs.Tryz.prog (CP env) G (fun p => p) c) {k : KV} {n : Nat} {args : List AV} {h : H} (hg : f27 (r27 c k n) 0 (finit args) h) : SW Go.Proofs.Tryz.prog G (.func 27) args h k :=
  fn_ok mixed envOk hc q27 Go.Proofs.Tryz.func27 rfl (by kernel_rfl) (by kernel_rfl) k u27 (fun n => f27 (r27 c k n))
    (fun L f h hl => by
      match L, hl with
      | 0, hl => obtain ⟨_, _, _, hl0⟩ := asS_inv (show _ from hl); obtain ⟨_, _, _, hl1⟩ := asS_inv (show _ from hl0); exact hl1
      | 1, hl => obtain ⟨_, _, _, hl0⟩ := asS_inv (show _ from hl); obtain ⟨_, _, hl1⟩ := asI_inv (show _ from hl0); obtain ⟨_, _, hl2⟩ := asI_inv (show _ from hl1); exact hl2
      | _ + 2, hl => exact hl)
    (fun n p L hm f h hl => by
      simp only [u27, List.mem_cons, Prod.mk.injEq, List.not_mem_nil, or_false] at hm
      rcases hm with ⟨rfl, rfl⟩ | ⟨rfl, rfl⟩
      · have hl : f27 (r27 c k (n + 1)) 0 f h := hl
        obtain ⟨l_0, c_0, e_0, hl0⟩ := asS_inv hl
        obtain ⟨l_1, c_1, e_1, hl1⟩ := asS_inv hl0
        have hh := e27_0 c k (r27 c k n) f h l_0 c_0 l_1 c_1
        rw [fset_self e_0] at hh
        rw [fset_self e_1] at hh
        exact Eq.mpr hh hl1
      · have hl : f27 (r27 c k (n + 1)) 1 f h := hl
        obtain ⟨l_1, c_1, e_1, hl0⟩ := asS_inv hl
        obtain ⟨n_15, e_15, hl2⟩ := asI_inv hl0
        obtain ⟨n_16, e_16, hl3⟩ := asI_inv hl2
        have hh := e27_1 c k (r27 c k n) f h l_1 c_1 (f 4) n_15 n_16
        rw [fset_self e_1] at hh
        rw [fset_self (rfl : f 4 = f 4)] at hh
        rw [fset_self e_15] at hh
        rw [fset_self e_16] at hh
        exact Eq.mpr hh hl3
    ) (by simp [u27]) hg

theorem e35_0 (c : Caller Prop FT) (k : KV) (J : J35) (f : FT) (h : H) (l_0 : Nat) (c_0 : Nat) : chunkA env c q35 u35 (f35 J) d35 (retA env Go.Proofs.Tryz.f35.results.toList k) .root (fset f 0 (.str l_0 c_0)) h = s35_0 c k J l_0 c_0 h := by kernel_rfl
theorem w35 {c : Caller Prop FT} (hc : CallOk Go.Proofs.Tryz.prog (CP env) G (fun p => p) c) {k : KV} {n : Nat} {args : List AV} {h : H} (hg : f35 (r35 c k n) 0 (finit args) h) : SW Go.Proofs.Tryz.prog G (.func 35) args h k :=
  fn_ok mixed envOk hc q35 Go.Proofs.Tryz.func35 rfl (by kernel_rfl) (by kernel_rfl) k u35 (fun n => f35 (r35 c k n))
    (fun L f h hl => by
      match L, hl with
      | 0, hl => obtain ⟨_, _, _, hl0⟩ := asS_inv (show _ from hl); exact hl0
      | _ + 1, hl => exact hl)
    (fun n p L hm f h hl => by
      simp only [u35, List.mem_cons, Prod.mk.injEq, List.not_mem_nil, or_false] at hm
      rcases hm with ⟨rfl, rfl⟩
      · have hl : f35 (r35 c k (n + 1)) 0 f h := hl
        obtain ⟨l_0, c_0, e_0, hl0⟩ := asS_inv hl
        have hh := e35_0 c k (r35 c k n) f h l_0 c_0
        rw [fset_self e_0] at hh
        exact Eq.mpr hh hl0
    ) (by simp [u35]) hg

theorem e36_0 (c : Caller Prop FT) (k : KV) (J : J36) (f : FT) (h : H) (v_0 : AV) (l_1 : Nat) (c_1 : Nat) (v_2 : AV) (n_3 : Int) : chunkA env c q36 u36 (f36 J) d36 (retA env Go.Proofs.Tryz.f36.results.toList k) .root (fset (fset (fset (fset f 0 v_0) 1 (.str l_1 c_1)) 2 v_2) 3 (.int .i64 n_3)) h = s36_0 c k J v_0 l_1 c_1 v_2 n_3 h := by kernel_rfl
theorem w36 {c : Caller Prop FT} (hc : CallOk Go.Proofs.Tryz.prog (CP env) G (fun p => p) c) {k : KV} {n : Nat} {args : List AV} {h : H} (hg : f36 (r36 c k n) 0 (finit args) h) : SW Go.Proofs.Tryz.prog G (.func 36) args h k :=
  fn_ok mixed envOk hc q36 Go.Proofs.Tryz.func36 rfl (by kernel_rfl) (by kernel_rfl) k u36 (fun n => f36 (r36 c k n))
    (fun L f h hl => by
      match L, hl with
      | 0, hl => obtain ⟨_, _, _, hl0⟩ := asS_inv (show _ from hl); obtain ⟨_, _, hl1⟩ := asI_inv (show _ from hl0); exact hl1
      | _ + 1, hl => exact hl)
    (fun n p L hm f h hl => by
      simp only [u36, List.mem_cons, Prod.mk.injEq, List.not_mem_nil, or_false] at hm
      rcases hm with ⟨rfl, rfl⟩
      · have hl : f36 (r36 c k (n + 1)) 0 f h := hl
        obtain ⟨l_1, c_1, e_1, hl1⟩ := asS_inv hl
        obtain ⟨n_3, e_3, hl3⟩ := asI_inv hl1
        have hh := e36_0 c k (r36 c k n) f h (f 0) l_1 c_1 (f 2) n_3
        rw [fset_self (rfl : f 0 = f 0)] at hh
        rw [fset_self e_1] at hh
        rw [fset_self (rfl : f 2 = f 2)] at hh
        rw [fset_self e_3] at hh
        exact Eq.mpr hh hl3
    ) (by simp [u36]) hg

theorem e37_0 (c : Caller Prop FT) (k : KV) (J : J37) (f : FT) (h : H) (v_0 : AV) (l_1 : Nat) (c_1 : Nat) : chunkA env c q37 u37 (f37 J) d37 (retA env Go.Proofs.Tryz.f37.results.toList k) .root (fset (fset f 0 v_0) 1 (.str l_1 c_1)) h = s37_0 c k J v_0 l_1 c_1 h := by kernel_rfl
theorem e37_1 (c : Caller Prop FT) (k : KV) (J : J37) (f : FT) (h : H) (v_0 : AV) (l_1 : Nat) (c_1 : Nat) (n_6 : Int) : chunkA env c q37 u37 (f37 J) d37 (retA env Go.Proofs.Tryz.f37.results.toList k) (.l (.l (.r (.r .root)))) (fset (fset (fset f 0 v_0) 1 (.str l_1 c_1)) 6 (.int .i64 n_6)) h = s37_1 c k J v_0 l_1 c_1 n_6 h := by kernel_rfl
theorem w37 {c : Caller Prop FT} (hc : CallOk Go.Proofs.Tryz.prog (CP env) G (fun p => p) c) {k : KV} {n : Nat} {args : List AV} {h : H} (hg : f37 (r37 c k n) 0 (finit args) h) : SW Go.Proofs.Tryz.prog G (.func 37) args h k :=
  fn_ok mixed envOk hc q37 Go.Proofs.Tryz.func37 rfl (by kernel_rfl) (by kernel_rfl) k u37 (fun n => f37 (r37 c k n))
    (fun L f h hl => by
      match L, hl with
      | 0, hl => obtain ⟨_, _, _, hl0⟩ := asS_inv (show _ from hl); exact hl0
      | 1, hl => obtain ⟨_, _, _, hl0⟩ := asS_inv (show _ from hl); obtain ⟨_, _, hl1⟩ := asI_inv (show _ from hl0); exact hl1
      | _ + 2, hl => exact hl)
    (fun n p L hm f h hl => by
      simp only [u37, List.mem_cons, Prod.mk.injEq, List.not_mem_nil, or_false] at hm
      rcases hm with ⟨rfl, rfl⟩ | ⟨rfl, rfl⟩
      · have hl : f37 (r37 c k (n + 1)) 0 f h := hl
        obtain ⟨l_1, c_1, e_1, hl1⟩ := asS_inv hl
        have hh := e37_0 c k (r37 c k n) f h (f 0) l_1 c_1
        rw [fset_self (rfl : f 0 = f 0)] at hh
        rw [fset_self e_1] at hh
        exact Eq.mpr hh hl1
      · have hl : f37 (r37 c k (n + 1)) 1 f h := hl
        obtain ⟨l_1, c_1, e_1, hl1⟩ := asS_inv hl
        obtain ⟨n_6, e_6, hl2⟩ := asI_inv hl1
        have hh := e37_1 c k (r37 c k n) f h (f 0) l_1 c_1 n_6
        rw [fset_self (rfl : f 0 = f 0)] at hh
        rw [fset_self e_1] at hh
        rw [fset_self e_6] at hh
        exact Eq.mpr hh hl2
    ) (by simp [u37]) hg

theorem e38_0 (c : Caller Prop FT) (k : KV) (J : J38) (f : FT) (h : H) (l_0 : Nat) (c_0 : Nat) : chunkA env c q38 u38 (f38 J) d38 (retA env Go.Proofs.Tryz.f38.results.toList k) .root (fset f 0 (.str l_0 c_0)) h = s38_0 c k J l_0 c_0 h := by kernel_rfl
theorem e38_1 (c : Caller Prop FT) (k : KV) (J : J38) (f : FT) (h : H) (v_3 : AV) (n_4 : Int) : chunkA env c q38 u38 (f38 J) d38 (retA env Go.Proofs.Tryz.f38.results.toList k) (.l (.r (.l (.r (.r (.r .root)))))) (fset (fset f 3 v_3) 4 (.int .i64 n_4)) h = s38_1 c k J v_3 n_4 h := by kernel_rfl
theorem w38 {c : Caller Prop FT} (hc : CallOk Go.Proofs.Tryz.prog (CP env) G (fun p => p) c) {k : KV} {n : Nat} {args : List AV} {h : H} (hg : f38 (r38 c k n) 0 (finit args) h) : SW Go.Proofs.Tryz.prog G (.func 38) args h k :=
  fn_ok mixed envOk hc q38 Go.Proofs.Tryz.func38 rfl (by kernel_rfl) (by kernel_rfl) k u38 (fun n => f38 (r38 c k n))
    (fun L f h hl => by
      match L, hl with
      | 0, hl => obtain ⟨_, _, _, hl0⟩ := asS_inv (show _ from hl); exact hl0
      | 1, hl => obtain ⟨_, _, hl0⟩ := asI_inv (show _ from hl); exact hl0
      | _ + 2, hl => exact hl)
    (fun n p L hm f h hl => by
      simp only [u38, List.mem_cons, Prod.mk.injEq, List.not_mem_nil, or_false] at hm
      rcases hm with ⟨rfl, rfl⟩ | ⟨rfl, rfl⟩
      · have hl : f38 (r38 c k (n + 1)) 0 f h := hl
        obtain ⟨l_0, c_0, e_0, hl0⟩ := asS_inv hl
        have hh := e38_0 c k (r38 c k n) f h l_0 c_0
        rw [fset_self e_0] at hh
        exact Eq.mpr hh hl0
      · have hl : f38 (r38 c k (n + 1)) 1 f h := hl
        obtain ⟨n_4, e_4, hl1⟩ := asI_inv hl
        have hh := e38_1 c k (r38 c k n) f h (f 3) n_4
        rw [fset_self (rfl : f 3 = f 3)] at hh
        rw [fset_self e_4] at hh
        exact Eq.mpr hh hl1
    ) (by simp [u38]) hg

theorem e41_0 (c : Caller Prop FT) (k : KV) (J : J41) (f : FT) (h : H) : chunkA env c q41 u41 (f41 J) d41 (retA env Go.Proofs.Tryz.f41.results.toList k) .root f h = s41_0 c k J  h := by kernel_rfl
theorem w41 {c : Caller Prop FT} (hc : CallOk Go.Proofs.Tryz.prog (CP env) G (fun p => p) c) {k : KV} {n : Nat} {args : List AV} {h : H} (hg : f41 (r41 c k n) 0 (finit args) h) : SW Go.Proofs.Tryz.prog G (.func 41) args h k :=
  fn_ok mixed envOk hc q41 Go.Proofs.Tryz.func41 rfl (by kernel_rfl) (by kernel_rfl) k u41 (fun n => f41 (r41 c k n))
    (fun L f h hl => by
      match L, hl with
      | 0, hl => exact hl
      | _ + 1, hl => exact hl)
    (fun n p L hm f h hl => by
      simp only [u41, List.mem_cons, Prod.mk.injEq, List.not_mem_nil, or_false] at hm
      rcases hm with ⟨rfl, rfl⟩
      · have hl : f41 (r41 c k (n + 1)) 0 f h := hl
        have hh := e41_0 c k (r41 c k n) f h 
        exact Eq.mpr hh hl
    ) (by simp [u41]) hg

theorem e44_0 (c : Caller Prop FT) (k : KV) (J : J44) (f : FT) (h : H) (v_0 : AV) : chunkA env c q44 u44 (f44 J) d44 (retA env Go.Proofs.Tryz.f44.results.toList k) .root (fset f 0 v_0) h = s44_0 c k J v_0 h := by kernel_rfl
theorem w44 {c : Caller Prop FT} (hc : CallOk Go.Proofs.Tryz.prog (CP env) G (fun p => p) c) {k : KV} {n : Nat} {args : List AV} {h : H} (hg : f44 (r44 c k n) 0 (finit args) h) : SW Go.Proofs.Tryz.prog G (.func 44) args h k :=
  fn_ok mixed envOk hc q44 Go.Proofs.Tryz.func44 rfl (by kernel_rfl) (by kernel_rfl) k u44 (fun n => f44 (r44 c k n))
    (fun L f h hl => by
      match L, hl with
      | 0, hl => exact hl
      | _ + 1, hl => exact hl)
    (fun n p L hm f h hl => by
      simp only [u44, List.mem_cons, Prod.mk.injEq, List.not_mem_nil, or_false] at hm
      rcases hm with ⟨rfl, rfl⟩
      · have hl : f44 (r44 c k (n + 1)) 0 f h := hl
        have hh := e44_0 c k (r44 c k n) f h (f 0)
        rw [fset_self (rfl : f 0 = f 0)] at hh
        exact Eq.mpr hh hl
    ) (by simp [u44]) hg

theorem e48_0 (c : Caller Prop FT) (k : KV) (J : J48) (f : FT) (h : H) (v_0 : AV) : chunkA env c q48 u48 (f48 J) d48 (retA env Go.Proofs.Tryz.f48.results.toList k) .root (fset f 0 v_0) h = s48_0 c k J v_0 h := by kernel_rfl
theorem w48 {c : Caller Prop FT} (hc : CallOk Go.Proofs.Tryz.prog (CP env) G (fun p => p) c) {k : KV} {n : Nat} {args : List AV} {h : H} (hg : f48 (r48 c k n) 0 (finit args) h) : SW Go.Proofs.Tryz.prog G (.func 48) args h k :=
  fn_ok mixed envOk hc q48 Go.Proofs.Tryz.func48 rfl (by kernel_rfl) (by kernel_rfl) k u48 (fun n => f48 (r48 c k n))
    (fun L f h hl => by
      match L, hl with
      | 0, hl => exact hl
      | _ + 1, hl => exact hl)
    (fun n p L hm f h hl => by
      simp only [u48, List.mem_cons, Prod.mk.injEq, List.not_mem_nil, or_false] at hm
      rcases hm with ⟨rfl, rfl⟩
      · have hl : f48 (r48 c k (n + 1)) 0 f h := hl
        have hh := e48_0 c k (r48 c k n) f h (f 0)
        rw [fset_self (rfl : f 0 = f 0)] at hh
        exact Eq.mpr hh hl
    ) (by simp [u48]) hg

theorem e56_0 (c : Caller Prop FT) (k : KV) (J : J56) (f : FT) (h : H) (v_0 : AV) : chunkA env c q56 u56 (f56 J) d56 (retA env Go.Proofs.Tryz.f56.results.toList k) .root (fset f 0 v_0) h = s56_0 c k J v_0 h := by kernel_rfl
theorem w56 {c : Caller Prop FT} (hc : CallOk Go.Proofs.Tryz.prog (CP env) G (fun p => p) c) {k : KV} {n : Nat} {args : List AV} {h : H} (hg : f56 (r56 c k n) 0 (finit args) h) : SW Go.Proofs.Tryz.prog G (.func 56) args h k :=
  fn_ok mixed envOk hc q56 Go.Proofs.Tryz.func56 rfl (by kernel_rfl) (by kernel_rfl) k u56 (fun n => f56 (r56 c k n))
    (fun L f h hl => by
      match L, hl with
      | 0, hl => exact hl
      | _ + 1, hl => exact hl)
    (fun n p L hm f h hl => by
      simp only [u56, List.mem_cons, Prod.mk.injEq, List.not_mem_nil, or_false] at hm
      rcases hm with ⟨rfl, rfl⟩
      · have hl : f56 (r56 c k (n + 1)) 0 f h := hl
        have hh := e56_0 c k (r56 c k n) f h (f 0)
        rw [fset_self (rfl : f 0 = f 0)] at hh
        exact Eq.mpr hh hl
    ) (by simp [u56]) hg

theorem e59_0 (c : Caller Prop FT) (k : KV) (J : J59) (f : FT) (h : H) (l_0 : Nat) (c_0 : Nat) : chunkA env c q59 u59 (f59 J) d59 (retA env Go.Proofs.Tryz.f59.results.toList k) .root (fset f 0 (.str l_0 c_0)) h = s59_0 c k J l_0 c_0 h := by kernel_rfl
theorem e59_1 (c : Caller Prop FT) (k : KV) (J : J59) (f : FT) (h : H) (l_0 : Nat) (c_0 : Nat) (v_3 : AV) (n_4 : Int) (n_5 : Int) : chunkA env c q59 u59 (f59 J) d59 (retA env Go.Proofs.Tryz.f59.results.toList k) (.l (.r (.l (.r (.r (.r .root)))))) (fset (fset (fset (fset f 0 (.str l_0 c_0)) 3 v_3) 4 (.int .i64 n_4)) 5 (.int .i64 n_5)) h = s59_1 c k J l_0 c_0 v_3 n_4 n_5 h := by kernel_rfl
theorem e59_2 (c : Caller Prop FT) (k : KV) (J : J59) (f : FT) (h : H) (l_0 : Nat) (c_0 : Nat) (v_3 : AV) (n_4 : Int) (n_5 : Int) : chunkA env c q59 u59 (f59 J) d59 (retA env Go.Proofs.Tryz.f59.results.toList k) (.r (.r (.l (.l (.r (.l (.r (.r (.r .root))))))))) (fset (fset (fset (fset f 0 (.str l_0 c_0)) 3 v_3) 4 (.int .i64 n_4)) 5 (.int .i64 n_5)) h = s59_2 c k J l_0 c_0 v_3 n_4 n_5 h := by kernel_rfl
theorem w59 {c : Caller Prop FT} (hc : CallOk Go.Proofs.Tryz.prog (CP env) G (fun p => p) c) {k : KV} {n : Nat} {args : List AV} {h : H} (hg : f59 (r59 c k n) 0 (finit args) h) : SW Go.Proofs.Tryz.prog G (.func 59) args h k :=
  fn_ok mixed envOk hc q59 Go.Proofs.Tryz.func59 rfl (by kernel_rfl) (by kernel_rfl) k u59 (fun n => f59 (r59 c k n))
    (fun L f h hl => by
      match L, hl with
      | 0, hl => obtain ⟨_, _, _, hl0⟩ := asS_inv (show _ from hl); exact hl0
      | 1, hl => obtain ⟨_, _, _, hl0⟩ := asS_inv (show _ from hl); obtain ⟨_, _, hl1⟩ := asI_inv (show _ from hl0); obtain ⟨_, _, hl2⟩ := asI_inv (show _ from hl1); exact hl2
      | 2, hl => obtain ⟨_, _, _, hl0⟩ := asS_inv (show _ from hl); obtain ⟨_, _, hl1⟩ := asI_inv (show _ from hl0); obtain ⟨_, _, hl2⟩ := asI_inv (show _ from hl1); exact hl2
      | _ + 3, hl => exact hl)
    (fun n p L hm f h hl => by
      simp only [u59, List.mem_cons, Prod.mk.injEq, List.not_mem_nil, or_false] at hm
      rcases hm with ⟨rfl, rfl⟩ | ⟨rfl, rfl⟩ | ⟨rfl, rfl⟩
      · have hl : f59 (r59 c k (n + 1)) 0 f h := hl
        obtain ⟨l_0, c_0, e_0, hl0⟩ := asS_inv hl
        have hh := e59_0 c k (r59 c k n) f h l_0 c_0
        rw [fset_self e_0] at hh
        exact Eq.mpr hh hl0
      · have hl : f59 (r59 c k (n + 1)) 1 f h := hl
        obtain ⟨l_0, c_0, e_0, hl0⟩ := asS_inv hl
        obtain ⟨n_4, e_4, hl2⟩ := asI_inv hl0
        obtain ⟨n_5, e_5, hl3⟩ := asI_inv hl2
        have hh := e59_1 c k (r59 c k n) f h l_0 c_0 (f 3) n_4 n_5
        rw [fset_self e_0] at hh
        rw [fset_self (rfl : f 3 = f 3)] at hh
        rw [fset_self e_4] at hh
        rw [fset_self e_5] at hh
        exact Eq.mpr hh hl3
      · have hl : f59 (r59 c k (n + 1)) 2 f h := hl
        obtain ⟨l_0, c_0, e_0, hl0⟩ := asS_inv hl
        obtain ⟨n_4, e_4, hl2⟩ := asI_inv hl0
        obtain ⟨n_5, e_5, hl3⟩ := asI_inv hl2
        have hh := e59_2 c k (r59 c k n) f h l_0 c_0 (f 3) n_4 n_5
        rw [fset_self e_0] at hh
        rw [fset_self (rfl : f 3 = f 3)] at hh
        rw [fset_self e_4] at hh
        rw [fset_self e_5] at hh
        exact Eq.mpr hh hl3
    ) (by simp [u59]) hg

theorem e60_0 (c : Caller Prop FT) (k : KV) (J : J60) (f : FT) (h : H) (l_0 : Nat) (c_0 : Nat) : chunkA env c q60 u60 (f60 J) d60 (retA env Go.Proofs.Tryz.f60.results.toList k) .root (fset f 0 (.str l_0 c_0)) h = s60_0 c k J l_0 c_0 h := by kernel_rfl
theorem e60_1 (c : Caller Prop FT) (k : KV) (J : J60) (f : FT) (h : H) (l_0 : Nat) (c_0 : Nat) (n_3 : Int) : chunkA env c q60 u60 (f60 J) d60 (retA env Go.Proofs.Tryz.f60.results.toList k) (.l (.r (.l (.r .root)))) (fset (fset f 0 (.str l_0 c_0)) 3 (.int .i64 n_3)) h = s60_1 c k J l_0 c_0 n_3 h := by kernel_rfl
theorem w60 {c : Caller Prop FT} (hc : CallOk Go.Proofs.Tryz.prog (CP env) G (fun p => p) c) {k : KV} {n : Nat} {args : List AV} {h : H} (hg : f60 (r60 c k n) 0 (finit args) h) : SW Go.Proofs.Tryz.prog G (.func 60) args h k :=
  fn_ok mixed envOk hc q60 Go.Proofs.Tryz.func60 rfl (by kernel_rfl) (by kernel_rfl) k u60 (fun n => f60 (r60 c k n))
    (fun L f h hl => by
      match L, hl with
      | 0, hl => obtain ⟨_, _, _, hl0⟩ := asS_inv (show _ from hl); exact hl0
      | 1, hl => obtain ⟨_, _, _, hl0⟩ := asS_inv (show _ from hl); obtain ⟨_, _, hl1⟩ := asI_inv (show _ from hl0); exact hl1
      | _ + 2, hl => exact hl)
    (fun n p L hm f h hl => by
      simp only [u60, List.mem_cons, Prod.mk.injEq, List.not_mem_nil, or_false] at hm
      rcases hm with ⟨rfl, rfl⟩ | ⟨rfl, rfl⟩
      · have hl : f60 (r60 c k (n + 1)) 0 f h := hl
        obtain ⟨l_0, c_0, e_0, hl0⟩ := asS_inv hl
        have hh := e60_0 c k (r60 c k n) f h l_0 c_0
        rw [fset_self e_0] at hh
        exact Eq.mpr hh hl0
      · have hl : f60 (r60 c k (n + 1)) 1 f h := hl
        obtain ⟨l_0, c_0, e_0, hl0⟩ := asS_inv hl
        obtain ⟨n_3, e_3, hl1⟩ := asI_inv hl0
        have hh := e60_1 c k (r60 c k n) f h l_0 c_0 n_3
        rw [fset_self e_0] at hh
        rw [fset_self e_3] at hh
        exact Eq.mpr hh hl1
    ) (by simp [u60]) hg

theorem w64 {c : Caller Prop FT} (hc : CallOk Go.Proofs.Tryz.prog (CP env) G (fun p => p) c) {k : KV} {m : Nat} {a : List AV} {h : H} (hg : runJ env c q64 u64 d64 (retA env Go.Proofs.Tryz.f64.results.toList k) m 0 (finit a) h) : SW Go.Proofs.Tryz.prog G (.func 64) a h k := fnI_ok mixed envOk hc q64 Go.Proofs.Tryz.func64 rfl (by kernel_rfl) (by kernel_rfl) (by kernel_rfl) (by simp [u64]) hg
theorem e69_0 (c : Caller Prop FT) (k : KV) (J : J69) (f : FT) (h : H) (v_0 : AV) : chunkA env c q69 u69 (f69 J) d69 (retA env Go.Proofs.Tryz.f69.results.toList k) .root (fset f 0 v_0) h = s69_0 c k J v_0 h := by kernel_rfl
theorem e69_1 (c : Caller Prop FT) (k : KV) (J : J69) (f : FT) (h : H) (v_0 : AV) (v_2 : AV) : chunkA env c q69 u69 (f69 J) d69 (retA env Go.Proofs.Tryz.f69.results.toList k) (.l (.r (.r .root))) (fset (fset f 0 v_0) 2 v_2) h = s69_1 c k J v_0 v_2 h := by kernel_rfl
theorem w69 {c : Caller Prop FT} (hc : CallOk Go.Proofs.Tryz.prog (CP env) G (fun p => p) c) {k : KV} {n : Nat} {args : List AV} {h : H} (hg : f69 (r69 c k n) 0 (finit args) h) : SW Go.Proofs.Tryz.prog G (.func 69) args h k :=
  fn_ok mixed envOk hc q69 Go.Proofs.Tryz.func69 rfl (by kernel_rfl) (by kernel_rfl) k u69 (fun n => f69 (r69 c k n))
    (fun L f h hl => by
      match L, hl with
      | 0, hl => exact hl
      | 1, hl => exact hl
      | _ + 2, hl => exact hl)
    (fun n p L hm f h hl => by
      simp only [u69, List.mem_cons, Prod.mk.injEq, List.not_mem_nil, or_false] at hm
      rcases hm with ⟨rfl, rfl⟩ | ⟨rfl, rfl⟩
      · have hl : f69 (r69 c k (n + 1)) 0 f h := hl
        have hh := e69_0 c k (r69 c k n) f h (f 0)
        rw [fset_self (rfl : f 0 = f 0)] at hh
        exact Eq.mpr hh hl
      · have hl : f69 (r69 c k (n + 1)) 1 f h := hl
        have hh := e69_1 c k (r69 c k n) f h (f 0) (f 2)
        rw [fset_self (rfl : f 0 = f 0)] at hh
        rw [fset_self (rfl : f 2 = f 2)] at hh
        exact Eq.mpr hh hl
    ) (by simp [u69]) hg

theorem e71_0 (c : Caller Prop FT) (k : KV) (J : J71) (f : FT) (h : H) (v_0 : AV) (n_1 : Int) : chunkA env c q71 u71 (f71 J) d71 (retA env Go.Proofs.Tryz.f71.results.toList k) .root (fset (fset f 0 v_0) 1 (.int .i64 n_1)) h = s71_0 c k J v_0 n_1 h := by kernel_rfl
theorem w71 {c : Caller Prop FT} (hc : CallOk Go.Proofs.Tryz.prog (CP env) G (fun p => p) c) {k : KV} {n : Nat} {args : List AV} {h : H} (hg : f71 (r71 c k n) 0 (finit args) h) : SW Go.Proofs.Tryz.prog G (.func 71) args h k :=
  fn_ok mixed envOk hc q71 Go.Proofs.Tryz.func71 rfl (by kernel_rfl) (by kernel_rfl) k u71 (fun n => f71 (r71 c k n))
    (fun L f h hl => by
      match L, hl with
      | 0, hl => obtain ⟨_, _, hl0⟩ := asI_inv (show _ from hl); exact hl0
      | _ + 1, hl => exact hl)
    (fun n p L hm f h hl => by
      simp only [u71, List.mem_cons, Prod.mk.injEq, List.not_mem_nil, or_false] at hm
      rcases hm with ⟨rfl, rfl⟩
      · have hl : f71 (r71 c k (n + 1)) 0 f h := hl
        obtain ⟨n_1, e_1, hl1⟩ := asI_inv hl
        have hh := e71_0 c k (r71 c k n) f h (f 0) n_1
        rw [fset_self (rfl : f 0 = f 0)] at hh
        rw [fset_self e_1] at hh
        exact Eq.mpr hh hl1
    ) (by simp [u71]) hg

theorem e72_0 (c : Caller Prop FT) (k : KV) (J : J72) (f : FT) (h : H) (v_0 : AV) (v_1 : AV) : chunkA env c q72 u72 (f72 J) d72 (retA env Go.Proofs.Tryz.f72.results.toList k) .root (fset (fset f 0 v_0) 1 v_1) h = s72_0 c k J v_0 v_1 h := by kernel_rfl
theorem e72_1 (c : Caller Prop FT) (k : KV) (J : J72) (f : FT) (h : H) (v_0 : AV) (v_3 : AV) : chunkA env c q72 u72 (f72 J) d72 (retA env Go.Proofs.Tryz.f72.results.toList k) (.r (.r (.r (.r .root)))) (fset (fset f 0 v_0) 3 v_3) h = s72_1 c k J v_0 v_3 h := by kernel_rfl
theorem w72 {c : Caller Prop FT} (hc : CallOk Go.Proofs.Tryz.prog (CP env) G (fun p => p) c) {k : KV} {n : Nat} {args : List AV} {h : H} (hg : f72 (r72 c k n) 0 (finit args) h) : SW Go.Proofs.Tryz.prog G (.func 72) args h k :=
  fn_ok mixed envOk hc q72 Go.Proofs.Tryz.func72 rfl (by kernel_rfl) (by kernel_rfl) k u72 (fun n => f72 (r72 c k n))
    (fun L f h hl => by
      match L, hl with
      | 0, hl => exact hl
      | 1, hl => exact hl
      | _ + 2, hl => exact hl)
    (fun n p L hm f h hl => by
      simp only [u72, List.mem_cons, Prod.mk.injEq, List.not_mem_nil, or_false] at hm
      rcases hm with ⟨rfl, rfl⟩ | ⟨rfl, rfl⟩
      · have hl : f72 (r72 c k (n + 1)) 0 f h := hl
        have hh := e72_0 c k (r72 c k n) f h (f 0) (f 1)
        rw [fset_self (rfl : f 0 = f 0)] at hh
        rw [fset_self (rfl : f 1 = f 1)] at hh
        exact Eq.mpr hh hl
      · have hl : f72 (r72 c k (n + 1)) 1 f h := hl
        have hh := e72_1 c k (r72 c k n) f h (f 0) (f 3)
        rw [fset_self (rfl : f 0 = f 0)] at hh
        rw [fset_self (rfl : f 3 = f 3)] at hh
        exact Eq.mpr hh hl
    ) (by simp [u72]) hg

theorem e73_0 (c : Caller Prop FT) (k : KV) (J : J73) (f : FT) (h : H) (l_0 : Nat) (c_0 : Nat) : chunkA env c q73 u73 (f73 J) d73 (retA env Go.Proofs.Tryz.f73.results.toList k) .root (fset f 0 (.str l_0 c_0)) h = s73_0 c k J l_0 c_0 h := by kernel_rfl
theorem e73_1 (c : Caller Prop FT) (k : KV) (J : J73) (f : FT) (h : H) (l_0 : Nat) (c_0 : Nat) (v_2 : AV) (n_3 : Int) : chunkA env c q73 u73 (f73 J) d73 (retA env Go.Proofs.Tryz.f73.results.toList k) (.lab (.r .root) 0) (fset (fset (fset f 0 (.str l_0 c_0)) 2 v_2) 3 (.int .i64 n_3)) h = s73_1 c k J l_0 c_0 v_2 n_3 h := by kernel_rfl
theorem w73 {c : Caller Prop FT} (hc : CallOk Go.Proofs.Tryz.prog (CP env) G (fun p => p) c) {k : KV} {n : Nat} {args : List AV} {h : H} (hg : f73 (r73 c k n) 0 (finit args) h) : SW Go.Proofs.Tryz.prog G (.func 73) args h k :=
  fn_ok mixed envOk hc q73 Go.Proofs.Tryz.func73 rfl (by kernel_rfl) (by kernel_rfl) k u73 (fun n => f73 (r73 c k n))
    (fun L f h hl => by
      match L, hl with
      | 0, hl => obtain ⟨_, _, _, hl0⟩ := asS_inv (show _ from hl); exact hl0
      | 1, hl => obtain ⟨_, _, _, hl0⟩ := asS_inv (show _ from hl); obtain ⟨_, _, hl1⟩ := asI_inv (show _ from hl0); exact hl1
      | _ + 2, hl => exact hl)
    (fun n p L hm f h hl => by
      simp only [u73, List.mem_cons, Prod.mk.injEq, List.not_mem_nil, or_false] at hm
      rcases hm with ⟨rfl, rfl⟩ | ⟨rfl, rfl⟩
      · have hl : f73 (r73 c k (n + 1)) 0 f h := hl
        obtain ⟨l_0, c_0, e_0, hl0⟩ := asS_inv hl
        have hh := e73_0 c k (r73 c k n) f h l_0 c_0
        rw [fset_self e_0] at hh
        exact Eq.mpr hh hl0
      · have hl : f73 (r73 c k (n + 1)) 1 f h := hl
        obtain ⟨l_0, c_0, e_0, hl0⟩ := asS_inv hl
        obtain ⟨n_3, e_3, hl2⟩ := asI_inv hl0
        have hh := e73_1 c k (r73 c k n) f h l_0 c_0 (f 2) n_3
        rw [fset_self e_0] at hh
        rw [fset_self (rfl : f 2 = f 2)] at hh
        rw [fset_self e_3] at hh
        exact Eq.mpr hh hl2
    ) (by simp [u73]) hg

theorem e75_0 (c : Caller Prop FT) (k : KV) (J : J75) (f : FT) (h : H) (v_0 : AV) : chunkA env c q75 u75 (f75 J) d75 (retA env Go.Proofs.Tryz.f75.results.toList k) .root (fset f 0 v_0) h = s75_0 c k J v_0 h := by kernel_rfl
theorem w75 {c : Caller Prop FT} (hc : CallOk Go.Proofs.Tryz.prog (CP env) G (fun p => p) c) {k : KV} {n : Nat} {args : List AV} {h : H} (hg : f75 (r75 c k n) 0 (finit args) h) : SW Go.Proofs.Tryz.prog G (.func 75) args h k :=
  fn_ok mixed envOk hc q75 Go.Proofs.Tryz.func75 rfl (by kernel_rfl) (by kernel_rfl) k u75 (fun n => f75 (r75 c k n))
    (fun L f h hl => by
      match L, hl with
      | 0, hl => exact hl
      | _ + 1, hl => exact hl)
    (fun n p L hm f h hl => by
      simp only [u75, List.mem_cons, Prod.mk.injEq, List.not_mem_nil, or_false] at hm
      rcases hm with ⟨rfl, rfl⟩
      · have hl : f75 (r75 c k (n + 1)) 0 f h := hl
        have hh := e75_0 c k (r75 c k n) f h (f 0)
        rw [fset_self (rfl : f 0 = f 0)] at hh
        exact Eq.mpr hh hl
    ) (by simp [u75]) hg

theorem e76_0 (c : Caller Prop FT) (k : KV) (J : J76) (f : FT) (h : H) (v_0 : AV) (v_1 : AV) : chunkA env c q76 u76 (f76 J) d76 (retA env Go.Proofs.Tryz.f76.results.toList k) .root (fset (fset f 0 v_0) 1 v_1) h = s76_0 c k J v_0 v_1 h := by kernel_rfl
theorem w76 {c : Caller Prop FT} (hc : CallOk Go.Proofs.Tryz.prog (CP env) G (fun p => p) c) {k : KV} {n : Nat} {args : List AV} {h : H} (hg : f76 (r76 c k n) 0 (finit args) h) : SW Go.Proofs.Tryz.prog G (.func 76) args h k :=
  fn_ok mixed envOk hc q76 Go.Proofs.Tryz.func76 rfl (by kernel_rfl) (by kernel_rfl) k u76 (fun n => f76 (r76 c k n))
    (fun L f h hl => by
      match L, hl with
      | 0, hl => exact hl
      | _ + 1, hl => exact hl)
    (fun n p L hm f h hl => by
      simp only [u76, List.mem_cons, Prod.mk.injEq, List.not_mem_nil, or_false] at hm
      rcases hm with ⟨rfl, rfl⟩
      · have hl : f76 (r76 c k (n + 1)) 0 f h := hl
        have hh := e76_0 c k (r76 c k n) f h (f 0) (f 1)
        rw [fset_self (rfl : f 0 = f 0)] at hh
        rw [fset_self (rfl : f 1 = f 1)] at hh
        exact Eq.mpr hh hl
    ) (by simp [u76]) hg

theorem e78_0 (c : Caller Prop FT) (k : KV) (J : J78) (f : FT) (h : H) (v_0 : AV) (l_1 : Nat) (c_1 : Nat) : chunkA env c q78 u78 (f78 J) d78 (retA env Go.Proofs.Tryz.f78.results.toList k) .root (fset (fset f 0 v_0) 1 (.str l_1 c_1)) h = s78_0 c k J v_0 l_1 c_1 h := by kernel_rfl
theorem w78 {c : Caller Prop FT} (hc : CallOk Go.Proofs.Tryz.prog (CP env) G (fun p => p) c) {k : KV} {n : Nat} {args : List AV} {h : H} (hg : f78 (r78 c k n) 0 (finit args) h) : SW Go.Proofs.Tryz.prog G (.func 78) args h k :=
  fn_ok mixed envOk hc q78 Go.Proofs.Tryz.func78 rfl (by kernel_rfl) (by kernel_rfl) k u78 (fun n => f78 (r78 c k n))
    (fun L f h hl => by
      match L, hl with
      | 0, hl => obtain ⟨_, _, _, hl0⟩ := asS_inv (show _ from hl); exact hl0
      | _ + 1, hl => exact hl)
    (fun n p L hm f h hl => by
      simp only [u78, List.mem_cons, Prod.mk.injEq, List.not_mem_nil, or_false] at hm
      rcases hm with ⟨rfl, rfl⟩
      · have hl : f78 (r78 c k (n + 1)) 0 f h := hl
        obtain ⟨l_1, c_1, e_1, hl1⟩ := asS_inv hl
        have hh := e78_0 c k (r78 c k n) f h (f 0) l_1 c_1
        rw [fset_self (rfl : f 0 = f 0)] at hh
        rw [fset_self e_1] at hh
        exact Eq.mpr hh hl1
    ) (by simp [u78]) hg

theorem e81_0 (c : Caller Prop FT) (k : KV) (J : J81) (f : FT) (h : H) (l_0 : Nat) (c_0 : Nat) : chunkA env c q81 u81 (f81 J) d81 (retA env Go.Proofs.Tryz.f81.results.toList k) .root (fset f 0 (.str l_0 c_0)) h = s81_0 c k J l_0 c_0 h := by kernel_rfl
theorem w81 {c : Caller Prop FT} (hc : CallOk Go.Proofs.Tryz.prog (CP env) G (fun p => p) c) {k : KV} {n : Nat} {args : List AV} {h : H} (hg : f81 (r81 c k n) 0 (finit args) h) : SW Go.Proofs.Tryz.prog G (.func 81) args h k :=
  fn_ok mixed envOk hc q81 Go.Proofs.Tryz.func81 rfl (by kernel_rfl) (by kernel_rfl) k u81 (fun n => f81 (r81 c k n))
    (fun L f h hl => by
      match L, hl with
      | 0, hl => obtain ⟨_, _, _, hl0⟩ := asS_inv (show _ from hl); exact hl0
      | _ + 1, hl => exact hl)
    (fun n p L hm f h hl => by
      simp only [u81, List.mem_cons, Prod.mk.injEq, List.not_mem_nil, or_false] at hm
      rcases hm with ⟨rfl, rfl⟩
      · have hl : f81 (r81 c k (n + 1)) 0 f h := hl
        obtain ⟨l_0, c_0, e_0, hl0⟩ := asS_inv hl
        have hh := e81_0 c k (r81 c k n) f h l_0 c_0
        rw [fset_self e_0] at hh
        exact Eq.mpr hh hl0
    ) (by simp [u81]) hg

theorem e91_0 (c : Caller Prop FT) (k : KV) (J : J91) (f : FT) (h : H) (n_0 : Int) : chunkA env c q91 u91 (f91 J) d91 (retA env Go.Proofs.Tryz.f91.results.toList k) .root (fset f 0 (.int .u64 n_0)) h = s91_0 c k J n_0 h := by kernel_rfl
theorem w91 {c : Caller Prop FT} (hc : CallOk Go.Proofs.Tryz.prog (CP env) G (fun p => p) c) {k : KV} {n : Nat} {args : List AV} {h : H} (hg : f91 (r91 c k n) 0 (finit args) h) : SW Go.Proofs.Tryz.prog G (.func 91) args h k :=
  fn_ok mixed envOk hc q91 Go.Proofs.Tryz.func91 rfl (by kernel_rfl) (by kernel_rfl) k u91 (fun n => f91 (r91 c k n))
    (fun L f h hl => by
      match L, hl with
      | 0, hl => obtain ⟨_, _, hl0⟩ := asI_inv (show _ from hl); exact hl0
      | _ + 1, hl => exact hl)
    (fun n p L hm f h hl => by
      simp only [u91, List.mem_cons, Prod.mk.injEq, List.not_mem_nil, or_false] at hm
      rcases hm with ⟨rfl, rfl⟩
      · have hl : f91 (r91 c k (n + 1)) 0 f h := hl
        obtain ⟨n_0, e_0, hl0⟩ := asI_inv hl
        have hh := e91_0 c k (r91 c k n) f h n_0
        rw [fset_self e_0] at hh
        exact Eq.mpr hh hl0
    ) (by simp [u91]) hg

theorem e94_0 (c : Caller Prop FT) (k : KV) (J : J94) (f : FT) (h : H) (v_0 : AV) (v_1 : AV) : chunkA env c q94 u94 (f94 J) d94 (retA env Go.Proofs.Tryz.f94.results.toList k) .root (fset (fset f 0 v_0) 1 v_1) h = s94_0 c k J v_0 v_1 h := by kernel_rfl
theorem w94 {c : Caller Prop FT} (hc : CallOk Go.Proofs.Tryz.prog (CP env) G (fun p => p) c) {k : KV} {n : Nat} {args : List AV} {h : H} (hg : f94 (r94 c k n) 0 (finit args) h) : SW Go.Proofs.Tryz.prog G (.func 94) args h k :=
  fn_ok mixed envOk hc q94 Go.Proofs.Tryz.func94 rfl (by kernel_rfl) (by kernel_rfl) k u94 (fun n => f94 (r94 c k n))
    (fun L f h hl => by
      match L, hl with
      | 0, hl => exact hl
      | _ + 1, hl => exact hl)
    (fun n p L hm f h hl => by
      simp only [u94, List.mem_cons, Prod.mk.injEq, List.not_mem_nil, or_false] at hm
      rcases hm with ⟨rfl, rfl⟩
      · have hl : f94 (r94 c k (n + 1)) 0 f h := hl
        have hh := e94_0 c k (r94 c k n) f h (f 0) (f 1)
        rw [fset_self (rfl : f 0 = f 0)] at hh
        rw [fset_self (rfl : f 1 = f 1)] at hh
        exact Eq.mpr hh hl
    ) (by simp [u94]) hg

theorem e97_0 (c : Caller Prop FT) (k : KV) (J : J97) (f : FT) (h : H) (v_0 : AV) (l_1 : Nat) (c_1 : Nat) : chunkA env c q97 u97 (f97 J) d97 (retA env Go.Proofs.Tryz.f97.results.toList k) .root (fset (fset f 0 v_0) 1 (.str l_1 c_1)) h = s97_0 c k J v_0 l_1 c_1 h := by kernel_rfl
theorem w97 {c : Caller Prop FT} (hc : CallOk Go.Proofs.Tryz.prog (CP env) G (fun p => p) c) {k : KV} {n : Nat} {args : List AV} {h : H} (hg : f97 (r97 c k n) 0 (finit args) h) : SW Go.Proofs.Tryz.prog G (.func 97) args h k :=
  fn_ok mixed envOk hc q97 Go.Proofs.Tryz.func97 rfl (by kernel_rfl) (by kernel_rfl) k u97 (fun n => f97 (r97 c k n))
    (fun L f h hl => by
      match L, hl with
      | 0, hl => obtain ⟨_, _, _, hl0⟩ := asS_inv (show _ from hl); exact hl0
      | _ + 1, hl => exact hl)
    (fun n p L hm f h hl => by
      simp only [u97, List.mem_cons, Prod.mk.injEq, List.not_mem_nil, or_false] at hm
      rcases hm with ⟨rfl, rfl⟩
      · have hl : f97 (r97 c k (n + 1)) 0 f h := hl
        obtain ⟨l_1, c_1, e_1, hl1⟩ := asS_inv hl
        have hh := e97_0 c k (r97 c k n) f h (f 0) l_1 c_1
        rw [fset_self (rfl : f 0 = f 0)] at hh
        rw [fset_self e_1] at hh
        exact Eq.mpr hh hl1
    ) (by simp [u97]) hg

theorem e98_0 (c : Caller Prop FT) (k : KV) (J : J98) (f : FT) (h : H) (v_0 : AV) (v_1 : AV) (v_2 : AV) : chunkA env c q98 u98 (f98 J) d98 (retA env Go.Proofs.Tryz.f98.results.toList k) .root (fset (fset (fset f 0 v_0) 1 v_1) 2 v_2) h = s98_0 c k J v_0 v_1 v_2 h := by kernel_rfl
theorem e98_1 (c : Caller Prop FT) (k : KV) (J : J98) (f : FT) (h : H) (v_1 : AV) (v_3 : AV) (v_5 : AV) (v_6 : AV) (n_7 : Int) (v_8 : AV) (n_44 : Int) (n_45 : Int) : chunkA env c q98 u98 (f98 J) d98 (retA env Go.Proofs.Tryz.f98.results.toList k) (.l (.r (.l (.r (.r (.r (.r .root))))))) (fset (fset (fset (fset (fset (fset (fset (fset f 1 v_1) 3 v_3) 5 v_5) 6 v_6) 7 (.int .i64 n_7)) 8 v_8) 44 (.int .i64 n_44)) 45 (.int .i64 n_45)) h = s98_1 c k J v_1 v_3 v_5 v_6 n_7 v_8 n_44 n_45 h := by kernel_rfl
theorem e98_2 (c : Caller Prop FT) (k : KV) (J : J98) (f : FT) (h : H) (v_3 : AV) (v_101 : AV) (n_102 : Int) (n_103 : Int) : chunkA env c q98 u98 (f98 J) d98 (retA env Go.Proofs.Tryz.f98.results.toList k) (.l (.r (.l (.r (.l (.r (.l (.r (.r (.r (.r (.r (.r (.r .root)))))))))))))) (fset (fset (fset (fset f 3 v_3) 101 v_101) 102 (.int .i64 n_102)) 103 (.int .i64 n_103)) h = s98_2 c k J v_3 v_101 n_102 n_103 h := by kernel_rfl
theorem e98_3 (c : Caller Prop FT) (k : KV) (J : J98) (f : FT) (h : H) (v_1 : AV) (v_3 : AV) (v_5 : AV) (v_6 : AV) (n_7 : Int) (v_8 : AV) (n_10 : Int) (v_14 : AV) (v_127 : AV) (n_128 : Int) (n_129 : Int) : chunkA env c q98 u98 (f98 J) d98 (retA env Go.Proofs.Tryz.f98.results.toList k) (.l (.r (.l (.r (.l (.r (.r (.r (.r (.r (.r (.r (.r (.r .root)))))))))))))) (fset (fset (fset (fset (fset (fset (fset (fset (fset (fset (fset f 1 v_1) 3 v_3) 5 v_5) 6 v_6) 7 (.int .i64 n_7)) 8 v_8) 10 (.int .i64 n_10)) 14 v_14) 127 v_127) 128 (.int .i64 n_128)) 129 (.int .i64 n_129)) h = s98_3 c k J v_1 v_3 v_5 v_6 n_7 v_8 n_10 v_14 v_127 n_128 n_129 h := by kernel_rfl
theorem e98_4 (c : Caller Prop FT) (k : KV) (J : J98) (f : FT) (h : H) (v_1 : AV) (v_3 : AV) (v_5 : AV) (n_7 : Int) (v_8 : AV) (v_14 : AV) : chunkA env c q98 u98 (f98 J) d98 (retA env Go.Proofs.Tryz.f98.results.toList k) (.r (.r (.r (.r (.r (.r (.r (.r (.r (.r (.r .root))))))))))) (fset (fset (fset (fset (fset (fset f 1 v_1) 3 v_3) 5 v_5) 7 (.int .i64 n_7)) 8 v_8) 14 v_14) h = s98_4 c k J v_1 v_3 v_5 n_7 v_8 v_14 h := by kernel_rfl
theorem e98_5 (c : Caller Prop FT) (k : KV) (J : J98) (f : FT) (h : H) (v_1 : AV) (v_3 : AV) (v_5 : AV) (v_6 : AV) (n_7 : Int) (v_8 : AV) (n_10 : Int) (v_14 : AV) : chunkA env c q98 u98 (f98 J) d98 (retA env Go.Proofs.Tryz.f98.results.toList k) (.r (.r (.r (.r (.r (.r (.r (.r (.r (.r .root)))))))))) (fset (fset (fset (fset (fset (fset (fset (fset f 1 v_1) 3 v_3) 5 v_5) 6 v_6) 7 (.int .i64 n_7)) 8 v_8) 10 (.int .i64 n_10)) 14 v_14) h = s98_5 c k J v_1 v_3 v_5 v_6 n_7 v_8 n_10 v_14 h := by kernel_rfl
theorem e98_6 (c : Caller Prop FT) (k : KV) (J : J98) (f : FT) (h : H) (v_3 : AV) (v_101 : AV) (n_102 : Int) (n_103 : Int) : chunkA env c q98 u98 (f98 J) d98 (retA env Go.Proofs.Tryz.f98.results.toList k) (.r (.l (.r (.l (.r (.l (.r (.r (.r (.r (.r (.r (.r .root))))))))))))) (fset (fset (fset (fset f 3 v_3) 101 v_101) 102 (.int .i64 n_102)) 103 (.int .i64 n_103)) h = s98_6 c k J v_3 v_101 n_102 n_103 h := by kernel_rfl
theorem e98_7 (c : Caller Prop FT) (k : KV) (J : J98) (f : FT) (h : H) (v_1 : AV) (v_3 : AV) (v_5 : AV) (v_6 : AV) (n_7 : Int) (v_8 : AV) (n_10 : Int) (v_14 : AV) (v_127 : AV) (n_128 : Int) (n_129 : Int) : chunkA env c q98 u98 (f98 J) d98 (retA env Go.Proofs.Tryz.f98.results.toList k) (.r (.l (.r (.l (.r (.r (.r (.r (.r (.r (.r (.r (.r .root))))))))))))) (fset (fset (fset (fset (fset (fset (fset (fset (fset (fset (fset f 1 v_1) 3 v_3) 5 v_5) 6 v_6) 7 (.int .i64 n_7)) 8 v_8) 10 (.int .i64 n_10)) 14 v_14) 127 v_127) 128 (.int .i64 n_128)) 129 (.int .i64 n_129)) h = s98_7 c k J v_1 v_3 v_5 v_6 n_7 v_8 n_10 v_14 v_127 n_128 n_129 h := by kernel_rfl
theorem w98 {c : Caller Prop FT} (hc : CallOk Go.Proofs.Tryz.prog (CP env) G (fun p => p) c) {k : KV} {n : Nat} {args : List AV} {h : H} (hg : f98 (r98 c k n) 0 (finit args) h) : SW Go.Proofs.Tryz.prog G (.func 98) args h k :=
  fn_ok mixed envOk hc q98 Go.Proofs.Tryz.func98 rfl (by kernel_rfl) (by kernel_rfl) k u98 (fun n => f98 (r98 c k n))
    (fun L f h hl => by
      match L, hl with
      | 0, hl => exact hl
      | 1, hl => obtain ⟨_, _, hl0⟩ := asI_inv (show _ from hl); obtain ⟨_, _, hl1⟩ := asI_inv (show _ from hl0); obtain ⟨_, _, hl2⟩ := asI_inv (show _ from hl1); exact hl2
      | 2, hl => obtain ⟨_, _, hl0⟩ := asI_inv (show _ from hl); obtain ⟨_, _, hl1⟩ := asI_inv (show _ from hl0); exact hl1
      | 3, hl => obtain ⟨_, _, hl0⟩ := asI_inv (show _ from hl); obtain ⟨_, _, hl1⟩ := asI_inv (show _ from hl0); obtain ⟨_, _, hl2⟩ := asI_inv (show _ from hl1); obtain ⟨_, _, hl3⟩ := asI_inv (show _ from hl2); exact hl3
      | 4, hl => obtain ⟨_, _, hl0⟩ := asI_inv (show _ from hl); exact hl0
      | 5, hl => obtain ⟨_, _, hl0⟩ := asI_inv (show _ from hl); obtain ⟨_, _, hl1⟩ := asI_inv (show _ from hl0); exact hl1
      | 6, hl => obtain ⟨_, _, hl0⟩ := asI_inv (show _ from hl); obtain ⟨_, _, hl1⟩ := asI_inv (show _ from hl0); exact hl1
      | 7, hl => obtain ⟨_, _, hl0⟩ := asI_inv (show _ from hl); obtain ⟨_, _, hl1⟩ := asI_inv (show _ from hl0); obtain ⟨_, _, hl2⟩ := asI_inv (show _ from hl1); obtain ⟨_, _, hl3⟩ := asI_inv (show _ from hl2); exact hl3
      | _ + 8, hl => exact hl)
    (fun n p L hm f h hl => by
      simp only [u98, List.mem_cons, Prod.mk.injEq, List.not_mem_nil, or_false] at hm
      rcases hm with ⟨rfl, rfl⟩ | ⟨rfl, rfl⟩ | ⟨rfl, rfl⟩ | ⟨rfl, rfl⟩ | ⟨rfl, rfl⟩ | ⟨rfl, rfl⟩ | ⟨rfl, rfl⟩ | ⟨rfl, rfl⟩
      · have hl : f98 (r98 c k (n + 1)) 0 f h := hl
        have hh := e98_0 c k (r98 c k n) f h (f 0) (f 1) (f 2)
        rw [fset_self (rfl : f 0 = f 0)] at hh
        rw [fset_self (rfl : f 1 = f 1)] at hh
        rw [fset_self (rfl : f 2 = f 2)] at hh
        exact Eq.mpr hh hl
      · have hl : f98 (r98 c k (n + 1)) 1 f h := hl
        obtain ⟨n_7, e_7, hl4⟩ := asI_inv hl
        obtain ⟨n_44, e_44, hl6⟩ := asI_inv hl4
        obtain ⟨n_45, e_45, hl7⟩ := asI_inv hl6
        have hh := e98_1 c k (r98 c k n) f h (f 1) (f 3) (f 5) (f 6) n_7 (f 8) n_44 n_45
        rw [fset_self (rfl : f 1 = f 1)] at hh
        rw [fset_self (rfl : f 3 = f 3)] at hh
        rw [fset_self (rfl : f 5 = f 5)] at hh
        rw [fset_self (rfl : f 6 = f 6)] at hh
        rw [fset_self e_7] at hh
        rw [fset_self (rfl : f 8 = f 8)] at hh
        rw [fset_self e_44] at hh
        rw [fset_self e_45] at hh
        exact Eq.mpr hh hl7
      · have hl : f98 (r98 c k (n + 1)) 2 f h := hl
        obtain ⟨n_102, e_102, hl2⟩ := asI_inv hl
        obtain ⟨n_103, e_103, hl3⟩ := asI_inv hl2
        have hh := e98_2 c k (r98 c k n) f h (f 3) (f 101) n_102 n_103
        rw [fset_self (rfl : f 3 = f 3)] at hh
        rw [fset_self (rfl : f 101 = f 101)] at hh
        rw [fset_self e_102] at hh
        rw [fset_self e_103] at hh
        exact Eq.mpr hh hl3
      · have hl : f98 (r98 c k (n + 1)) 3 f h := hl
        obtain ⟨n_7, e_7, hl4⟩ := asI_inv hl
        obtain ⟨n_10, e_10, hl6⟩ := asI_inv hl4
        obtain ⟨n_128, e_128, hl9⟩ := asI_inv hl6
        obtain ⟨n_129, e_129, hl10⟩ := asI_inv hl9
        have hh := e98_3 c k (r98 c k n) f h (f 1) (f 3) (f 5) (f 6) n_7 (f 8) n_10 (f 14) (f 127) n_128 n_129
        rw [fset_self (rfl : f 1 = f 1)] at hh
        rw [fset_self (rfl : f 3 = f 3)] at hh
        rw [fset_self (rfl : f 5 = f 5)] at hh
        rw [fset_self (rfl : f 6 = f 6)] at hh
        rw [fset_self e_7] at hh
        rw [fset_self (rfl : f 8 = f 8)] at hh
        rw [fset_self e_10] at hh
        rw [fset_self (rfl : f 14 = f 14)] at hh
        rw [fset_self (rfl : f 127 = f 127)] at hh
        rw [fset_self e_128] at hh
        rw [fset_self e_129] at hh
        exact Eq.mpr hh hl10
      · have hl : f98 (r98 c k (n + 1)) 4 f h := hl
        obtain ⟨n_7, e_7, hl3⟩ := asI_inv hl
        have hh := e98_4 c k (r98 c k n) f h (f 1) (f 3) (f 5) n_7 (f 8) (f 14)
        rw [fset_self (rfl : f 1 = f 1)] at hh
        rw [fset_self (rfl : f 3 = f 3)] at hh
        rw [fset_self (rfl : f 5 = f 5)] at hh
        rw [fset_self e_7] at hh
        rw [fset_self (rfl : f 8 = f 8)] at hh
        rw [fset_self (rfl : f 14 = f 14)] at hh
        exact Eq.mpr hh hl3
      · have hl : f98 (r98 c k (n + 1)) 5 f h := hl
        obtain ⟨n_7, e_7, hl4⟩ := asI_inv hl
        obtain ⟨n_10, e_10, hl6⟩ := asI_inv hl4
        have hh := e98_5 c k (r98 c k n) f h (f 1) (f 3) (f 5) (f 6) n_7 (f 8) n_10 (f 14)
        rw [fset_self (rfl : f 1 = f 1)] at hh
        rw [fset_self (rfl : f 3 = f 3)] at hh
        rw [fset_self (rfl : f 5 = f 5)] at hh
        rw [fset_self (rfl : f 6 = f 6)] at hh
        rw [fset_self e_7] at hh
        rw [fset_self (rfl : f 8 = f 8)] at hh
        rw [fset_self e_10] at hh
        rw [fset_self (rfl : f 14 = f 14)] at hh
        exact Eq.mpr hh hl6
      · have hl : f98 (r98 c k (n + 1)) 6 f h := hl
        obtain ⟨n_102, e_102, hl2⟩ := asI_inv hl
        obtain ⟨n_103, e_103, hl3⟩ := asI_inv hl2
        have hh := e98_6 c k (r98 c k n) f h (f 3) (f 101) n_102 n_103
        rw [fset_self (rfl : f 3 = f 3)] at hh
        rw [fset_self (rfl : f 101 = f 101)] at hh
        rw [fset_self e_102] at hh
        rw [fset_self e_103] at hh
        exact Eq.mpr hh hl3
      · have hl : f98 (r98 c k (n + 1)) 7 f h := hl
        obtain ⟨n_7, e_7, hl4⟩ := asI_inv hl
        obtain ⟨n_10, e_10, hl6⟩ := asI_inv hl4
        obtain ⟨n_128, e_128, hl9⟩ := asI_inv hl6
        obtain ⟨n_129, e_129, hl10⟩ := asI_inv hl9
        have hh := e98_7 c k (r98 c k n) f h (f 1) (f 3) (f 5) (f 6) n_7 (f 8) n_10 (f 14) (f 127) n_128 n_129
        rw [fset_self (rfl : f 1 = f 1)] at hh
        rw [fset_self (rfl : f 3 = f 3)] at hh
        rw [fset_self (rfl : f 5 = f 5)] at hh
        rw [fset_self (rfl : f 6 = f 6)] at hh
        rw [fset_self e_7] at hh
        rw [fset_self (rfl : f 8 = f 8)] at hh
        rw [fset_self e_10] at hh
        rw [fset_self (rfl : f 14 = f 14)] at hh
        rw [fset_self (rfl : f 127 = f 127)] at hh
        rw [fset_self e_128] at hh
        rw [fset_self e_129] at hh
        exact Eq.mpr hh hl10
    ) (by simp [u98]) hg

theorem e103_0 (c : Caller Prop FT) (k : KV) (J : J103) (f : FT) (h : H) (v_0 : AV) (v_1 : AV) (v_2 : AV) (v_3 : AV) : chunkA env c q103 u103 (f103 J) d103 (retA env Go.Proofs.Tryz.f103.results.toList k) .root (fset (fset (fset (fset f 0 v_0) 1 v_1) 2 v_2) 3 v_3) h = s103_0 c k J v_0 v_1 v_2 v_3 h := by kernel_rfl
theorem e103_1 (c : Caller Prop FT) (k : KV) (J : J103) (f : FT) (h : H) (v_0 : AV) (v_2 : AV) : chunkA env c q103 u103 (f103 J) d103 (retA env Go.Proofs.Tryz.f103.results.toList k) (.l (.l (.l (.r (.l .root))))) (fset (fset f 0 v_0) 2 v_2) h = s103_1 c k J v_0 v_2 h := by kernel_rfl
theorem e103_2 (c : Caller Prop FT) (k : KV) (J : J103) (f : FT) (h : H) (v_0 : AV) (v_1 : AV) (v_2 : AV) (v_3 : AV) : chunkA env c q103 u103 (f103 J) d103 (retA env Go.Proofs.Tryz.f103.results.toList k) (.l (.l (.r .root))) (fset (fset (fset (fset f 0 v_0) 1 v_1) 2 v_2) 3 v_3) h = s103_2 c k J v_0 v_1 v_2 v_3 h := by kernel_rfl
theorem w103 {c : Caller Prop FT} (hc : CallOk Go.Proofs.Tryz.prog (CP env) G (fun p => p) c) {k : KV} {n : Nat} {args : List AV} {h : H} (hg : f103 (r103 c k n) 0 (finit args) h) : SW Go.Proofs.Tryz.prog G (.func 103) args h k :=
  fn_ok mixed envOk hc q103 Go.Proofs.Tryz.func103 rfl (by kernel_rfl) (by kernel_rfl) k u103 (fun n => f103 (r103 c k n))
    (fun L f h hl => by
      match L, hl with
      | 0, hl => exact hl
      | 1, hl => exact hl
      | 2, hl => exact hl
      | _ + 3, hl => exact hl)
    (fun n p L hm f h hl => by
      simp only [u103, List.mem_cons, Prod.mk.injEq, List.not_mem_nil, or_false] at hm
      rcases hm with ⟨rfl, rfl⟩ | ⟨rfl, rfl⟩ | ⟨rfl, rfl⟩
      · have hl : f103 (r103 c k (n + 1)) 0 f h := hl
        have hh := e103_0 c k (r103 c k n) f h (f 0) (f 1) (f 2) (f 3)
        rw [fset_self (rfl : f 0 = f 0)] at hh
        rw [fset_self (rfl : f 1 = f 1)] at hh
        rw [fset_self (rfl : f 2 = f 2)] at hh
        rw [fset_self (rfl : f 3 = f 3)] at hh
        exact Eq.mpr hh hl
      · have hl : f103 (r103 c k (n + 1)) 1 f h := hl
        have hh := e103_1 c k (r103 c k n) f h (f 0) (f 2)
        rw [fset_self (rfl : f 0 = f 0)] at hh
        rw [fset_self (rfl : f 2 = f 2)] at hh
        exact Eq.mpr hh hl
      · have hl : f103 (r103 c k (n + 1)) 2 f h := hl
        have hh := e103_2 c k (r103 c k n) f h (f 0) (f 1) (f 2) (f 3)
        rw [fset_self (rfl : f 0 = f 0)] at hh
        rw [fset_self (rfl : f 1 = f 1)] at hh
        rw [fset_self (rfl : f 2 = f 2)] at hh
        rw [fset_self (rfl : f 3 = f 3)] at hh
        exact Eq.mpr hh hl
    ) (by simp [u103]) hg

theorem w111 {c : Caller Prop FT} (hc : CallOk Go.Proofs.Tryz.prog (CP env) G (fun p => p) c) {k : KV} {m : Nat} {a : List AV} {h : H} (hg : runJ env c q111 u111 d111 (retA env Go.Proofs.Tryz.f111.results.toList k) m 0 (finit a) h) : SW Go.Proofs.Tryz.prog G (.func 111) a h k := fnI_ok mixed envOk hc q111 Go.Proofs.Tryz.func111 rfl (by kernel_rfl) (by kernel_rfl) (by kernel_rfl) (by simp [u111]) hg
theorem e123_0 (c : Caller Prop FT) (k : KV) (J : J123) (f : FT) (h : H) (n_0 : Int) : chunkA env c q123 u123 (f123 J) d123 (retA env Go.Proofs.Tryz.f123.results.toList k) .root (fset f 0 (.int .u64 n_0)) h = s123_0 c k J n_0 h := by kernel_rfl
theorem e123_1 (c : Caller Prop FT) (k : KV) (J : J123) (f : FT) (h : H) (n_0 : Int) (n_2 : Int) : chunkA env c q123 u123 (f123 J) d123 (retA env Go.Proofs.Tryz.f123.results.toList k) (.r (.r (.r (.r .root)))) (fset (fset f 0 (.int .u64 n_0)) 2 (.int .i64 n_2)) h = s123_1 c k J n_0 n_2 h := by kernel_rfl
theorem e123_2 (c : Caller Prop FT) (k : KV) (J : J123) (f : FT) (h : H) (n_0 : Int) (n_2 : Int) : chunkA env c q123 u123 (f123 J) d123 (retA env Go.Proofs.Tryz.f123.results.toList k) (.r (.r (.r .root))) (fset (fset f 0 (.int .u64 n_0)) 2 (.int .i64 n_2)) h = s123_2 c k J n_0 n_2 h := by kernel_rfl
theorem e123_3 (c : Caller Prop FT) (k : KV) (J : J123) (f : FT) (h : H) (n_0 : Int) (n_2 : Int) : chunkA env c q123 u123 (f123 J) d123 (retA env Go.Proofs.Tryz.f123.results.toList k) (.r (.r .root)) (fset (fset f 0 (.int .u64 n_0)) 2 (.int .i64 n_2)) h = s123_3 c k J n_0 n_2 h := by kernel_rfl
theorem w123 {c : Caller Prop FT} (hc : CallOk Go.Proofs.Tryz.prog (CP env) G (fun p => p) c) {k : KV} {n : Nat} {args : List AV} {h : H} (hg : f123 (r123 c k n) 0 (finit args) h) : SW Go.Proofs.Tryz.prog G (.func 123) args h k :=
  fn_ok mixed envOk hc q123 Go.Proofs.Tryz.func123 rfl (by kernel_rfl) (by kernel_rfl) k u123 (fun n => f123 (r123 c k n))
    (fun L f h hl => by
      match L, hl with
      | 0, hl => obtain ⟨_, _, hl0⟩ := asI_inv (show _ from hl); exact hl0
      | 1, hl => obtain ⟨_, _, hl0⟩ := asI_inv (show _ from hl); obtain ⟨_, _, hl1⟩ := asI_inv (show _ from hl0); exact hl1
      | 2, hl => obtain ⟨_, _, hl0⟩ := asI_inv (show _ from hl); obtain ⟨_, _, hl1⟩ := asI_inv (show _ from hl0); exact hl1
      | 3, hl => obtain ⟨_, _, hl0⟩ := asI_inv (show _ from hl); obtain ⟨_, _, hl1⟩ := asI_inv (show _ from hl0); exact hl1
      | _ + 4, hl => exact hl)
    (fun n p L hm f h hl => by
      simp only [u123, List.mem_cons, Prod.mk.injEq, List.not_mem_nil, or_false] at hm
      rcases hm with ⟨rfl, rfl⟩ | ⟨rfl, rfl⟩ | ⟨rfl, rfl⟩ | ⟨rfl, rfl⟩
      · have hl : f123 (r123 c k (n + 1)) 0 f h := hl
        obtain ⟨n_0, e_0, hl0⟩ := asI_inv hl
        have hh := e123_0 c k (r123 c k n) f h n_0
        rw [fset_self e_0] at hh
        exact Eq.mpr hh hl0
      · have hl : f123 (r123 c k (n + 1)) 1 f h := hl
        obtain ⟨n_0, e_0, hl0⟩ := asI_inv hl
        obtain ⟨n_2, e_2, hl1⟩ := asI_inv hl0
        have hh := e123_1 c k (r123 c k n) f h n_0 n_2
        rw [fset_self e_0] at hh
        rw [fset_self e_2] at hh
        exact Eq.mpr hh hl1
      · have hl : f123 (r123 c k (n + 1)) 2 f h := hl
        obtain ⟨n_0, e_0, hl0⟩ := asI_inv hl
        obtain ⟨n_2, e_2, hl1⟩ := asI_inv hl0
        have hh := e123_2 c k (r123 c k n) f h n_0 n_2
        rw [fset_self e_0] at hh
        rw [fset_self e_2] at hh
        exact Eq.mpr hh hl1
      · have hl : f123 (r123 c k (n + 1)) 3 f h := hl
        obtain ⟨n_0, e_0, hl0⟩ := asI_inv hl
        obtain ⟨n_2, e_2, hl1⟩ := asI_inv hl0
        have hh := e123_3 c k (r123 c k n) f h n_0 n_2
        rw [fset_self e_0] at hh
        rw [fset_self e_2] at hh
        exact Eq.mpr hh hl1
    ) (by simp [u123]) hg

theorem e133_0 (c : Caller Prop FT) (k : KV) (J : J133) (f : FT) (h : H) (n_0 : Int) (v_1 : AV) : chunkA env c q133 u133 (f133 J) d133 (retA env Go.Proofs.Tryz.f133.results.toList k) .root (fset (fset f 0 (.int .i64 n_0)) 1 v_1) h = s133_0 c k J n_0 v_1 h := by kernel_rfl
theorem e133_1 (c : Caller Prop FT) (k : KV) (J : J133) (f : FT) (h : H) (n_0 : Int) (v_1 : AV) (v_4 : AV) (n_6 : Int) (n_7 : Int) (n_8 : Int) : chunkA env c q133 u133 (f133 J) d133 (retA env Go.Proofs.Tryz.f133.results.toList k) (.l (.r (.l (.r (.r (.r .root)))))) (fset (fset (fset (fset (fset (fset f 0 (.int .i64 n_0)) 1 v_1) 4 v_4) 6 (.int .i64 n_6)) 7 (.int .i64 n_7)) 8 (.int .i64 n_8)) h = s133_1 c k J n_0 v_1 v_4 n_6 n_7 n_8 h := by kernel_rfl
theorem e133_2 (c : Caller Prop FT) (k : KV) (J : J133) (f : FT) (h : H) (n_0 : Int) (v_1 : AV) (v_4 : AV) (n_6 : Int) (n_7 : Int) (n_8 : Int) : chunkA env c q133 u133 (f133 J) d133 (retA env Go.Proofs.Tryz.f133.results.toList k) (.r (.r (.l (.l (.r (.l (.r (.r (.r .root))))))))) (fset (fset (fset (fset (fset (fset f 0 (.int .i64 n_0)) 1 v_1) 4 v_4) 6 (.int .i64 n_6)) 7 (.int .i64 n_7)) 8 (.int .i64 n_8)) h = s133_2 c k J n_0 v_1 v_4 n_6 n_7 n_8 h := by kernel_rfl
theorem w133 {c : Caller Prop FT} (hc : CallOk Go.Proofs.Tryz.prog (CP env) G (fun p => p) c) {k : KV} {n : Nat} {args : List AV} {h : H} (hg : f133 (r133 c k n) 0 (finit args) h) : SW Go.Proofs.Tryz.prog G (.func 133) args h k :=
  fn_ok mixed envOk hc q133 Go.Proofs.Tryz.func133 rfl (by kernel_rfl) (by kernel_rfl) k u133 (fun n => f133 (r133 c k n))
    (fun L f h hl => by
      match L, hl with
      | 0, hl => obtain ⟨_, _, hl0⟩ := asI_inv (show _ from hl); exact hl0
      | 1, hl => obtain ⟨_, _, hl0⟩ := asI_inv (show _ from hl); obtain ⟨_, _, hl1⟩ := asI_inv (show _ from hl0); obtain ⟨_, _, hl2⟩ := asI_inv (show _ from hl1); obtain ⟨_, _, hl3⟩ := asI_inv (show _ from hl2); exact hl3
      | 2, hl => obtain ⟨_, _, hl0⟩ := asI_inv (show _ from hl); obtain ⟨_, _, hl1⟩ := asI_inv (show _ from hl0); obtain ⟨_, _, hl2⟩ := asI_inv (show _ from hl1); obtain ⟨_, _, hl3⟩ := asI_inv (show _ from hl2); exact hl3
      | _ + 3, hl => exact hl)
    (fun n p L hm f h hl => by
      simp only [u133, List.mem_cons, Prod.mk.injEq, List.not_mem_nil, or_false] at hm
      rcases hm with ⟨rfl, rfl⟩ | ⟨rfl, rfl⟩ | ⟨rfl, rfl⟩
      · have hl : f133 (r133 c k (n + 1)) 0 f h := hl
        obtain ⟨n_0, e_0, hl0⟩ := asI_inv hl
        have hh := e133_0 c k (r133 c k n) f h n_0 (f 1)
        rw [fset_self e_0] at hh
        rw [fset_self (rfl : f 1 = f 1)] at hh
        exact Eq.mpr hh hl0
      · have hl : f133 (r133 c k (n + 1)) 1 f h := hl
        obtain ⟨n_0, e_0, hl0⟩ := asI_inv hl
        obtain ⟨n_6, e_6, hl3⟩ := asI_inv hl0
        obtain ⟨n_7, e_7, hl4⟩ := asI_inv hl3
        obtain ⟨n_8, e_8, hl5⟩ := asI_inv hl4
        have hh := e133_1 c k (r133 c k n) f h n_0 (f 1) (f 4) n_6 n_7 n_8
        rw [fset_self e_0] at hh
        rw [fset_self (rfl : f 1 = f 1)] at hh
        rw [fset_self (rfl : f 4 = f 4)] at hh
        rw [fset_self e_6] at hh
        rw [fset_self e_7] at hh
        rw [fset_self e_8] at hh
        exact Eq.mpr hh hl5
      · have hl : f133 (r133 c k (n + 1)) 2 f h := hl
        obtain ⟨n_0, e_0, hl0⟩ := asI_inv hl
        obtain ⟨n_6, e_6, hl3⟩ := asI_inv hl0
        obtain ⟨n_7, e_7, hl4⟩ := asI_inv hl3
        obtain ⟨n_8, e_8, hl5⟩ := asI_inv hl4
        have hh := e133_2 c k (r133 c k n) f h n_0 (f 1) (f 4) n_6 n_7 n_8
        rw [fset_self e_0] at hh
        rw [fset_self (rfl : f 1 = f 1)] at hh
        rw [fset_self (rfl : f 4 = f 4)] at hh
        rw [fset_self e_6] at hh
        rw [fset_self e_7] at hh
        rw [fset_self e_8] at hh
        exact Eq.mpr hh hl5
    ) (by simp [u133]) hg

theorem e135_0 (c : Caller Prop FT) (k : KV) (J : J135) (f : FT) (h : H) (v_0 : AV) (n_1 : Int) (v_2 : AV) : chunkA env c q135 u135 (f135 J) d135 (retA env Go.Proofs.Tryz.f135.results.toList k) .root (fset (fset (fset f 0 v_0) 1 (.int .i64 n_1)) 2 v_2) h = s135_0 c k J v_0 n_1 v_2 h := by kernel_rfl
theorem w135 {c : Caller Prop FT} (hc : CallOk Go.Proofs.Tryz.prog (CP env) G (fun p => p) c) {k : KV} {n : Nat} {args : List AV} {h : H} (hg : f135 (r135 c k n) 0 (finit args) h) : SW Go.Proofs.Tryz.prog G (.func 135) args h k :=
  fn_ok mixed envOk hc q135 Go.Proofs.Tryz.func135 rfl (by kernel_rfl) (by kernel_rfl) k u135 (fun n => f135 (r135 c k n))
    (fun L f h hl => by
      match L, hl with
      | 0, hl => obtain ⟨_, _, hl0⟩ := asI_inv (show _ from hl); exact hl0
      | _ + 1, hl => exact hl)
    (fun n p L hm f h hl => by
      simp only [u135, List.mem_cons, Prod.mk.injEq, List.not_mem_nil, or_false] at hm
      rcases hm with ⟨rfl, rfl⟩
      · have hl : f135 (r135 c k (n + 1)) 0 f h := hl
        obtain ⟨n_1, e_1, hl1⟩ := asI_inv hl
        have hh := e135_0 c k (r135 c k n) f h (f 0) n_1 (f 2)
        rw [fset_self (rfl : f 0 = f 0)] at hh
        rw [fset_self e_1] at hh
        rw [fset_self (rfl : f 2 = f 2)] at hh
        exact Eq.mpr hh hl1
    ) (by simp [u135]) hg

theorem w140 {c : Caller Prop FT} (hc : CallOk Go.Proofs.Tryz.prog (CP env) G (fun p => p) c) {k : KV} {m : Nat} {a : List AV} {h : H} (hg : runJ env c q140 u140 d140 (retA env Go.Proofs.Tryz.f140.results.toList k) m 0 (finit a) h) : SW Go.Proofs.Tryz.prog G (.func 140) a h k := fnI_ok mixed envOk hc q140 Go.Proofs.Tryz.func140 rfl (by kernel_rfl) (by kernel_rfl) (by kernel_rfl) (by simp [u140]) hg
theorem w143 {c : Caller Prop FT} (hc : CallOk Go.Proofs.Tryz.prog (CP env) G (fun p => p) c) {k : KV} {m : Nat} {a : List AV} {h : H} (hg : runJ env c q143 u143 d143 (retA env Go.Proofs.Tryz.f143.results.toList k) m 0 (finit a) h) : SW Go.Proofs.Tryz.prog G (.func 143) a h k := fnI_ok mixed envOk hc q143 Go.Proofs.Tryz.func143 rfl (by kernel_rfl) (by kernel_rfl) (by kernel_rfl) (by simp [u143]) hg
theorem w146 {c : Caller Prop FT} (hc : CallOk Go.Proofs.Tryz.prog (CP env) G (fun p => p) c) {k : KV} {m : Nat} {a : List AV} {h : H} (hg : runJ env c q146 u146 d146 (retA env Go.Proofs.Tryz.f146.results.toList k) m 0 (finit a) h) : SW Go.Proofs.Tryz.prog G (.func 146) a h k := fnI_ok mixed envOk hc q146 Go.Proofs.Tryz.func146 rfl (by kernel_rfl) (by kernel_rfl) (by kernel_rfl) (by simp [u146]) hg
theorem e147_0 (c : Caller Prop FT) (k : KV) (J : J147) (f : FT) (h : H) (l_0 : Nat) (c_0 : Nat) (l_1 : Nat) (c_1 : Nat) : chunkA env c q147 u147 (f147 J) d147 (retA env Go.Proofs.Tryz.f147.results.toList k) .root (fset (fset f 0 (.str l_0 c_0)) 1 (.str l_1 c_1)) h = s147_0 c k J l_0 c_0 l_1 c_1 h := by kernel_rfl
theorem w147 {c : Caller Prop FT} (hc : CallOk Go.Proofs.Tryz.prog (CP env) G (fun p => p) c) {k : KV} {n : Nat} {args : List AV} {h : H} (hg : f147 (r147 c k n) 0 (finit args) h) : SW Go.Proofs.Tryz.prog G (.func 147) args h k :=
  fn_ok mixed envOk hc q147 Go.Proofs.Tryz.func147 rfl (by kernel_rfl) (by kernel_rfl) k u147 (fun n => f147 (r147 c k n))
    (fun L f h hl => by
      match L, hl with
      | 0, hl => obtain ⟨_, _, _, hl0⟩ := asS_inv (show _ from hl); obtain ⟨_, _, _, hl1⟩ := asS_inv (show _ from hl0); exact hl1
      | _ + 1, hl => exact hl)
    (fun n p L hm f h hl => by
      simp only [u147, List.mem_cons, Prod.mk.injEq, List.not_mem_nil, or_false] at hm
      rcases hm with ⟨rfl, rfl⟩
      · have hl : f147 (r147 c k (n + 1)) 0 f h := hl
        obtain ⟨l_0, c_0, e_0, hl0⟩ := asS_inv hl
        obtain ⟨l_1, c_1, e_1, hl1⟩ := asS_inv hl0
        have hh := e147_0 c k (r147 c k n) f h l_0 c_0 l_1 c_1
        rw [fset_self e_0] at hh
        rw [fset_self e_1] at hh
        exact Eq.mpr hh hl1
    ) (by simp [u147]) hg

theorem w157 {c : Caller Prop FT} (hc : CallOk Go.Proofs.Tryz.prog (CP env) G (fun p => p) c) {k : KV} {m : Nat} {a : List AV} {h : H} (hg : runJ env c q157 u157 d157 (retA env Go.Proofs.Tryz.f157.results.toList k) m 0 (finit a) h) : SW Go.Proofs.Tryz.prog G (.func 157) a h k := fnI_ok mixed envOk hc q157 Go.Proofs.Tryz.func157 rfl (by kernel_rfl) (by kernel_rfl) (by kernel_rfl) (by simp [u157]) hg
theorem e169_0 (c : Caller Prop FT) (k : KV) (J : J169) (f : FT) (h : H) (l_0 : Nat) (c_0 : Nat) : chunkA env c q169 u169 (f169 J) d169 (retA env Go.Proofs.Tryz.f169.results.toList k) .root (fset f 0 (.str l_0 c_0)) h = s169_0 c k J l_0 c_0 h := by kernel_rfl
theorem w169 {c : Caller Prop FT} (hc : CallOk Go.Proofs.Tryz.prog (CP env) G (fun p => p) c) {k : KV} {n : Nat} {args : List AV} {h : H} (hg : f169 (r169 c k n) 0 (finit args) h) : SW Go.Proofs.Tryz.prog G (.func 169) args h k :=
  fn_ok mixed envOk hc q169 Go.Proofs.Tryz.func169 rfl (by kernel_rfl) (by kernel_rfl) k u169 (fun n => f169 (r169 c k n))
    (fun L f h hl => by
      match L, hl with
      | 0, hl => obtain ⟨_, _, _, hl0⟩ := asS_inv (show _ from hl); exact hl0
      | _ + 1, hl => exact hl)
    (fun n p L hm f h hl => by
      simp only [u169, List.mem_cons, Prod.mk.injEq, List.not_mem_nil, or_false] at hm
      rcases hm with ⟨rfl, rfl⟩
      · have hl : f169 (r169 c k (n + 1)) 0 f h := hl
        obtain ⟨l_0, c_0, e_0, hl0⟩ := asS_inv hl
        have hh := e169_0 c k (r169 c k n) f h l_0 c_0
        rw [fset_self e_0] at hh
        exact Eq.mpr hh hl0
    ) (by simp [u169]) hg

theorem e173_0 (c : Caller Prop FT) (k : KV) (J : J173) (f : FT) (h : H) (v_0 : AV) (n_1 : Int) : chunkA env c q173 u173 (f173 J) d173 (retA env Go.Proofs.Tryz.f173.results.toList k) .root (fset (fset f 0 v_0) 1 (.int .i64 n_1)) h = s173_0 c k J v_0 n_1 h := by kernel_rfl
theorem w173 {c : Caller Prop FT} (hc : CallOk Go.Proofs.Tryz.prog (CP env) G (fun p => p) c) {k : KV} {n : Nat} {args : List AV} {h : H} (hg : f173 (r173 c k n) 0 (finit args) h) : SW Go.Proofs.Tryz.prog G (.func 173) args h k :=
  fn_ok mixed envOk hc q173 Go.Proofs.Tryz.func173 rfl (by kernel_rfl) (by kernel_rfl) k u173 (fun n => f173 (r173 c k n))
    (fun L f h hl => by
      match L, hl with
      | 0, hl => obtain ⟨_, _, hl0⟩ := asI_inv (show _ from hl); exact hl0
      | _ + 1, hl => exact hl)
    (fun n p L hm f h hl => by
      simp only [u173, List.mem_cons, Prod.mk.injEq, List.not_mem_nil, or_false] at hm
      rcases hm with ⟨rfl, rfl⟩
      · have hl : f173 (r173 c k (n + 1)) 0 f h := hl
        obtain ⟨n_1, e_1, hl1⟩ := asI_inv hl
        have hh := e173_0 c k (r173 c k n) f h (f 0) n_1
        rw [fset_self (rfl : f 0 = f 0)] at hh
        rw [fset_self e_1] at hh
        exact Eq.mpr hh hl1
    ) (by simp [u173]) hg

theorem e174_0 (c : Caller Prop FT) (k : KV) (J : J174) (f : FT) (h : H) (n_0 : Int) : chunkA env c q174 u174 (f174 J) d174 (retA env Go.Proofs.Tryz.f174.results.toList k) .root (fset f 0 (.int .u8 n_0)) h = s174_0 c k J n_0 h := by kernel_rfl
theorem w174 {c : Caller Prop FT} (hc : CallOk Go.Proofs.Tryz.prog (CP env) G (fun p => p) c) {k : KV} {n : Nat} {args : List AV} {h : H} (hg : f174 (r174 c k n) 0 (finit args) h) : SW Go.Proofs.Tryz.prog G (.func 174) args h k :=
  fn_ok mixed envOk hc q174 Go.Proofs.Tryz.func174 rfl (by kernel_rfl) (by kernel_rfl) k u174 (fun n => f174 (r174 c k n))
    (fun L f h hl => by
      match L, hl with
      | 0, hl => obtain ⟨_, _, hl0⟩ := asI_inv (show _ from hl); exact hl0
      | _ + 1, hl => exact hl)
    (fun n p L hm f h hl => by
      simp only [u174, List.mem_cons, Prod.mk.injEq, List.not_mem_nil, or_false] at hm
      rcases hm with ⟨rfl, rfl⟩
      · have hl : f174 (r174 c k (n + 1)) 0 f h := hl
        obtain ⟨n_0, e_0, hl0⟩ := asI_inv hl
        have hh := e174_0 c k (r174 c k n) f h n_0
        rw [fset_self e_0] at hh
        exact Eq.mpr hh hl0
    ) (by simp [u174]) hg

theorem w183 {c : Caller Prop FT} (hc : CallOk Go.Proofs.Tryz.prog (CP env) G (fun p => p) c) {k : KV} {m : Nat} {a : List AV} {h : H} (hg : runJ env c q183 u183 d183 (retA env Go.Proofs.Tryz.f183.results.toList k) m 0 (finit a) h) : SW Go.Proofs.Tryz.prog G (.func 183) a h k := fnI_ok mixed envOk hc q183 Go.Proofs.Tryz.func183 rfl (by kernel_rfl) (by kernel_rfl) (by kernel_rfl) (by simp [u183]) hg
theorem w186 {c : Caller Prop FT} (hc : CallOk Go.Proofs.Tryz.prog (CP env) G (fun p => p) c) {k : KV} {m : Nat} {a : List AV} {h : H} (hg : runJ env c q186 u186 d186 (retA env Go.Proofs.Tryz.f186.results.toList k) m 0 (finit a) h) : SW Go.Proofs.Tryz.prog G (.func 186) a h k := fnI_ok mixed envOk hc q186 Go.Proofs.Tryz.func186 rfl (by kernel_rfl) (by kernel_rfl) (by kernel_rfl) (by simp [u186]) hg
theorem w190 {c : Caller Prop FT} (hc : CallOk Go.Proofs.Tryz.prog (CP env) G (fun p => p) c) {k : KV} {m : Nat} {a : List AV} {h : H} (hg : runJ env c q190 u190 d190 (retA env Go.Proofs.Tryz.f190.results.toList k) m 0 (finit a) h) : SW Go.Proofs.Tryz.prog G (.func 190) a h k := fnI_ok mixed envOk hc q190 Go.Proofs.Tryz.func190 rfl (by kernel_rfl) (by kernel_rfl) (by kernel_rfl) (by simp [u190]) hg
theorem e193_0 (c : Caller Prop FT) (k : KV) (J : J193) (f : FT) (h : H) (l_0 : Nat) (c_0 : Nat) (n_1 : Int) : chunkA env c q193 u193 (f193 J) d193 (retA env Go.Proofs.Tryz.f193.results.toList k) .root (fset (fset f 0 (.str l_0 c_0)) 1 (.int .u8 n_1)) h = s193_0 c k J l_0 c_0 n_1 h := by kernel_rfl
theorem w193 {c : Caller Prop FT} (hc : CallOk Go.Proofs.Tryz.prog (CP env) G (fun p => p) c) {k : KV} {n : Nat} {args : List AV} {h : H} (hg : f193 (r193 c k n) 0 (finit args) h) : SW Go.Proofs.Tryz.prog G (.func 193) args h k :=
  fn_ok mixed envOk hc q193 Go.Proofs.Tryz.func193 rfl (by kernel_rfl) (by kernel_rfl) k u193 (fun n => f193 (r193 c k n))
    (fun L f h hl => by
      match L, hl with
      | 0, hl => obtain ⟨_, _, _, hl0⟩ := asS_inv (show _ from hl); obtain ⟨_, _, hl1⟩ := asI_inv (show _ from hl0); exact hl1
      | _ + 1, hl => exact hl)
    (fun n p L hm f h hl => by
      simp only [u193, List.mem_cons, Prod.mk.injEq, List.not_mem_nil, or_false] at hm
      rcases hm with ⟨rfl, rfl⟩
      · have hl : f193 (r193 c k (n + 1)) 0 f h := hl
        obtain ⟨l_0, c_0, e_0, hl0⟩ := asS_inv hl
        obtain ⟨n_1, e_1, hl1⟩ := asI_inv hl0
        have hh := e193_0 c k (r193 c k n) f h l_0 c_0 n_1
        rw [fset_self e_0] at hh
        rw [fset_self e_1] at hh
        exact Eq.mpr hh hl1
    ) (by simp [u193]) hg

theorem e198_0 (c : Caller Prop FT) (k : KV) (J : J198) (f : FT) (h : H) (v_0 : AV) : chunkA env c q198 u198 (f198 J) d198 (retA env Go.Proofs.Tryz.f198.results.toList k) .root (fset f 0 v_0) h = s198_0 c k J v_0 h := by kernel_rfl
theorem w198 {c : Caller Prop FT} (hc : CallOk Go.Proofs.Tryz.prog (CP env) G (fun p => p) c) {k : KV} {n : Nat} {args : List AV} {h : H} (hg : f198 (r198 c k n) 0 (finit args) h) : SW Go.Proofs.Tryz.prog G (.func 198) args h k :=
  fn_ok mixed envOk hc q198 Go.Proofs.Tryz.func198 rfl (by kernel_rfl) (by kernel_rfl) k u198 (fun n => f198 (r198 c k n))
    (fun L f h hl => by
      match L, hl with
      | 0, hl => exact hl
      | _ + 1, hl => exact hl)
    (fun n p L hm f h hl => by
      simp only [u198, List.mem_cons, Prod.mk.injEq, List.not_mem_nil, or_false] at hm
      rcases hm with ⟨rfl, rfl⟩
      · have hl : f198 (r198 c k (n + 1)) 0 f h := hl
        have hh := e198_0 c k (r198 c k n) f h (f 0)
        rw [fset_self (rfl : f 0 = f 0)] at hh
        exact Eq.mpr hh hl
    ) (by simp [u198]) hg

theorem w201 {c : Caller Prop FT} (hc : CallOk Go.Proofs.Tryz.prog (CP env) G (fun p => p) c) {k : KV} {m : Nat} {a : List AV} {h : H} (hg : runJ env c q201 u201 d201 (retA env Go.Proofs.Tryz.f201.results.toList k) m 0 (finit a) h) : SW Go.Proofs.Tryz.prog G (.func 201) a h k := fnI_ok mixed envOk hc q201 Go.Proofs.Tryz.func201 rfl (by kernel_rfl) (by kernel_rfl) (by kernel_rfl) (by simp [u201]) hg
theorem w205 {c : Caller Prop FT} (hc : CallOk Go.Proofs.Tryz.prog (CP env) G (fun p => p) c) {k : KV} {m : Nat} {a : List AV} {h : H} (hg : runJ env c q205 u205 d205 (retA env Go.Proofs.Tryz.f205.results.toList k) m 0 (finit a) h) : SW Go.Proofs.Tryz.prog G (.func 205) a h k := fnI_ok mixed envOk hc q205 Go.Proofs.Tryz.func205 rfl (by kernel_rfl) (by kernel_rfl) (by kernel_rfl) (by simp [u205]) hg
theorem e206_0 (c : Caller Prop FT) (k : KV) (J : J206) (f : FT) (h : H) (v_0 : AV) : chunkA env c q206 u206 (f206 J) d206 (retA env Go.Proofs.Tryz.f206.results.toList k) .root (fset f 0 v_0) h = s206_0 c k J v_0 h := by kernel_rfl
theorem e206_1 (c : Caller Prop FT) (k : KV) (J : J206) (f : FT) (h : H) (v_2 : AV) (v_4 : AV) (v_6 : AV) (v_87 : AV) (n_88 : Int) (n_89 : Int) : chunkA env c q206 u206 (f206 J) d206 (retA env Go.Proofs.Tryz.f206.results.toList k) (.l (.r (.l (.r (.r (.r (.r (.r (.r (.r (.r (.r (.r (.r .root)))))))))))))) (fset (fset (fset (fset (fset (fset f 2 v_2) 4 v_4) 6 v_6) 87 v_87) 88 (.int .i64 n_88)) 89 (.int .i64 n_89)) h = s206_1 c k J v_2 v_4 v_6 v_87 n_88 n_89 h := by kernel_rfl
theorem e206_2 (c : Caller Prop FT) (k : KV) (J : J206) (f : FT) (h : H) (v_2 : AV) (v_4 : AV) (v_6 : AV) : chunkA env c q206 u206 (f206 J) d206 (retA env Go.Proofs.Tryz.f206.results.toList k) (.r (.r (.r (.r (.r (.r (.r (.r (.r (.r (.r .root))))))))))) (fset (fset (fset f 2 v_2) 4 v_4) 6 v_6) h = s206_2 c k J v_2 v_4 v_6 h := by kernel_rfl
theorem e206_3 (c : Caller Prop FT) (k : KV) (J : J206) (f : FT) (h : H) (v_0 : AV) (v_2 : AV) (v_4 : AV) (v_5 : AV) (v_6 : AV) (b_7 : Bool) : chunkA env c q206 u206 (f206 J) d206 (retA env Go.Proofs.Tryz.f206.results.toList k) (.r (.r (.r (.r (.r (.r (.r (.r (.r .root))))))))) (fset (fset (fset (fset (fset (fset f 0 v_0) 2 v_2) 4 v_4) 5 v_5) 6 v_6) 7 (.bool b_7)) h = s206_3 c k J v_0 v_2 v_4 v_5 v_6 b_7 h := by kernel_rfl
theorem e206_4 (c : Caller Prop FT) (k : KV) (J : J206) (f : FT) (h : H) (v_0 : AV) (v_2 : AV) (v_4 : AV) (v_5 : AV) (v_6 : AV) (b_7 : Bool) (b_59 : Bool) : chunkA env c q206 u206 (f206 J) d206 (retA env Go.Proofs.Tryz.f206.results.toList k) (.r (.l (.r (.r (.r (.r (.r (.r (.r (.r .root)))))))))) (fset (fset (fset (fset (fset (fset (fset f 0 v_0) 2 v_2) 4 v_4) 5 v_5) 6 v_6) 7 (.bool b_7)) 59 (.bool b_59)) h = s206_4 c k J v_0 v_2 v_4 v_5 v_6 b_7 b_59 h := by kernel_rfl
theorem w206 {c : Caller Prop FT} (hc : CallOk Go.Proofs.Tryz.prog (CP env) G (fun p => p) c) {k : KV} {n : Nat} {args : List AV} {h : H} (hg : f206 (r206 c k n) 0 (finit args) h) : SW Go.Proofs.Tryz.prog G (.func 206) args h k :=
  fn_ok mixed envOk hc q206 Go.Proofs.Tryz.func206 rfl (by kernel_rfl) (by kernel_rfl) k u206 (fun n => f206 (r206 c k n))
    (fun L f h hl => by
      match L, hl with
      | 0, hl => exact hl
      | 1, hl => obtain ⟨_, _, hl0⟩ := asI_inv (show _ from hl); obtain ⟨_, _, hl1⟩ := asI_inv (show _ from hl0); exact hl1
      | 2, hl => exact hl
      | 3, hl => obtain ⟨_, _, hl0⟩ := asB_inv (show _ from hl); exact hl0
      | 4, hl => obtain ⟨_, _, hl0⟩ := asB_inv (show _ from hl); obtain ⟨_, _, hl1⟩ := asB_inv (show _ from hl0); exact hl1
      | _ + 5, hl => exact hl)
    (fun n p L hm f h hl => by
      simp only [u206, List.mem_cons, Prod.mk.injEq, List.not_mem_nil, or_false] at hm
      rcases hm with ⟨rfl, rfl⟩ | ⟨rfl, rfl⟩ | ⟨rfl, rfl⟩ | ⟨rfl, rfl⟩ | ⟨rfl, rfl⟩
      · have hl : f206 (r206 c k (n + 1)) 0 f h := hl
        have hh := e206_0 c k (r206 c k n) f h (f 0)
        rw [fset_self (rfl : f 0 = f 0)] at hh
        exact Eq.mpr hh hl
      · have hl : f206 (r206 c k (n + 1)) 1 f h := hl
        obtain ⟨n_88, e_88, hl4⟩ := asI_inv hl
        obtain ⟨n_89, e_89, hl5⟩ := asI_inv hl4
        have hh := e206_1 c k (r206 c k n) f h (f 2) (f 4) (f 6) (f 87) n_88 n_89
        rw [fset_self (rfl : f 2 = f 2)] at hh
        rw [fset_self (rfl : f 4 = f 4)] at hh
        rw [fset_self (rfl : f 6 = f 6)] at hh
        rw [fset_self (rfl : f 87 = f 87)] at hh
        rw [fset_self e_88] at hh
        rw [fset_self e_89] at hh
        exact Eq.mpr hh hl5
      · have hl : f206 (r206 c k (n + 1)) 2 f h := hl
        have hh := e206_2 c k (r206 c k n) f h (f 2) (f 4) (f 6)
        rw [fset_self (rfl : f 2 = f 2)] at hh
        rw [fset_self (rfl : f 4 = f 4)] at hh
        rw [fset_self (rfl : f 6 = f 6)] at hh
        exact Eq.mpr hh hl
      · have hl : f206 (r206 c k (n + 1)) 3 f h := hl
        obtain ⟨b_7, e_7, hl5⟩ := asB_inv hl
        have hh := e206_3 c k (r206 c k n) f h (f 0) (f 2) (f 4) (f 5) (f 6) b_7
        rw [fset_self (rfl : f 0 = f 0)] at hh
        rw [fset_self (rfl : f 2 = f 2)] at hh
        rw [fset_self (rfl : f 4 = f 4)] at hh
        rw [fset_self (rfl : f 5 = f 5)] at hh
        rw [fset_self (rfl : f 6 = f 6)] at hh
        rw [fset_self e_7] at hh
        exact Eq.mpr hh hl5
      · have hl : f206 (r206 c k (n + 1)) 4 f h := hl
        obtain ⟨b_7, e_7, hl5⟩ := asB_inv hl
        obtain ⟨b_59, e_59, hl6⟩ := asB_inv hl5
        have hh := e206_4 c k (r206 c k n) f h (f 0) (f 2) (f 4) (f 5) (f 6) b_7 b_59
        rw [fset_self (rfl : f 0 = f 0)] at hh
        rw [fset_self (rfl : f 2 = f 2)] at hh
        rw [fset_self (rfl : f 4 = f 4)] at hh
        rw [fset_self (rfl : f 5 = f 5)] at hh
        rw [fset_self (rfl : f 6 = f 6)] at hh
        rw [fset_self e_7] at hh
        rw [fset_self e_59] at hh
        exact Eq.mpr hh hl6
    ) (by simp [u206]) hg

theorem e207_0 (c : Caller Prop FT) (k : KV) (J : J207) (f : FT) (h : H) (v_0 : AV) (v_1 : AV) : chunkA env c q207 u207 (f207 J) d207 (retA env Go.Proofs.Tryz.f207.results.toList k) .root (fset (fset f 0 v_0) 1 v_1) h = s207_0 c k J v_0 v_1 h := by kernel_rfl
theorem w207 {c : Caller Prop FT} (hc : CallOk Go.Proofs.Tryz.prog (CP env) G (fun p => p) c) {k : KV} {n : Nat} {args : List AV} {h : H} (hg : f207 (r207 c k n) 0 (finit args) h) : SW Go.Proofs.Tryz.prog G (.func 207) args h k :=
  fn_ok mixed envOk hc q207 Go.Proofs.Tryz.func207 rfl (by kernel_rfl) (by kernel_rfl) k u207 (fun n => f207 (r207 c k n))
    (fun L f h hl => by
      match L, hl with
      | 0, hl => exact hl
      | _ + 1, hl => exact hl)
    (fun n p L hm f h hl => by
      simp only [u207, List.mem_cons, Prod.mk.injEq, List.not_mem_nil, or_false] at hm
      rcases hm with ⟨rfl, rfl⟩
      · have hl : f207 (r207 c k (n + 1)) 0 f h := hl
        have hh := e207_0 c k (r207 c k n) f h (f 0) (f 1)
        rw [fset_self (rfl : f 0 = f 0)] at hh
        rw [fset_self (rfl : f 1 = f 1)] at hh
        exact Eq.mpr hh hl
    ) (by simp [u207]) hg

theorem e220_0 (c : Caller Prop FT) (k : KV) (J : J220) (f : FT) (h : H) (v_0 : AV) (l_1 : Nat) (c_1 : Nat) : chunkA env c q220 u220 (f220 J) d220 (retA env Go.Proofs.Tryz.f220.results.toList k) .root (fset (fset f 0 v_0) 1 (.str l_1 c_1)) h = s220_0 c k J v_0 l_1 c_1 h := by kernel_rfl
theorem w220 {c : Caller Prop FT} (hc : CallOk Go.Proofs.Tryz.prog (CP env) G (fun p => p) c) {k : KV} {n : Nat} {args : List AV} {h : H} (hg : f220 (r220 c k n) 0 (finit args) h) : SW Go.Proofs.Tryz.prog G (.func 220) args h k :=
  fn_ok mixed envOk hc q220 Go.Proofs.Tryz.func220 rfl (by kernel_rfl) (by kernel_rfl) k u220 (fun n => f220 (r220 c k n))
    (fun L f h hl => by
      match L, hl with
      | 0, hl => obtain ⟨_, _, _, hl0⟩ := asS_inv (show _ from hl); exact hl0
      | _ + 1, hl => exact hl)
    (fun n p L hm f h hl => by
      simp only [u220, List.mem_cons, Prod.mk.injEq, List.not_mem_nil, or_false] at hm
      rcases hm with ⟨rfl, rfl⟩
      · have hl : f220 (r220 c k (n + 1)) 0 f h := hl
        obtain ⟨l_1, c_1, e_1, hl1⟩ := asS_inv hl
        have hh := e220_0 c k (r220 c k n) f h (f 0) l_1 c_1
        rw [fset_self (rfl : f 0 = f 0)] at hh
        rw [fset_self e_1] at hh
        exact Eq.mpr hh hl1
    ) (by simp [u220]) hg

theorem e224_0 (c : Caller Prop FT) (k : KV) (J : J224) (f : FT) (h : H) (v_0 : AV) : chunkA env c q224 u224 (f224 J) d224 (retA env Go.Proofs.Tryz.f224.results.toList k) .root (fset f 0 v_0) h = s224_0 c k J v_0 h := by kernel_rfl
theorem e224_1 (c : Caller Prop FT) (k : KV) (J : J224) (f : FT) (h : H) (v_2 : AV) (v_5 : AV) (n_6 : Int) (n_7 : Int) : chunkA env c q224 u224 (f224 J) d224 (retA env Go.Proofs.Tryz.f224.results.toList k) (.l (.r (.l (.r .root)))) (fset (fset (fset (fset f 2 v_2) 5 v_5) 6 (.int .i64 n_6)) 7 (.int .i64 n_7)) h = s224_1 c k J v_2 v_5 n_6 n_7 h := by kernel_rfl
theorem w224 {c : Caller Prop FT} (hc : CallOk Go.Proofs.Tryz.prog (CP env) G (fun p => p) c) {k : KV} {n : Nat} {args : List AV} {h : H} (hg : f224 (r224 c k n) 0 (finit args) h) : SW Go.Proofs.Tryz.prog G (.func 224) args h k :=
  fn_ok mixed envOk hc q224 Go.Proofs.Tryz.func224 rfl (by kernel_rfl) (by kernel_rfl) k u224 (fun n => f224 (r224 c k n))
    (fun L f h hl => by
      match L, hl with
      | 0, hl => exact hl
      | 1, hl => obtain ⟨_, _, hl0⟩ := asI_inv (show _ from hl); obtain ⟨_, _, hl1⟩ := asI_inv (show _ from hl0); exact hl1
      | _ + 2, hl => exact hl)
    (fun n p L hm f h hl => by
      simp only [u224, List.mem_cons, Prod.mk.injEq, List.not_mem_nil, or_false] at hm
      rcases hm with ⟨rfl, rfl⟩ | ⟨rfl, rfl⟩
      · have hl : f224 (r224 c k (n + 1)) 0 f h := hl
        have hh := e224_0 c k (r224 c k n) f h (f 0)
        rw [fset_self (rfl : f 0 = f 0)] at hh
        exact Eq.mpr hh hl
      · have hl : f224 (r224 c k (n + 1)) 1 f h := hl
        obtain ⟨n_6, e_6, hl2⟩ := asI_inv hl
        obtain ⟨n_7, e_7, hl3⟩ := asI_inv hl2
        have hh := e224_1 c k (r224 c k n) f h (f 2) (f 5) n_6 n_7
        rw [fset_self (rfl : f 2 = f 2)] at hh
        rw [fset_self (rfl : f 5 = f 5)] at hh
        rw [fset_self e_6] at hh
        rw [fset_self e_7] at hh
        exact Eq.mpr hh hl3
    ) (by simp [u224]) hg

theorem e229_0 (c : Caller Prop FT) (k : KV) (J : J229) (f : FT) (h : H) (v_0 : AV) : chunkA env c q229 u229 (f229 J) d229 (retA env Go.Proofs.Tryz.f229.results.toList k) .root (fset f 0 v_0) h = s229_0 c k J v_0 h := by kernel_rfl
theorem w229 {c : Caller Prop FT} (hc : CallOk Go.Proofs.Tryz.prog (CP env) G (fun p => p) c) {k : KV} {n : Nat} {args : List AV} {h : H} (hg : f229 (r229 c k n) 0 (finit args) h) : SW Go.Proofs.Tryz.prog G (.func 229) args h k :=
  fn_ok mixed envOk hc q229 Go.Proofs.Tryz.func229 rfl (by kernel_rfl) (by kernel_rfl) k u229 (fun n => f229 (r229 c k n))
    (fun L f h hl => by
      match L, hl with
      | 0, hl => exact hl
      | _ + 1, hl => exact hl)
    (fun n p L hm f h hl => by
      simp only [u229, List.mem_cons, Prod.mk.injEq, List.not_mem_nil, or_false] at hm
      rcases hm with ⟨rfl, rfl⟩
      · have hl : f229 (r229 c k (n + 1)) 0 f h := hl
        have hh := e229_0 c k (r229 c k n) f h (f 0)
        rw [fset_self (rfl : f 0 = f 0)] at hh
        exact Eq.mpr hh hl
    ) (by simp [u229]) hg

theorem e230_0 (c : Caller Prop FT) (k : KV) (J : J230) (f : FT) (h : H) (v_0 : AV) : chunkA env c q230 u230 (f230 J) d230 (retA env Go.Proofs.Tryz.f230.results.toList k) .root (fset f 0 v_0) h = s230_0 c k J v_0 h := by kernel_rfl
theorem w230 {c : Caller Prop FT} (hc : CallOk Go.Proofs.Tryz.prog (CP env) G (fun p => p) c) {k : KV} {n : Nat} {args : List AV} {h : H} (hg : f230 (r230 c k n) 0 (finit args) h) : SW Go.Proofs.Tryz.prog G (.func 230) args h k :=
  fn_ok mixed envOk hc q230 Go.Proofs.Tryz.func230 rfl (by kernel_rfl) (by kernel_rfl) k u230 (fun n => f230 (r230 c k n))
    (fun L f h hl => by
      match L, hl with
      | 0, hl => exact hl
      | _ + 1, hl => exact hl)
    (fun n p L hm f h hl => by
      simp only [u230, List.mem_cons, Prod.mk.injEq, List.not_mem_nil, or_false] at hm
      rcases hm with ⟨rfl, rfl⟩
      · have hl : f230 (r230 c k (n + 1)) 0 f h := hl
        have hh := e230_0 c k (r230 c k n) f h (f 0)
        rw [fset_self (rfl : f 0 = f 0)] at hh
        exact Eq.mpr hh hl
    ) (by simp [u230]) hg
theorem wd230 {c : Caller Prop FT} (hc : CallOk Go.Proofs.Tryz.prog (CP env) G (fun p => p) c) {k : KV} {n : Nat} {args : List AV} {h : H} (hg : f230 (r230 c k n) 0 (finit args) h) : SWD Go.Proofs.Tryz.prog G 230 args h k :=
  fnD_ok mixed envOk hc q230 Go.Proofs.Tryz.func230 rfl (by kernel_rfl) (by kernel_rfl) k u230 (fun n => f230 (r230 c k n))
    (fun L f h hl => by
      match L, hl with
      | 0, hl => exact hl
      | _ + 1, hl => exact hl)
    (fun n p L hm f h hl => by
      simp only [u230, List.mem_cons, Prod.mk.injEq, List.not_mem_nil, or_false] at hm
      rcases hm with ⟨rfl, rfl⟩
      · have hl : f230 (r230 c k (n + 1)) 0 f h := hl
        have hh := e230_0 c k (r230 c k n) f h (f 0)
        rw [fset_self (rfl : f 0 = f 0)] at hh
        exact Eq.mpr hh hl
    ) (by simp [u230]) hg

theorem e231_0 (c : Caller Prop FT) (k : KV) (J : J231) (f : FT) (h : H) (v_0 : AV) (b_1 : Bool) : chunkA env c q231 u231 (f231 J) d231 (retA env Go.Proofs.Tryz.f231.results.toList k) .root (fset (fset f 0 v_0) 1 (.bool b_1)) h = s231_0 c k J v_0 b_1 h := by kernel_rfl
theorem w231 {c : Caller Prop FT} (hc : CallOk Go.Proofs.Tryz.prog (CP env) G (fun p => p) c) {k : KV} {n : Nat} {args : List AV} {h : H} (hg : f231 (r231 c k n) 0 (finit args) h) : SW Go.Proofs.Tryz.prog G (.func 231) args h k :=
  fn_ok mixed envOk hc q231 Go.Proofs.Tryz.func231 rfl (by kernel_rfl) (by kernel_rfl) k u231 (fun n => f231 (r231 c k n))
    (fun L f h hl => by
      match L, hl with
      | 0, hl => obtain ⟨_, _, hl0⟩ := asB_inv (show _ from hl); exact hl0
      | _ + 1, hl => exact hl)
    (fun n p L hm f h hl => by
      simp only [u231, List.mem_cons, Prod.mk.injEq, List.not_mem_nil, or_false] at hm
      rcases hm with ⟨rfl, rfl⟩
      · have hl : f231 (r231 c k (n + 1)) 0 f h := hl
        obtain ⟨b_1, e_1, hl1⟩ := asB_inv hl
        have hh := e231_0 c k (r231 c k n) f h (f 0) b_1
        rw [fset_self (rfl : f 0 = f 0)] at hh
        rw [fset_self e_1] at hh
        exact Eq.mpr hh hl1
    ) (by simp [u231]) hg
theorem wd231 {c : Caller Prop FT} (hc : CallOk Go.Proofs.Tryz.prog (CP env) G (fun p => p) c) {k : KV} {n : Nat} {args : List AV} {h : H} (hg : f231 (r231 c k n) 0 (finit args) h) : SWD Go.Proofs.Tryz.prog G 231 args h k :=
  fnD_ok mixed envOk hc q231 Go.Proofs.Tryz.func231 rfl (by kernel_rfl) (by kernel_rfl) k u231 (fun n => f231 (r231 c k n))
    (fun L f h hl => by
      match L, hl with
      | 0, hl => obtain ⟨_, _, hl0⟩ := asB_inv (show _ from hl); exact hl0
      | _ + 1, hl => exact hl)
    (fun n p L hm f h hl => by
      simp only [u231, List.mem_cons, Prod.mk.injEq, List.not_mem_nil, or_false] at hm
      rcases hm with ⟨rfl, rfl⟩
      · have hl : f231 (r231 c k (n + 1)) 0 f h := hl
        obtain ⟨b_1, e_1, hl1⟩ := asB_inv hl
        have hh := e231_0 c k (r231 c k n) f h (f 0) b_1
        rw [fset_self (rfl : f 0 = f 0)] at hh
        rw [fset_self e_1] at hh
        exact Eq.mpr hh hl1
    ) (by simp [u231]) hg

theorem w233 {c : Caller Prop FT} (hc : CallOk Go.Proofs.Tryz.prog (CP env) G (fun p => p) c) {k : KV} {m : Nat} {a : List AV} {h : H} (hg : runJ env c q233 u233 d233 (retA env Go.Proofs.Tryz.f233.results.toList k) m 0 (finit a) h) : SW Go.Proofs.Tryz.prog G (.func 233) a h k := fnI_ok mixed envOk hc q233 Go.Proofs.Tryz.func233 rfl (by kernel_rfl) (by kernel_rfl) (by kernel_rfl) (by simp [u233]) hg
theorem w237 {c : Caller Prop FT} (hc : CallOk Go.Proofs.Tryz.prog (CP env) G (fun p => p) c) {k : KV} {m : Nat} {a : List AV} {h : H} (hg : runJ env c q237 u237 d237 (retA env Go.Proofs.Tryz.f237.results.toList k) m 0 (finit a) h) : SW Go.Proofs.Tryz.prog G (.func 237) a h k := fnI_ok mixed envOk hc q237 Go.Proofs.Tryz.func237 rfl (by kernel_rfl) (by kernel_rfl) (by kernel_rfl) (by simp [u237]) hg
theorem e253_0 (c : Caller Prop FT) (k : KV) (J : J253) (f : FT) (h : H) (v_0 : AV) (l_1 : Nat) (c_1 : Nat) : chunkA env c q253 u253 (f253 J) d253 (retA env Go.Proofs.Tryz.f253.results.toList k) .root (fset (fset f 0 v_0) 1 (.str l_1 c_1)) h = s253_0 c k J v_0 l_1 c_1 h := by kernel_rfl
theorem e253_1 (c : Caller Prop FT) (k : KV) (J : J253) (f : FT) (h : H) (v_0 : AV) (l_1 : Nat) (c_1 : Nat) (n_7 : Int) (n_8 : Int) : chunkA env c q253 u253 (f253 J) d253 (retA env Go.Proofs.Tryz.f253.results.toList k) (.l (.r (.l (.r .root)))) (fset (fset (fset (fset f 0 v_0) 1 (.str l_1 c_1)) 7 (.int .i64 n_7)) 8 (.int .i64 n_8)) h = s253_1 c k J v_0 l_1 c_1 n_7 n_8 h := by kernel_rfl
theorem w253 {c : Caller Prop FT} (hc : CallOk Go.Proofs.Tryz.prog (CP env) G (fun p => p) c) {k : KV} {n : Nat} {args : List AV} {h : H} (hg : f253 (r253 c k n) 0 (finit args) h) : SW Go.Proofs.Tryz.prog G (.func 253) args h k :=
  fn_ok mixed envOk hc q253 Go.Proofs.Tryz.func253 rfl (by kernel_rfl) (by kernel_rfl) k u253 (fun n => f253 (r253 c k n))
    (fun L f h hl => by
      match L, hl with
      | 0, hl => obtain ⟨_, _, _, hl0⟩ := asS_inv (show _ from hl); exact hl0
      | 1, hl => obtain ⟨_, _, _, hl0⟩ := asS_inv (show _ from hl); obtain ⟨_, _, hl1⟩ := asI_inv (show _ from hl0); obtain ⟨_, _, hl2⟩ := asI_inv (show _ from hl1); exact hl2
      | _ + 2, hl => exact hl)
    (fun n p L hm f h hl => by
      simp only [u253, List.mem_cons, Prod.mk.injEq, List.not_mem_nil, or_false] at hm
      rcases hm with ⟨rfl, rfl⟩ | ⟨rfl, rfl⟩
      · have hl : f253 (r253 c k (n + 1)) 0 f h := hl
        obtain ⟨l_1, c_1, e_1, hl1⟩ := asS_inv hl
        have hh := e253_0 c k (r253 c k n) f h (f 0) l_1 c_1
        rw [fset_self (rfl : f 0 = f 0)] at hh
        rw [fset_self e_1] at hh
        exact Eq.mpr hh hl1
      · have hl : f253 (r253 c k (n + 1)) 1 f h := hl
        obtain ⟨l_1, c_1, e_1, hl1⟩ := asS_inv hl
        obtain ⟨n_7, e_7, hl2⟩ := asI_inv hl1
        obtain ⟨n_8, e_8, hl3⟩ := asI_inv hl2
        have hh := e253_1 c k (r253 c k n) f h (f 0) l_1 c_1 n_7 n_8
        rw [fset_self (rfl : f 0 = f 0)] at hh
        rw [fset_self e_1] at hh
        rw [fset_self e_7] at hh
        rw [fset_self e_8] at hh
        exact Eq.mpr hh hl3
    ) (by simp [u253]) hg

theorem w260 {c : Caller Prop FT} (hc : CallOk Go.Proofs.Tryz.prog (CP env) G (fun p => p) c) {k : KV} {m : Nat} {a : List AV} {h : H} (hg : runJ env c q260 u260 d260 (retA env Go.Proofs.Tryz.f260.results.toList k) m 0 (finit a) h) : SW Go.Proofs.Tryz.prog G (.func 260) a h k := fnI_ok mixed envOk hc q260 Go.Proofs.Tryz.func260 rfl (by kernel_rfl) (by kernel_rfl) (by kernel_rfl) (by simp [u260]) hg
theorem w265 {c : Caller Prop FT} (hc : CallOk Go.Proofs.Tryz.prog (CP env) G (fun p => p) c) {k : KV} {m : Nat} {a : List AV} {h : H} (hg : runJ env c q265 u265 d265 (retA env Go.Proofs.Tryz.f265.results.toList k) m 0 (finit a) h) : SW Go.Proofs.Tryz.prog G (.func 265) a h k := fnI_ok mixed envOk hc q265 Go.Proofs.Tryz.func265 rfl (by kernel_rfl) (by kernel_rfl) (by kernel_rfl) (by simp [u265]) hg
theorem w288 {c : Caller Prop FT} (hc : CallOk Go.Proofs.Tryz.prog (CP env) G (fun p => p) c) {k : KV} {m : Nat} {a : List AV} {h : H} (hg : runJ env c q288 u288 d288 (retA env Go.Proofs.Tryz.f288.results.toList k) m 0 (finit a) h) : SW Go.Proofs.Tryz.prog G (.func 288) a h k := fnI_ok mixed envOk hc q288 Go.Proofs.Tryz.func288 rfl (by kernel_rfl) (by kernel_rfl) (by kernel_rfl) (by simp [u288]) hg
theorem w291 {c : Caller Prop FT} (hc : CallOk Go.Proofs.Tryz.prog (CP env) G (fun p => p) c) {k : KV} {m : Nat} {a : List AV} {h : H} (hg : runJ env c q291 u291 d291 (retA env Go.Proofs.Tryz.f291.results.toList k) m 0 (finit a) h) : SW Go.Proofs.Tryz.prog G (.func 291) a h k := fnI_ok mixed envOk hc q291 Go.Proofs.Tryz.func291 rfl (by kernel_rfl) (by kernel_rfl) (by kernel_rfl) (by simp [u291]) hg
theorem w295 {c : Caller Prop FT} (hc : CallOk Go.Proofs.Tryz.prog (CP env) G (fun p => p) c) {k : KV} {m : Nat} {a : List AV} {h : H} (hg : runJ env c q295 u295 d295 (retA env Go.Proofs.Tryz.f295.results.toList k) m 0 (finit a) h) : SW Go.Proofs.Tryz.prog G (.func 295) a h k := fnI_ok mixed envOk hc q295 Go.Proofs.Tryz.func295 rfl (by kernel_rfl) (by kernel_rfl) (by kernel_rfl) (by simp [u295]) hg
theorem w300 {c : Caller Prop FT} (hc : CallOk Go.Proofs.Tryz.prog (CP env) G (fun p => p) c) {k : KV} {m : Nat} {a : List AV} {h : H} (hg : runJ env c q300 u300 d300 (retA env Go.Proofs.Tryz.f300.results.toList k) m 0 (finit a) h) : SW Go.Proofs.Tryz.prog G (.func 300) a h k := fnI_ok mixed envOk hc q300 Go.Proofs.Tryz.func300 rfl (by kernel_rfl) (by kernel_rfl) (by kernel_rfl) (by simp [u300]) hg
theorem w320 {c : Caller Prop FT} (hc : CallOk Go.Proofs.Tryz.prog (CP env) G (fun p => p) c) {k : KV} {m : Nat} {a : List AV} {h : H} (hg : runJ env c q320 u320 d320 (retA env Go.Proofs.Tryz.f320.results.toList k) m 0 (finit a) h) : SW Go.Proofs.Tryz.prog G (.func 320) a h k := fnI_ok mixed envOk hc q320 Go.Proofs.Tryz.func320 rfl (by kernel_rfl) (by kernel_rfl) (by kernel_rfl) (by simp [u320]) hg
theorem w327 {c : Caller Prop FT} (hc : CallOk Go.Proofs.Tryz.prog (CP env) G (fun p => p) c) {k : KV} {m : Nat} {a : List AV} {h : H} (hg : runJ env c q327 u327 d327 (retA env Go.Proofs.Tryz.f327.results.toList k) m 0 (finit a) h) : SW Go.Proofs.Tryz.prog G (.func 327) a h k := fnI_ok mixed envOk hc q327 Go.Proofs.Tryz.func327 rfl (by kernel_rfl) (by kernel_rfl) (by kernel_rfl) (by simp [u327]) hg
theorem w345 {c : Caller Prop FT} (hc : CallOk Go.Proofs.Tryz.prog (CP env) G (fun p => p) c) {k : KV} {m : Nat} {a : List AV} {h : H} (hg : runJ env c q345 u345 d345 (retA env Go.Proofs.Tryz.f345.results.toList k) m 0 (finit a) h) : SW Go.Proofs.Tryz.prog G (.func 345) a h k := fnI_ok mixed envOk hc q345 Go.Proofs.Tryz.func345 rfl (by kernel_rfl) (by kernel_rfl) (by kernel_rfl) (by simp [u345]) hg
theorem w355 {c : Caller Prop FT} (hc : CallOk Go.Proofs.Tryz.prog (CP env) G (fun p => p) c) {k : KV} {m : Nat} {a : List AV} {h : H} (hg : runJ env c q355 u355 d355 (retA env Go.Proofs.Tryz.f355.results.toList k) m 0 (finit a) h) : SW Go.Proofs.Tryz.prog G (.func 355) a h k := fnI_ok mixed envOk hc q355 Go.Proofs.Tryz.func355 rfl (by kernel_rfl) (by kernel_rfl) (by kernel_rfl) (by simp [u355]) hg
end Go.Den
