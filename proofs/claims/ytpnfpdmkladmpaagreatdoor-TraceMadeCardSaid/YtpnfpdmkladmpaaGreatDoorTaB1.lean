/-
  A part of the proof: the pieces are what the program does.
-/
import Derived.Test.YtpnfpdmkladmpaaGreatDoorTaA1
import Derived.Test.YtpnfpdmkladmpaaGreatDoorTaA2
import Derived.KernelRfl
namespace Go.Den
set_option maxRecDepth 100000
theorem w13 {c : Caller Prop FT} (hc : CallOk Go.Proofs.Tryz.prog (CP env) G (fun p => p) c) {k : KV} {m : Nat} {a : List AV} {h : H} (hg : runJ env c q13 u13 d13 (retA env Go.Proofs.Tryz.f13.results.toList k) m 0 (finit a) h) : SW Go.Proofs.Tryz.prog G (.func 13) a h k := fnI_ok mixed envOk hc q13 Go.Proofs.Tryz.func13 rfl (by kernel_rfl) (by kernel_rfl) (by kernel_rfl) (by simp [u13]) hg
theorem w17 {c : Caller Prop FT} (hc : CallOk Go.Proofs.Tryz.prog (CP env) G (fun p => p) c) {k : KV} {m : Nat} {a : List AV} {h : H} (hg : runJ env c q17 u17 d17 (retA env Go.Proofs.Tryz.f17.results.toList k) m 0 (finit a) h) : SW Go.Proofs.Tryz.prog G (.func 17) a h k := fnI_ok mixed envOk hc q17 Go.Proofs.Tryz.func17 rfl (by kernel_rfl) (by kernel_rfl) (by kernel_rfl) (by simp [u17]) hg
theorem w22 {c : Caller Prop FT} (hc : CallOk Go.Proofs.Tryz.prog (CP env) G (fun p => p) c) {k : KV} {m : Nat} {a : List AV} {h : H} (hg : runJ env c q22 u22 d22 (retA env Go.Proofs.Tryz.f22.results.toList k) m 0 (finit a) h) : SW Go.Proofs.Tryz.prog G (.func 22) a h k := fnI_ok mixed envOk hc q22 Go.Proofs.Tryz.func22 rfl (by kernel_rfl) (by kernel_rfl) (by kernel_rfl) (by simp [u22]) hg
theorem e23_0 (c : Caller Prop FT) (k : KV) (J : J23) (f : FT) (h : H) (v_0 : AV) : chunkA env c q23 u23 (f23 J) d23 (retA env Go.Proofs.Tryz.f23.results.toList k) .root (fset f 0 v_0) h = s23_0 c k J v_0 h := by kernel_rfl
theorem w23 {c : Caller Prop FT} (hc : CallOk Go.Proofs.Tryz.prog (CP env) G (fun p => p) c) {k : KV} {n : Nat} {args : List AV} {h : H} (hg : f23 (r23 c k n) 0 (finit args) h) : SW Go.Proofs.Tryz.prog G (.func 23) args h k :=
  fn_ok mixed envOk hc q23 Go.Proofs.Tryz.func23 rfl (by kernel_rfl) (by kernel_rfl) k u23 (fun n => f23 (r23 c k n))
    (fun L f h hl => by
      match L, hl with
      | 0, hl => exact hl
      | _ + 1, hl => exact hl)
    (fun n p L hm f h hl => by
      simp only [u23, List.mem_cons, Prod.mk.injEq, List.not_mem_nil, or_false] at hm
      rcases hm with ⟨rfl, rfl⟩
      · have hl : f23 (r23 c k (n + 1)) 0 f h := hl
        have hh := e23_0 c k (r23 c k n) f h (f 0)
        rw [fset_self (rfl : f 0 = f 0)] at hh
        exact Eq.mpr hh hl
    ) (by simp [u23]) hg

theorem e25_0 (c : Caller Prop FT) (k : KV) (J : J25) (f : FT) (h : H) (v_0 : AV) (l_1 : Nat) (c_1 : Nat) (l_2 : Nat) (c_2 : Nat) : chunkA env c q25 u25 (f25 J) d25 (retA env Go.Proofs.Tryz.f25.results.toList k) .root (fset (fset (fset f 0 v_0) 1 (.str l_1 c_1)) 2 (.str l_2 c_2)) h = s25_0 c k J v_0 l_1 c_1 l_2 c_2 h := by kernel_rfl
theorem w25 {c : Caller Prop FT} (hc : CallOk Go.Proofs.Tryz.prog (CP env) G (fun p => p) c) {k : KV} {n : Nat} {args : List AV} {h : H} (hg : f25 (r25 c k n) 0 (finit args) h) : SW Go.Proofs.Tryz.prog G (.func 25) args h k :=
  fn_ok mixed envOk hc q25 Go.Proofs.Tryz.func25 rfl (by kernel_rfl) (by kernel_rfl) k u25 (fun n => f25 (r25 c k n))
    (fun L f h hl => by
      match L, hl with
      | 0, hl => obtain ⟨_, _, _, hl0⟩ := asS_inv (show _ from hl); obtain ⟨_, _, _, hl1⟩ := asS_inv (show _ from hl0); exact hl1
      | _ + 1, hl => exact hl)
    (fun n p L hm f h hl => by
      simp only [u25, List.mem_cons, Prod.mk.injEq, List.not_mem_nil, or_false] at hm
      rcases hm with ⟨rfl, rfl⟩
      · have hl : f25 (r25 c k (n + 1)) 0 f h := hl
        obtain ⟨l_1, c_1, e_1, hl1⟩ := asS_inv hl
        obtain ⟨l_2, c_2, e_2, hl2⟩ := asS_inv hl1
        have hh := e25_0 c k (r25 c k n) f h (f 0) l_1 c_1 l_2 c_2
        rw [fset_self (rfl : f 0 = f 0)] at hh
        rw [fset_self e_1] at hh
        rw [fset_self e_2] at hh
        exact Eq.mpr hh hl2
    ) (by simp [u25]) hg

theorem e26_0 (c : Caller Prop FT) (k : KV) (J : J26) (f : FT) (h : H) (v_0 : AV) (l_1 : Nat) (c_1 : Nat) (v_2 : AV) (v_3 : AV) : chunkA env c q26 u26 (f26 J) d26 (retA env Go.Proofs.Tryz.f26.results.toList k) .root (fset (fset (fset (fset f 0 v_0) 1 (.str l_1 c_1)) 2 v_2) 3 v_3) h = s26_0 c k J v_0 l_1 c_1 v_2 v_3 h := by kernel_rfl
theorem w26 {c : Caller Prop FT} (hc : CallOk Go.Proofs.Tryz.prog (CP env) G (fun p => p) c) {k : KV} {n : Nat} {args : List AV} {h : H} (hg : f26 (r26 c k n) 0 (finit args) h) : SW Go.Proofs.Tryz.prog G (.func 26) args h k :=
  fn_ok mixed envOk hc q26 Go.Proofs.Tryz.func26 rfl (by kernel_rfl) (by kernel_rfl) k u26 (fun n => f26 (r26 c k n))
    (fun L f h hl => by
      match L, hl with
      | 0, hl => obtain ⟨_, _, _, hl0⟩ := asS_inv (show _ from hl); exact hl0
      | _ + 1, hl => exact hl)
    (fun n p L hm f h hl => by
      simp only [u26, List.mem_cons, Prod.mk.injEq, List.not_mem_nil, or_false] at hm
      rcases hm with ⟨rfl, rfl⟩
      · have hl : f26 (r26 c k (n + 1)) 0 f h := hl
        obtain ⟨l_1, c_1, e_1, hl1⟩ := asS_inv hl
        have hh := e26_0 c k (r26 c k n) f h (f 0) l_1 c_1 (f 2) (f 3)
        rw [fset_self (rfl : f 0 = f 0)] at hh
        rw [fset_self e_1] at hh
        rw [fset_self (rfl : f 2 = f 2)] at hh
        rw [fset_self (rfl : f 3 = f 3)] at hh
        exact Eq.mpr hh hl1
    ) (by simp [u26]) hg

theorem e27_0 (c : Caller Prop FT) (k : KV) (J : J27) (f : FT) (h : H) (l_0 : Nat) (c_0 : Nat) (l_1 : Nat) (c_1 : Nat) : chunkA env c q27 u27 (f27 J) d27 (retA env Go.Proofs.Tryz.f27.results.toList k) .root (fset (fset f 0 (.str l_0 c_0)) 1 (.str l_1 c_1)) h = s27_0 c k J l_0 c_0 l_1 c_1 h := by kernel_rfl
theorem e27_1 (c : Caller Prop FT) (k : KV) (J : J27) (f : FT) (h : H) (l_1 : Nat) (c_1 : Nat) (v_4 : AV) (n_15 : Int) (n_16 : Int) : chunkA env c q27 u27 (f27 J) d27 (retA env Go.Proofs.Tryz.f27.results.toList k) (.l (.r (.l (.r (.r .root))))) (fset (fset (fset (fset f 1 (.str l_1 c_1)) 4 v_4) 15 (.int .i64 n_15)) 16 (.int .i64 n_16)) h = s27_1 c k J l_1 c_1 v_4 n_15 n_16 h := by kernel_rfl
theorem w27 {c : Caller Prop FT} (hc : CallOk Go.Proofs.Tryz.prog (CP env) G (fun p => p) c) {k : KV} {n : Nat} {args : List AV} {h : H} (hg : f27 (r27 c k n) 0 (finit args) h) : SW Go.Proofs.Tryz.prog G (.func 27) args h k :=
  fn_ok mixed envOk hc q27 Go.Proofs.Tryz.func27 rfl (by kernel_rfl) (by kernel_rfl) k u27 (fun n => f27 (r27 c k n))
    (fun L f h hl => by
      match L, hl with
      | 0, hl => obtain ⟨_, _, _, hl0⟩ := asS_inv (show _ from hl); obtain ⟨_, _, _, hl1⟩ := asS_inv (show _ from hl0); exact hl1
      | 1, hl => obtain ⟨_, _, _, hl0⟩ := asS_inv (show _ from hl); obtain ⟨_, _, hl1⟩ := asI_inv (show _ from hl0); obtain ⟨_, _, hl2⟩ := asI_inv (show _ from hl1); exact hl2
      | _ + 2, hl => exact hl)
    (fun n p L hm f h hl => by
      simp only [u27, List.mem_cons, Prod.mk.injEq, List.not_mem_nil, or_false] at hm
      rcases hm with ⟨rfl, rfl⟩ | ⟨rfl, rfl⟩
      · have hl : f27 (r27 c k (n + 1)) 0 f h := hl
        obtain ⟨l_0, c_0, e_0, hl0⟩ := asS_inv hl
        obtain ⟨l_1, c_1, e_1, hl1⟩ := asS_inv hl0
        have hh := e27_0 c k (r27 c k n) f h l_0 c_0 l_1 c_1
        rw [fset_self e_0] at hh
        rw [fset_self e_1] at hh
        exact Eq.mpr hh hl1
      · have hl : f27 (r27 c k (n + 1)) 1 f h := hl
        obtain ⟨l_1, c_1, e_1, hl0⟩ := asS_inv hl
        obtain ⟨n_15, e_15, hl2⟩ := asI_inv hl0
        obtain ⟨n_16, e_16, hl3⟩ := asI_inv hl2
        have hh := e27_1 c k (r27 c k n) f h l_1 c_1 (f 4) n_15 n_16
        rw [fset_self e_1] at hh
        rw [fset_self (rfl : f 4 = f 4)] at hh
        rw [fset_self e_15] at hh
        rw [fset_self e_16] at hh
        exact Eq.mpr hh hl3
    ) (by simp [u27]) hg

theorem e35_0 (c : Caller Prop FT) (k : KV) (J : J35) (f : FT) (h : H) (l_0 : Nat) (c_0 : Nat) : chunkA env c q35 u35 (f35 J) d35 (retA env Go.Proofs.Tryz.f35.results.toList k) .root (fset f 0 (.str l_0 c_0)) h = s35_0 c k J l_0 c_0 h := by kernel_rfl
theorem w35 {c : Caller Prop FT} (hc : CallOk Go.Proofs.Tryz.prog (CP env) G (fun p => p) c) {k : KV} {n : Nat} {args : List AV} {h : H} (hg : f35 (r35 c k n) 0 (finit args) h) : SW Go.Proofs.Tryz.prog G (.func 35) args h k :=
  fn_ok mixed envOk hc q35 Go.Proofs.Tryz.func35 rfl (by kernel_rfl) (by kernel_rfl) k u35 (fun n => f35 (r35 c k n))
    (fun L f h hl => by
      match L, hl with
      | 0, hl => obtain ⟨_, _, _, hl0⟩ := asS_inv (show _ from hl); exact hl0
      | _ + 1, hl => exact hl)
    (fun n p L hm f h hl => by
      simp only [u35, List.mem_cons, Prod.mk.injEq, List.not_mem_nil, or_false] at hm
      rcases hm with ⟨rfl, rfl⟩
      · have hl : f35 (r35 c k (n + 1)) 0 f h := hl
        obtain ⟨l_0, c_0, e_0, hl0⟩ := asS_inv hl
        have hh := e35_0 c k (r35 c k n) f h l_0 c_0
        rw [fset_self e_0] at hh
        exact Eq.mpr hh hl0
    ) (by simp [u35]) hg

theorem e36_0 (c : Caller Prop FT) (k : KV) (J : J36) (f : FT) (h : H) (v_0 : AV) (l_1 : Nat) (c_1 : Nat) (v_2 : AV) (n_3 : Int) : chunkA env c q36 u36 (f36 J) d36 (retA env Go.Proofs.Tryz.f36.results.toList k) .root (fset (fset (fset (fset f 0 v_0) 1 (.str l_1 c_1)) 2 v_2) 3 (.int .i64 n_3)) h = s36_0 c k J v_0 l_1 c_1 v_2 n_3 h := by kernel_rfl
theorem w36 {c : Caller Prop FT} (hc : CallOk Go.Proofs.Tryz.prog (CP env) G (fun p => p) c) {k : KV} {n : Nat} {args : List AV} {h : H} (hg : f36 (r36 c k n) 0 (finit args) h) : SW Go.Proofs.Tryz.prog G (.func 36) args h k :=
  fn_ok mixed envOk hc q36 Go.Proofs.Tryz.func36 rfl (by kernel_rfl) (by kernel_rfl) k u36 (fun n => f36 (r36 c k n))
    (fun L f h hl => by
      match L, hl with
      | 0, hl => obtain ⟨_, _, _, hl0⟩ := asS_inv (show _ from hl); obtain ⟨_, _, hl1⟩ := asI_inv (show _ from hl0); exact hl1
      | _ + 1, hl => exact hl)
    (fun n p L hm f h hl => by
      simp only [u36, List.mem_cons, Prod.mk.injEq, List.not_mem_nil, or_false] at hm
      rcases hm with ⟨rfl, rfl⟩
      · have hl : f36 (r36 c k (n + 1)) 0 f h := hl
        obtain ⟨l_1, c_1, e_1, hl1⟩ := asS_inv hl
        obtain ⟨n_3, e_3, hl3⟩ := asI_inv hl1
        have hh := e36_0 c k (r36 c k n) f h (f 0) l_1 c_1 (f 2) n_3
        rw [fset_self (rfl : f 0 = f 0)] at hh
        rw [fset_self e_1] at hh
        rw [fset_self (rfl : f 2 = f 2)] at hh
        rw [fset_self e_3] at hh
        exact Eq.mpr hh hl3
    ) (by simp [u36]) hg

theorem e37_0 (c : Caller Prop FT) (k : KV) (J : J37) (f : FT) (h : H) (v_0 : AV) (l_1 : Nat) (c_1 : Nat) : chunkA env c q37 u37 (f37 J) d37 (retA env Go.Proofs.Tryz.f37.results.toList k) .root (fset (fset f 0 v_0) 1 (.str l_1 c_1)) h = s37_0 c k J v_0 l_1 c_1 h := by kernel_rfl
theorem e37_1 (c : Caller Prop FT) (k : KV) (J : J37) (f : FT) (h : H) (v_0 : AV) (l_1 : Nat) (c_1 : Nat) (n_6 : Int) : chunkA env c q37 u37 (f37 J) d37 (retA env Go.Proofs.Tryz.f37.results.toList k) (.l (.l (.r (.r .root)))) (fset (fset (fset f 0 v_0) 1 (.str l_1 c_1)) 6 (.int .i64 n_6)) h = s37_1 c k J v_0 l_1 c_1 n_6 h := by kernel_rfl
theorem w37 {c : Caller Prop FT} (hc : CallOk Go.Proofs.Tryz.prog (CP env) G (fun p => p) c) {k : KV} {n : Nat} {args : List AV} {h : H} (hg : f37 (r37 c k n) 0 (finit args) h) : SW Go.Proofs.Tryz.prog G (.func 37) args h k :=
  fn_ok mixed envOk hc q37 Go.Proofs.Tryz.func37 rfl (by kernel_rfl) (by kernel_rfl) k u37 (fun n => f37 (r37 c k n))
    (fun L f h hl => by
      match L, hl with
      | 0, hl => obtain ⟨_, _, _, hl0⟩ := asS_inv (show _ from hl); exact hl0
      | 1, hl => obtain ⟨_, _, _, hl0⟩ := asS_inv (show _ from hl); obtain ⟨_, _, hl1⟩ := asI_inv (show _ from hl0); exact hl1
      | _ + 2, hl => exact hl)
    (fun n p L hm f h hl => by
      simp only [u37, List.mem_cons, Prod.mk.injEq, List.not_mem_nil, or_false] at hm
      rcases hm with ⟨rfl, rfl⟩ | ⟨rfl, rfl⟩
      · have hl : f37 (r37 c k (n + 1)) 0 f h := hl
        obtain ⟨l_1, c_1, e_1, hl1⟩ := asS_inv hl
        have hh := e37_0 c k (r37 c k n) f h (f 0) l_1 c_1
        rw [fset_self (rfl : f 0 = f 0)] at hh
        rw [fset_self e_1] at hh
        exact Eq.mpr hh hl1
      · have hl : f37 (r37 c k (n + 1)) 1 f h := hl
        obtain ⟨l_1, c_1, e_1, hl1⟩ := asS_inv hl
        obtain ⟨n_6, e_6, hl2⟩ := asI_inv hl1
        have hh := e37_1 c k (r37 c k n) f h (f 0) l_1 c_1 n_6
        rw [fset_self (rfl : f 0 = f 0)] at hh
        rw [fset_self e_1] at hh
        rw [fset_self e_6] at hh
        exact Eq.mpr hh hl2
    ) (by simp [u37]) hg

theorem e38_0 (c : Caller Prop FT) (k : KV) (J : J38) (f : FT) (h : H) (l_0 : Nat) (c_0 : Nat) : chunkA env c q38 u38 (f38 J) d38 (retA env Go.Proofs.Tryz.f38.results.toList k) .root (fset f 0 (.str l_0 c_0)) h = s38_0 c k J l_0 c_0 h := by kernel_rfl
theorem e38_1 (c : Caller Prop FT) (k : KV) (J : J38) (f : FT) (h : H) (v_3 : AV) (n_4 : Int) : chunkA env c q38 u38 (f38 J) d38 (retA env Go.Proofs.Tryz.f38.results.toList k) (.l (.r (.l (.r (.r (.r .root)))))) (fset (fset f 3 v_3) 4 (.int .i64 n_4)) h = s38_1 c k J v_3 n_4 h := by kernel_rfl
theorem w38 {c : Caller Prop FT} (hc : CallOk Go.Proofs.Tryz.prog (CP env) G (fun p => p) c) {k : KV} {n : Nat} {args : List AV} {h : H} (hg : f38 (r38 c k n) 0 (finit args) h) : SW Go.Proofs.Tryz.prog G (.func 38) args h k :=
  fn_ok mixed envOk hc q38 Go.Proofs.Tryz.func38 rfl (by kernel_rfl) (by kernel_rfl) k u38 (fun n => f38 (r38 c k n))
    (fun L f h hl => by
      match L, hl with
      | 0, hl => obtain ⟨_, _, _, hl0⟩ := asS_inv (show _ from hl); exact hl0
      | 1, hl => obtain ⟨_, _, hl0⟩ := asI_inv (show _ from hl); exact hl0
      | _ + 2, hl => exact hl)
    (fun n p L hm f h hl => by
      simp only [u38, List.mem_cons, Prod.mk.injEq, List.not_mem_nil, or_false] at hm
      rcases hm with ⟨rfl, rfl⟩ | ⟨rfl, rfl⟩
      · have hl : f38 (r38 c k (n + 1)) 0 f h := hl
        obtain ⟨l_0, c_0, e_0, hl0⟩ := asS_inv hl
        have hh := e38_0 c k (r38 c k n) f h l_0 c_0
        rw [fset_self e_0] at hh
        exact Eq.mpr hh hl0
      · have hl : f38 (r38 c k (n + 1)) 1 f h := hl
        obtain ⟨n_4, e_4, hl1⟩ := asI_inv hl
        have hh := e38_1 c k (r38 c k n) f h (f 3) n_4
        rw [fset_self (rfl : f 3 = f 3)] at hh
        rw [fset_self e_4] at hh
        exact Eq.mpr hh hl1
    ) (by simp [u38]) hg

theorem e41_0 (c : Caller Prop FT) (k : KV) (J : J41) (f : FT) (h : H) : chunkA env c q41 u41 (f41 J) d41 (retA env Go.Proofs.Tryz.f41.results.toList k) .root f h = s41_0 c k J  h := by kernel_rfl
theorem w41 {c : Caller Prop FT} (hc : CallOk Go.Proofs.Tryz.prog (CP env) G (fun p => p) c) {k : KV} {n : Nat} {args : List AV} {h : H} (hg : f41 (r41 c k n) 0 (finit args) h) : SW Go.Proofs.Tryz.prog G (.func 41) args h k :=
  fn_ok mixed envOk hc q41 Go.Proofs.Tryz.func41 rfl (by kernel_rfl) (by kernel_rfl) k u41 (fun n => f41 (r41 c k n))
    (fun L f h hl => by
      match L, hl with
      | 0, hl => exact hl
      | _ + 1, hl => exact hl)
    (fun n p L hm f h hl => by
      simp only [u41, List.mem_cons, Prod.mk.injEq, List.not_mem_nil, or_false] at hm
      rcases hm with ⟨rfl, rfl⟩
      · have hl : f41 (r41 c k (n + 1)) 0 f h := hl
        have hh := e41_0 c k (r41 c k n) f h 
        exact Eq.mpr hh hl
    ) (by simp [u41]) hg

theorem e45_0 (c : Caller Prop FT) (k : KV) (J : J45) (f : FT) (h : H) (v_0 : AV) : chunkA env c q45 u45 (f45 J) d45 (retA env Go.Proofs.Tryz.f45.results.toList k) .root (fset f 0 v_0) h = s45_0 c k J v_0 h := by kernel_rfl
theorem w45 {c : Caller Prop FT} (hc : CallOk Go.Proofs.Tryz.prog (CP env) G (fun p => p) c) {k : KV} {n : Nat} {args : List AV} {h : H} (hg : f45 (r45 c k n) 0 (finit args) h) : SW Go.Proofs.Tryz.prog G (.func 45) args h k :=
  fn_ok mixed envOk hc q45 Go.Proofs.Tryz.func45 rfl (by kernel_rfl) (by kernel_rfl) k u45 (fun n => f45 (r45 c k n))
    (fun L f h hl => by
      match L, hl with
      | 0, hl => exact hl
      | _ + 1, hl => exact hl)
    (fun n p L hm f h hl => by
      simp only [u45, List.mem_cons, Prod.mk.injEq, List.not_mem_nil, or_false] at hm
      rcases hm with ⟨rfl, rfl⟩
      · have hl : f45 (r45 c k (n + 1)) 0 f h := hl
        have hh := e45_0 c k (r45 c k n) f h (f 0)
        rw [fset_self (rfl : f 0 = f 0)] at hh
        exact Eq.mpr hh hl
    ) (by simp [u45]) hg

theorem e46_0 (c : Caller Prop FT) (k : KV) (J : J46) (f : FT) (h : H) (l_0 : Nat) (c_0 : Nat) (l_1 : Nat) (c_1 : Nat) : chunkA env c q46 u46 (f46 J) d46 (retA env Go.Proofs.Tryz.f46.results.toList k) .root (fset (fset f 0 (.str l_0 c_0)) 1 (.str l_1 c_1)) h = s46_0 c k J l_0 c_0 l_1 c_1 h := by kernel_rfl
theorem e46_1 (c : Caller Prop FT) (k : KV) (J : J46) (f : FT) (h : H) (l_1 : Nat) (c_1 : Nat) (v_4 : AV) (v_6 : AV) (n_7 : Int) : chunkA env c q46 u46 (f46 J) d46 (retA env Go.Proofs.Tryz.f46.results.toList k) (.l (.l (.r (.r (.r .root))))) (fset (fset (fset (fset f 1 (.str l_1 c_1)) 4 v_4) 6 v_6) 7 (.int .i64 n_7)) h = s46_1 c k J l_1 c_1 v_4 v_6 n_7 h := by kernel_rfl
theorem e46_2 (c : Caller Prop FT) (k : KV) (J : J46) (f : FT) (h : H) (l_1 : Nat) (c_1 : Nat) (v_4 : AV) (v_6 : AV) (v_8 : AV) : chunkA env c q46 u46 (f46 J) d46 (retA env Go.Proofs.Tryz.f46.results.toList k) (.r (.r (.l (.r (.l (.l (.l (.r (.r (.r .root)))))))))) (fset (fset (fset (fset f 1 (.str l_1 c_1)) 4 v_4) 6 v_6) 8 v_8) h = s46_2 c k J l_1 c_1 v_4 v_6 v_8 h := by kernel_rfl
theorem e46_3 (c : Caller Prop FT) (k : KV) (J : J46) (f : FT) (h : H) (v_4 : AV) (v_6 : AV) : chunkA env c q46 u46 (f46 J) d46 (retA env Go.Proofs.Tryz.f46.results.toList k) (.r (.r (.r (.r (.r .root))))) (fset (fset f 4 v_4) 6 v_6) h = s46_3 c k J v_4 v_6 h := by kernel_rfl
theorem w46 {c : Caller Prop FT} (hc : CallOk Go.Proofs.Tryz.prog (CP env) G (fun p => p) c) {k : KV} {n : Nat} {args : List AV} {h : H} (hg : f46 (r46 c k n) 0 (finit args) h) : SW Go.Proofs.Tryz.prog G (.func 46) args h k :=
  fn_ok mixed envOk hc q46 Go.Proofs.Tryz.func46 rfl (by kernel_rfl) (by kernel_rfl) k u46 (fun n => f46 (r46 c k n))
    (fun L f h hl => by
      match L, hl with
      | 0, hl => obtain ⟨_, _, _, hl0⟩ := asS_inv (show _ from hl); obtain ⟨_, _, _, hl1⟩ := asS_inv (show _ from hl0); exact hl1
      | 1, hl => obtain ⟨_, _, _, hl0⟩ := asS_inv (show _ from hl); obtain ⟨_, _, hl1⟩ := asI_inv (show _ from hl0); exact hl1
      | 2, hl => obtain ⟨_, _, _, hl0⟩ := asS_inv (show _ from hl); exact hl0
      | 3, hl => exact hl
      | _ + 4, hl => exact hl)
    (fun n p L hm f h hl => by
      simp only [u46, List.mem_cons, Prod.mk.injEq, List.not_mem_nil, or_false] at hm
      rcases hm with ⟨rfl, rfl⟩ | ⟨rfl, rfl⟩ | ⟨rfl, rfl⟩ | ⟨rfl, rfl⟩
      · have hl : f46 (r46 c k (n + 1)) 0 f h := hl
        obtain ⟨l_0, c_0, e_0, hl0⟩ := asS_inv hl
        obtain ⟨l_1, c_1, e_1, hl1⟩ := asS_inv hl0
        have hh := e46_0 c k (r46 c k n) f h l_0 c_0 l_1 c_1
        rw [fset_self e_0] at hh
        rw [fset_self e_1] at hh
        exact Eq.mpr hh hl1
      · have hl : f46 (r46 c k (n + 1)) 1 f h := hl
        obtain ⟨l_1, c_1, e_1, hl0⟩ := asS_inv hl
        obtain ⟨n_7, e_7, hl3⟩ := asI_inv hl0
        have hh := e46_1 c k (r46 c k n) f h l_1 c_1 (f 4) (f 6) n_7
        rw [fset_self e_1] at hh
        rw [fset_self (rfl : f 4 = f 4)] at hh
        rw [fset_self (rfl : f 6 = f 6)] at hh
        rw [fset_self e_7] at hh
        exact Eq.mpr hh hl3
      · have hl : f46 (r46 c k (n + 1)) 2 f h := hl
        obtain ⟨l_1, c_1, e_1, hl0⟩ := asS_inv hl
        have hh := e46_2 c k (r46 c k n) f h l_1 c_1 (f 4) (f 6) (f 8)
        rw [fset_self e_1] at hh
        rw [fset_self (rfl : f 4 = f 4)] at hh
        rw [fset_self (rfl : f 6 = f 6)] at hh
        rw [fset_self (rfl : f 8 = f 8)] at hh
        exact Eq.mpr hh hl0
      · have hl : f46 (r46 c k (n + 1)) 3 f h := hl
        have hh := e46_3 c k (r46 c k n) f h (f 4) (f 6)
        rw [fset_self (rfl : f 4 = f 4)] at hh
        rw [fset_self (rfl : f 6 = f 6)] at hh
        exact Eq.mpr hh hl
    ) (by simp [u46]) hg

theorem e50_0 (c : Caller Prop FT) (k : KV) (J : J50) (f : FT) (h : H) (v_0 : AV) : chunkA env c q50 u50 (f50 J) d50 (retA env Go.Proofs.Tryz.f50.results.toList k) .root (fset f 0 v_0) h = s50_0 c k J v_0 h := by kernel_rfl
theorem w50 {c : Caller Prop FT} (hc : CallOk Go.Proofs.Tryz.prog (CP env) G (fun p => p) c) {k : KV} {n : Nat} {args : List AV} {h : H} (hg : f50 (r50 c k n) 0 (finit args) h) : SW Go.Proofs.Tryz.prog G (.func 50) args h k :=
  fn_ok mixed envOk hc q50 Go.Proofs.Tryz.func50 rfl (by kernel_rfl) (by kernel_rfl) k u50 (fun n => f50 (r50 c k n))
    (fun L f h hl => by
      match L, hl with
      | 0, hl => exact hl
      | _ + 1, hl => exact hl)
    (fun n p L hm f h hl => by
      simp only [u50, List.mem_cons, Prod.mk.injEq, List.not_mem_nil, or_false] at hm
      rcases hm with ⟨rfl, rfl⟩
      · have hl : f50 (r50 c k (n + 1)) 0 f h := hl
        have hh := e50_0 c k (r50 c k n) f h (f 0)
        rw [fset_self (rfl : f 0 = f 0)] at hh
        exact Eq.mpr hh hl
    ) (by simp [u50]) hg

theorem w51 {c : Caller Prop FT} (hc : CallOk Go.Proofs.Tryz.prog (CP env) G (fun p => p) c) {k : KV} {m : Nat} {a : List AV} {h : H} (hg : runJ env c q51 u51 d51 (retA env Go.Proofs.Tryz.f51.results.toList k) m 0 (finit a) h) : SW Go.Proofs.Tryz.prog G (.func 51) a h k := fnI_ok mixed envOk hc q51 Go.Proofs.Tryz.func51 rfl (by kernel_rfl) (by kernel_rfl) (by kernel_rfl) (by simp [u51]) hg
theorem e59_0 (c : Caller Prop FT) (k : KV) (J : J59) (f : FT) (h : H) (l_0 : Nat) (c_0 : Nat) : chunkA env c q59 u59 (f59 J) d59 (retA env Go.Proofs.Tryz.f59.results.toList k) .root (fset f 0 (.str l_0 c_0)) h = s59_0 c k J l_0 c_0 h := by kernel_rfl
theorem e59_1 (c : Caller Prop FT) (k : KV) (J : J59) (f : FT) (h : H) (l_0 : Nat) (c_0 : Nat) (v_3 : AV) (n_4 : Int) (n_5 : Int) : chunkA env c q59 u59 (f59 J) d59 (retA env Go.Proofs.Tryz.f59.results.toList k) (.l (.r (.l (.r (.r (.r .root)))))) (fset (fset (fset (fset f 0 (.str l_0 c_0)) 3 v_3) 4 (.int .i64 n_4)) 5 (.int .i64 n_5)) h = s59_1 c k J l_0 c_0 v_3 n_4 n_5 h := by kernel_rfl
theorem e59_2 (c : Caller Prop FT) (k : KV) (J : J59) (f : FT) (h : H) (l_0 : Nat) (c_0 : Nat) (v_3 : AV) (n_4 : Int) (n_5 : Int) : chunkA env c q59 u59 (f59 J) d59 (retA env Go.Proofs.Tryz.f59.results.toList k) (.r (.r (.l (.l (.r (.l (.r (.r (.r .root))))))))) (fset (fset (fset (fset f 0 (.str l_0 c_0)) 3 v_3) 4 (.int .i64 n_4)) 5 (.int .i64 n_5)) h = s59_2 c k J l_0 c_0 v_3 n_4 n_5 h := by kernel_rfl
theorem w59 {c : Caller Prop FT} (hc : CallOk Go.Proofs.Tryz.prog (CP env) G (fun p => p) c) {k : KV} {n : Nat} {args : List AV} {h : H} (hg : f59 (r59 c k n) 0 (finit args) h) : SW Go.Proofs.Tryz.prog G (.func 59) args h k :=
  fn_ok mixed envOk hc q59 Go.Proofs.Tryz.func59 rfl (by kernel_rfl) (by kernel_rfl) k u59 (fun n => f59 (r59 c k n))
    (fun L f h hl => by
      match L, hl with
      | 0, hl => obtain ⟨_, _, _, hl0⟩ := asS_inv (show _ from hl); exact hl0
      | 1, hl => obtain ⟨_, _, _, hl0⟩ := asS_inv (show _ from hl); obtain ⟨_, _, hl1⟩ := asI_inv (show _ from hl0); obtain ⟨_, _, hl2⟩ := asI_inv (show _ from hl1); exact hl2
      | 2, hl => obtain ⟨_, _, _, hl0⟩ := asS_inv (show _ from hl); obtain ⟨_, _, hl1⟩ := asI_inv (show _ from hl0); obtain ⟨_, _, hl2⟩ := asI_inv (show _ from hl1); exact hl2
      | _ + 3, hl => exact hl)
    (fun n p L hm f h hl => by
      simp only [u59, List.mem_cons, Prod.mk.injEq, List.not_mem_nil, or_false] at hm
      rcases hm with ⟨rfl, rfl⟩ | ⟨rfl, rfl⟩ | ⟨rfl, rfl⟩
      · have hl : f59 (r59 c k (n + 1)) 0 f h := hl
        obtain ⟨l_0, c_0, e_0, hl0⟩ := asS_inv hl
        have hh := e59_0 c k (r59 c k n) f h l_0 c_0
        rw [fset_self e_0] at hh
        exact Eq.mpr hh hl0
      · have hl : f59 (r59 c k (n + 1)) 1 f h := hl
        obtain ⟨l_0, c_0, e_0, hl0⟩ := asS_inv hl
        obtain ⟨n_4, e_4, hl2⟩ := asI_inv hl0
        obtain ⟨n_5, e_5, hl3⟩ := asI_inv hl2
        have hh := e59_1 c k (r59 c k n) f h l_0 c_0 (f 3) n_4 n_5
        rw [fset_self e_0] at hh
        rw [fset_self (rfl : f 3 = f 3)] at hh
        rw [fset_self e_4] at hh
        rw [fset_self e_5] at hh
        exact Eq.mpr hh hl3
      · have hl : f59 (r59 c k (n + 1)) 2 f h := hl
        obtain ⟨l_0, c_0, e_0, hl0⟩ := asS_inv hl
        obtain ⟨n_4, e_4, hl2⟩ := asI_inv hl0
        obtain ⟨n_5, e_5, hl3⟩ := asI_inv hl2
        have hh := e59_2 c k (r59 c k n) f h l_0 c_0 (f 3) n_4 n_5
        rw [fset_self e_0] at hh
        rw [fset_self (rfl : f 3 = f 3)] at hh
        rw [fset_self e_4] at hh
        rw [fset_self e_5] at hh
        exact Eq.mpr hh hl3
    ) (by simp [u59]) hg

theorem e60_0 (c : Caller Prop FT) (k : KV) (J : J60) (f : FT) (h : H) (l_0 : Nat) (c_0 : Nat) : chunkA env c q60 u60 (f60 J) d60 (retA env Go.Proofs.Tryz.f60.results.toList k) .root (fset f 0 (.str l_0 c_0)) h = s60_0 c k J l_0 c_0 h := by kernel_rfl
theorem e60_1 (c : Caller Prop FT) (k : KV) (J : J60) (f : FT) (h : H) (l_0 : Nat) (c_0 : Nat) (n_3 : Int) : chunkA env c q60 u60 (f60 J) d60 (retA env Go.Proofs.Tryz.f60.results.toList k) (.l (.r (.l (.r .root)))) (fset (fset f 0 (.str l_0 c_0)) 3 (.int .i64 n_3)) h = s60_1 c k J l_0 c_0 n_3 h := by kernel_rfl
theorem w60 {c : Caller Prop FT} (hc : CallOk Go.Proofs.Tryz.prog (CP env) G (fun p => p) c) {k : KV} {n : Nat} {args : List AV} {h : H} (hg : f60 (r60 c k n) 0 (finit args) h) : SW Go.Proofs.Tryz.prog G (.func 60) args h k :=
  fn_ok mixed envOk hc q60 Go.Proofs.Tryz.func60 rfl (by kernel_rfl) (by kernel_rfl) k u60 (fun n => f60 (r60 c k n))
    (fun L f h hl => by
      match L, hl with
      | 0, hl => obtain ⟨_, _, _, hl0⟩ := asS_inv (show _ from hl); exact hl0
      | 1, hl => obtain ⟨_, _, _, hl0⟩ := asS_inv (show _ from hl); obtain ⟨_, _, hl1⟩ := asI_inv (show _ from hl0); exact hl1
      | _ + 2, hl => exact hl)
    (fun n p L hm f h hl => by
      simp only [u60, List.mem_cons, Prod.mk.injEq, List.not_mem_nil, or_false] at hm
      rcases hm with ⟨rfl, rfl⟩ | ⟨rfl, rfl⟩
      · have hl : f60 (r60 c k (n + 1)) 0 f h := hl
        obtain ⟨l_0, c_0, e_0, hl0⟩ := asS_inv hl
        have hh := e60_0 c k (r60 c k n) f h l_0 c_0
        rw [fset_self e_0] at hh
        exact Eq.mpr hh hl0
      · have hl : f60 (r60 c k (n + 1)) 1 f h := hl
        obtain ⟨l_0, c_0, e_0, hl0⟩ := asS_inv hl
        obtain ⟨n_3, e_3, hl1⟩ := asI_inv hl0
        have hh := e60_1 c k (r60 c k n) f h l_0 c_0 n_3
        rw [fset_self e_0] at hh
        rw [fset_self e_3] at hh
        exact Eq.mpr hh hl1
    ) (by simp [u60]) hg

theorem e65_0 (c : Caller Prop FT) (k : KV) (J : J65) (f : FT) (h : H) (v_0 : AV) : chunkA env c q65 u65 (f65 J) d65 (retA env Go.Proofs.Tryz.f65.results.toList k) .root (fset f 0 v_0) h = s65_0 c k J v_0 h := by kernel_rfl
theorem w65 {c : Caller Prop FT} (hc : CallOk Go.Proofs.Tryz.prog (CP env) G (fun p => p) c) {k : KV} {n : Nat} {args : List AV} {h : H} (hg : f65 (r65 c k n) 0 (finit args) h) : SW Go.Proofs.Tryz.prog G (.func 65) args h k :=
  fn_ok mixed envOk hc q65 Go.Proofs.Tryz.func65 rfl (by kernel_rfl) (by kernel_rfl) k u65 (fun n => f65 (r65 c k n))
    (fun L f h hl => by
      match L, hl with
      | 0, hl => exact hl
      | _ + 1, hl => exact hl)
    (fun n p L hm f h hl => by
      simp only [u65, List.mem_cons, Prod.mk.injEq, List.not_mem_nil, or_false] at hm
      rcases hm with ⟨rfl, rfl⟩
      · have hl : f65 (r65 c k (n + 1)) 0 f h := hl
        have hh := e65_0 c k (r65 c k n) f h (f 0)
        rw [fset_self (rfl : f 0 = f 0)] at hh
        exact Eq.mpr hh hl
    ) (by simp [u65]) hg

theorem e69_0 (c : Caller Prop FT) (k : KV) (J : J69) (f : FT) (h : H) (v_0 : AV) : chunkA env c q69 u69 (f69 J) d69 (retA env Go.Proofs.Tryz.f69.results.toList k) .root (fset f 0 v_0) h = s69_0 c k J v_0 h := by kernel_rfl
theorem e69_1 (c : Caller Prop FT) (k : KV) (J : J69) (f : FT) (h : H) (v_0 : AV) (v_2 : AV) : chunkA env c q69 u69 (f69 J) d69 (retA env Go.Proofs.Tryz.f69.results.toList k) (.l (.r (.r .root))) (fset (fset f 0 v_0) 2 v_2) h = s69_1 c k J v_0 v_2 h := by kernel_rfl
theorem w69 {c : Caller Prop FT} (hc : CallOk Go.Proofs.Tryz.prog (CP env) G (fun p => p) c) {k : KV} {n : Nat} {args : List AV} {h : H} (hg : f69 (r69 c k n) 0 (finit args) h) : SW Go.Proofs.Tryz.prog G (.func 69) args h k :=
  fn_ok mixed envOk hc q69 Go.Proofs.Tryz.func69 rfl (by kernel_rfl) (by kernel_rfl) k u69 (fun n => f69 (r69 c k n))
    (fun L f h hl => by
      match L, hl with
      | 0, hl => exact hl
      | 1, hl => exact hl
      | _ + 2, hl => exact hl)
    (fun n p L hm f h hl => by
      simp only [u69, List.mem_cons, Prod.mk.injEq, List.not_mem_nil, or_false] at hm
      rcases hm with ⟨rfl, rfl⟩ | ⟨rfl, rfl⟩
      · have hl : f69 (r69 c k (n + 1)) 0 f h := hl
        have hh := e69_0 c k (r69 c k n) f h (f 0)
        rw [fset_self (rfl : f 0 = f 0)] at hh
        exact Eq.mpr hh hl
      · have hl : f69 (r69 c k (n + 1)) 1 f h := hl
        have hh := e69_1 c k (r69 c k n) f h (f 0) (f 2)
        rw [fset_self (rfl : f 0 = f 0)] at hh
        rw [fset_self (rfl : f 2 = f 2)] at hh
        exact Eq.mpr hh hl
    ) (by simp [u69]) hg

theorem e71_0 (c : Caller Prop FT) (k : KV) (J : J71) (f : FT) (h : H) (v_0 : AV) (n_1 : Int) : chunkA env c q71 u71 (f71 J) d71 (retA env Go.Proofs.Tryz.f71.results.toList k) .root (fset (fset f 0 v_0) 1 (.int .i64 n_1)) h = s71_0 c k J v_0 n_1 h := by kernel_rfl
theorem w71 {c : Caller Prop FT} (hc : CallOk Go.Proofs.Tryz.prog (CP env) G (fun p => p) c) {k : KV} {n : Nat} {args : List AV} {h : H} (hg : f71 (r71 c k n) 0 (finit args) h) : SW Go.Proofs.Tryz.prog G (.func 71) args h k :=
  fn_ok mixed envOk hc q71 Go.Proofs.Tryz.func71 rfl (by kernel_rfl) (by kernel_rfl) k u71 (fun n => f71 (r71 c k n))
    (fun L f h hl => by
      match L, hl with
      | 0, hl => obtain ⟨_, _, hl0⟩ := asI_inv (show _ from hl); exact hl0
      | _ + 1, hl => exact hl)
    (fun n p L hm f h hl => by
      simp only [u71, List.mem_cons, Prod.mk.injEq, List.not_mem_nil, or_false] at hm
      rcases hm with ⟨rfl, rfl⟩
      · have hl : f71 (r71 c k (n + 1)) 0 f h := hl
        obtain ⟨n_1, e_1, hl1⟩ := asI_inv hl
        have hh := e71_0 c k (r71 c k n) f h (f 0) n_1
        rw [fset_self (rfl : f 0 = f 0)] at hh
        rw [fset_self e_1] at hh
        exact Eq.mpr hh hl1
    ) (by simp [u71]) hg

theorem e72_0 (c : Caller Prop FT) (k : KV) (J : J72) (f : FT) (h : H) (v_0 : AV) (v_1 : AV) : chunkA env c q72 u72 (f72 J) d72 (retA env Go.Proofs.Tryz.f72.results.toList k) .root (fset (fset f 0 v_0) 1 v_1) h = s72_0 c k J v_0 v_1 h := by kernel_rfl
theorem e72_1 (c : Caller Prop FT) (k : KV) (J : J72) (f : FT) (h : H) (v_0 : AV) (v_3 : AV) : chunkA env c q72 u72 (f72 J) d72 (retA env Go.Proofs.Tryz.f72.results.toList k) (.r (.r (.r (.r .root)))) (fset (fset f 0 v_0) 3 v_3) h = s72_1 c k J v_0 v_3 h := by kernel_rfl
theorem w72 {c : Caller Prop FT} (hc : CallOk Go.Proofs.Tryz.prog (CP env) G (fun p => p) c) {k : KV} {n : Nat} {args : List AV} {h : H} (hg : f72 (r72 c k n) 0 (finit args) h) : SW Go.Proofs.Tryz.prog G (.func 72) args h k :=
  fn_ok mixed envOk hc q72 Go.Proofs.Tryz.func72 rfl (by kernel_rfl) (by kernel_rfl) k u72 (fun n => f72 (r72 c k n))
    (fun L f h hl => by
      match L, hl with
      | 0, hl => exact hl
      | 1, hl => exact hl
      | _ + 2, hl => exact hl)
    (fun n p L hm f h hl => by
      simp only [u72, List.mem_cons, Prod.mk.injEq, List.not_mem_nil, or_false] at hm
      rcases hm with ⟨rfl, rfl⟩ | ⟨rfl, rfl⟩
      · have hl : f72 (r72 c k (n + 1)) 0 f h := hl
        have hh := e72_0 c k (r72 c k n) f h (f 0) (f 1)
        rw [fset_self (rfl : f 0 = f 0)] at hh
        rw [fset_self (rfl : f 1 = f 1)] at hh
        exact Eq.mpr hh hl
      · have hl : f72 (r72 c k (n + 1)) 1 f h := hl
        have hh := e72_1 c k (r72 c k n) f h (f 0) (f 3)
        rw [fset_self (rfl : f 0 = f 0)] at hh
        rw [fset_self (rfl : f 3 = f 3)] at hh
        exact Eq.mpr hh hl
    ) (by simp [u72]) hg

theorem e73_0 (c : Caller Prop FT) (k : KV) (J : J73) (f : FT) (h : H) (l_0 : Nat) (c_0 : Nat) : chunkA env c q73 u73 (f73 J) d73 (retA env Go.Proofs.Tryz.f73.results.toList k) .root (fset f 0 (.str l_0 c_0)) h = s73_0 c k J l_0 c_0 h := by kernel_rfl
theorem e73_1 (c : Caller Prop FT) (k : KV) (J : J73) (f : FT) (h : H) (l_0 : Nat) (c_0 : Nat) (v_2 : AV) (n_3 : Int) : chunkA env c q73 u73 (f73 J) d73 (retA env Go.Proofs.Tryz.f73.results.toList k) (.lab (.r .root) 0) (fset (fset (fset f 0 (.str l_0 c_0)) 2 v_2) 3 (.int .i64 n_3)) h = s73_1 c k J l_0 c_0 v_2 n_3 h := by kernel_rfl
theorem w73 {c : Caller Prop FT} (hc : CallOk Go.Proofs.Tryz.prog (CP env) G (fun p => p) c) {k : KV} {n : Nat} {args : List AV} {h : H} (hg : f73 (r73 c k n) 0 (finit args) h) : SW Go.Proofs.Tryz.prog G (.func 73) args h k :=
  fn_ok mixed envOk hc q73 Go.Proofs.Tryz.func73 rfl (by kernel_rfl) (by kernel_rfl) k u73 (fun n => f73 (r73 c k n))
    (fun L f h hl => by
      match L, hl with
      | 0, hl => obtain ⟨_, _, _, hl0⟩ := asS_inv (show _ from hl); exact hl0
      | 1, hl => obtain ⟨_, _, _, hl0⟩ := asS_inv (show _ from hl); obtain ⟨_, _, hl1⟩ := asI_inv (show _ from hl0); exact hl1
      | _ + 2, hl => exact hl)
    (fun n p L hm f h hl => by
      simp only [u73, List.mem_cons, Prod.mk.injEq, List.not_mem_nil, or_false] at hm
      rcases hm with ⟨rfl, rfl⟩ | ⟨rfl, rfl⟩
      · have hl : f73 (r73 c k (n + 1)) 0 f h := hl
        obtain ⟨l_0, c_0, e_0, hl0⟩ := asS_inv hl
        have hh := e73_0 c k (r73 c k n) f h l_0 c_0
        rw [fset_self e_0] at hh
        exact Eq.mpr hh hl0
      · have hl : f73 (r73 c k (n + 1)) 1 f h := hl
        obtain ⟨l_0, c_0, e_0, hl0⟩ := asS_inv hl
        obtain ⟨n_3, e_3, hl2⟩ := asI_inv hl0
        have hh := e73_1 c k (r73 c k n) f h l_0 c_0 (f 2) n_3
        rw [fset_self e_0] at hh
        rw [fset_self (rfl : f 2 = f 2)] at hh
        rw [fset_self e_3] at hh
        exact Eq.mpr hh hl2
    ) (by simp [u73]) hg

theorem e78_0 (c : Caller Prop FT) (k : KV) (J : J78) (f : FT) (h : H) (v_0 : AV) (l_1 : Nat) (c_1 : Nat) : chunkA env c q78 u78 (f78 J) d78 (retA env Go.Proofs.Tryz.f78.results.toList k) .root (fset (fset f 0 v_0) 1 (.str l_1 c_1)) h = s78_0 c k J v_0 l_1 c_1 h := by kernel_rfl
theorem w78 {c : Caller Prop FT} (hc : CallOk Go.Proofs.Tryz.prog (CP env) G (fun p => p) c) {k : KV} {n : Nat} {args : List AV} {h : H} (hg : f78 (r78 c k n) 0 (finit args) h) : SW Go.Proofs.Tryz.prog G (.func 78) args h k :=
  fn_ok mixed envOk hc q78 Go.Proofs.Tryz.func78 rfl (by kernel_rfl) (by kernel_rfl) k u78 (fun n => f78 (r78 c k n))
    (fun L f h hl => by
      match L, hl with
      | 0, hl => obtain ⟨_, _, _, hl0⟩ := asS_inv (show _ from hl); exact hl0
      | _ + 1, hl => exact hl)
    (fun n p L hm f h hl => by
      simp only [u78, List.mem_cons, Prod.mk.injEq, List.not_mem_nil, or_false] at hm
      rcases hm with ⟨rfl, rfl⟩
      · have hl : f78 (r78 c k (n + 1)) 0 f h := hl
        obtain ⟨l_1, c_1, e_1, hl1⟩ := asS_inv hl
        have hh := e78_0 c k (r78 c k n) f h (f 0) l_1 c_1
        rw [fset_self (rfl : f 0 = f 0)] at hh
        rw [fset_self e_1] at hh
        exact Eq.mpr hh hl1
    ) (by simp [u78]) hg

theorem e80_0 (c : Caller Prop FT) (k : KV) (J : J80) (f : FT) (h : H) (n_0 : Int) : chunkA env c q80 u80 (f80 J) d80 (retA env Go.Proofs.Tryz.f80.results.toList k) .root (fset f 0 (.int .u8 n_0)) h = s80_0 c k J n_0 h := by kernel_rfl
theorem w80 {c : Caller Prop FT} (hc : CallOk Go.Proofs.Tryz.prog (CP env) G (fun p => p) c) {k : KV} {n : Nat} {args : List AV} {h : H} (hg : f80 (r80 c k n) 0 (finit args) h) : SW Go.Proofs.Tryz.prog G (.func 80) args h k :=
  fn_ok mixed envOk hc q80 Go.Proofs.Tryz.func80 rfl (by kernel_rfl) (by kernel_rfl) k u80 (fun n => f80 (r80 c k n))
    (fun L f h hl => by
      match L, hl with
      | 0, hl => obtain ⟨_, _, hl0⟩ := asI_inv (show _ from hl); exact hl0
      | _ + 1, hl => exact hl)
    (fun n p L hm f h hl => by
      simp only [u80, List.mem_cons, Prod.mk.injEq, List.not_mem_nil, or_false] at hm
      rcases hm with ⟨rfl, rfl⟩
      · have hl : f80 (r80 c k (n + 1)) 0 f h := hl
        obtain ⟨n_0, e_0, hl0⟩ := asI_inv hl
        have hh := e80_0 c k (r80 c k n) f h n_0
        rw [fset_self e_0] at hh
        exact Eq.mpr hh hl0
    ) (by simp [u80]) hg

theorem e81_0 (c : Caller Prop FT) (k : KV) (J : J81) (f : FT) (h : H) (l_0 : Nat) (c_0 : Nat) : chunkA env c q81 u81 (f81 J) d81 (retA env Go.Proofs.Tryz.f81.results.toList k) .root (fset f 0 (.str l_0 c_0)) h = s81_0 c k J l_0 c_0 h := by kernel_rfl
theorem w81 {c : Caller Prop FT} (hc : CallOk Go.Proofs.Tryz.prog (CP env) G (fun p => p) c) {k : KV} {n : Nat} {args : List AV} {h : H} (hg : f81 (r81 c k n) 0 (finit args) h) : SW Go.Proofs.Tryz.prog G (.func 81) args h k :=
  fn_ok mixed envOk hc q81 Go.Proofs.Tryz.func81 rfl (by kernel_rfl) (by kernel_rfl) k u81 (fun n => f81 (r81 c k n))
    (fun L f h hl => by
      match L, hl with
      | 0, hl => obtain ⟨_, _, _, hl0⟩ := asS_inv (show _ from hl); exact hl0
      | _ + 1, hl => exact hl)
    (fun n p L hm f h hl => by
      simp only [u81, List.mem_cons, Prod.mk.injEq, List.not_mem_nil, or_false] at hm
      rcases hm with ⟨rfl, rfl⟩
      · have hl : f81 (r81 c k (n + 1)) 0 f h := hl
        obtain ⟨l_0, c_0, e_0, hl0⟩ := asS_inv hl
        have hh := e81_0 c k (r81 c k n) f h l_0 c_0
        rw [fset_self e_0] at hh
        exact Eq.mpr hh hl0
    ) (by simp [u81]) hg

theorem e85_0 (c : Caller Prop FT) (k : KV) (J : J85) (f : FT) (h : H) (v_0 : AV) (v_1 : AV) : chunkA env c q85 u85 (f85 J) d85 (retA env Go.Proofs.Tryz.f85.results.toList k) .root (fset (fset f 0 v_0) 1 v_1) h = s85_0 c k J v_0 v_1 h := by kernel_rfl
theorem w85 {c : Caller Prop FT} (hc : CallOk Go.Proofs.Tryz.prog (CP env) G (fun p => p) c) {k : KV} {n : Nat} {args : List AV} {h : H} (hg : f85 (r85 c k n) 0 (finit args) h) : SW Go.Proofs.Tryz.prog G (.func 85) args h k :=
  fn_ok mixed envOk hc q85 Go.Proofs.Tryz.func85 rfl (by kernel_rfl) (by kernel_rfl) k u85 (fun n => f85 (r85 c k n))
    (fun L f h hl => by
      match L, hl with
      | 0, hl => exact hl
      | _ + 1, hl => exact hl)
    (fun n p L hm f h hl => by
      simp only [u85, List.mem_cons, Prod.mk.injEq, List.not_mem_nil, or_false] at hm
      rcases hm with ⟨rfl, rfl⟩
      · have hl : f85 (r85 c k (n + 1)) 0 f h := hl
        have hh := e85_0 c k (r85 c k n) f h (f 0) (f 1)
        rw [fset_self (rfl : f 0 = f 0)] at hh
        rw [fset_self (rfl : f 1 = f 1)] at hh
        exact Eq.mpr hh hl
    ) (by simp [u85]) hg

theorem e86_0 (c : Caller Prop FT) (k : KV) (J : J86) (f : FT) (h : H) (v_0 : AV) (n_1 : Int) (v_2 : AV) : chunkA env c q86 u86 (f86 J) d86 (retA env Go.Proofs.Tryz.f86.results.toList k) .root (fset (fset (fset f 0 v_0) 1 (.int .i64 n_1)) 2 v_2) h = s86_0 c k J v_0 n_1 v_2 h := by kernel_rfl
theorem e86_1 (c : Caller Prop FT) (k : KV) (J : J86) (f : FT) (h : H) (v_0 : AV) (v_6 : AV) : chunkA env c q86 u86 (f86 J) d86 (retA env Go.Proofs.Tryz.f86.results.toList k) (.r (.r (.l (.r (.l (.r (.r (.r (.r .root))))))))) (fset (fset f 0 v_0) 6 v_6) h = s86_1 c k J v_0 v_6 h := by kernel_rfl
theorem e86_2 (c : Caller Prop FT) (k : KV) (J : J86) (f : FT) (h : H) (v_0 : AV) (n_1 : Int) (b_81 : Bool) : chunkA env c q86 u86 (f86 J) d86 (retA env Go.Proofs.Tryz.f86.results.toList k) (.r (.r (.r (.l (.r (.r (.r (.r .root)))))))) (fset (fset (fset f 0 v_0) 1 (.int .i64 n_1)) 81 (.bool b_81)) h = s86_2 c k J v_0 n_1 b_81 h := by kernel_rfl
theorem e86_3 (c : Caller Prop FT) (k : KV) (J : J86) (f : FT) (h : H) (v_0 : AV) (n_1 : Int) (n_34 : Int) (b_41 : Bool) : chunkA env c q86 u86 (f86 J) d86 (retA env Go.Proofs.Tryz.f86.results.toList k) (.r (.l (.r (.r (.r (.r .root)))))) (fset (fset (fset (fset f 0 v_0) 1 (.int .i64 n_1)) 34 (.int .i64 n_34)) 41 (.bool b_41)) h = s86_3 c k J v_0 n_1 n_34 b_41 h := by kernel_rfl
theorem e86_4 (c : Caller Prop FT) (k : KV) (J : J86) (f : FT) (h : H) (v_0 : AV) (n_1 : Int) : chunkA env c q86 u86 (f86 J) d86 (retA env Go.Proofs.Tryz.f86.results.toList k) (.r (.r (.r .root))) (fset (fset f 0 v_0) 1 (.int .i64 n_1)) h = s86_4 c k J v_0 n_1 h := by kernel_rfl
theorem w86 {c : Caller Prop FT} (hc : CallOk Go.Proofs.Tryz.prog (CP env) G (fun p => p) c) {k : KV} {n : Nat} {args : List AV} {h : H} (hg : f86 (r86 c k n) 0 (finit args) h) : SW Go.Proofs.Tryz.prog G (.func 86) args h k :=
  fn_ok mixed envOk hc q86 Go.Proofs.Tryz.func86 rfl (by kernel_rfl) (by kernel_rfl) k u86 (fun n => f86 (r86 c k n))
    (fun L f h hl => by
      match L, hl with
      | 0, hl => obtain ⟨_, _, hl0⟩ := asI_inv (show _ from hl); exact hl0
      | 1, hl => exact hl
      | 2, hl => obtain ⟨_, _, hl0⟩ := asI_inv (show _ from hl); obtain ⟨_, _, hl1⟩ := asB_inv (show _ from hl0); exact hl1
      | 3, hl => obtain ⟨_, _, hl0⟩ := asI_inv (show _ from hl); obtain ⟨_, _, hl1⟩ := asI_inv (show _ from hl0); obtain ⟨_, _, hl2⟩ := asB_inv (show _ from hl1); exact hl2
      | 4, hl => obtain ⟨_, _, hl0⟩ := asI_inv (show _ from hl); exact hl0
      | _ + 5, hl => exact hl)
    (fun n p L hm f h hl => by
      simp only [u86, List.mem_cons, Prod.mk.injEq, List.not_mem_nil, or_false] at hm
      rcases hm with ⟨rfl, rfl⟩ | ⟨rfl, rfl⟩ | ⟨rfl, rfl⟩ | ⟨rfl, rfl⟩ | ⟨rfl, rfl⟩
      · have hl : f86 (r86 c k (n + 1)) 0 f h := hl
        obtain ⟨n_1, e_1, hl1⟩ := asI_inv hl
        have hh := e86_0 c k (r86 c k n) f h (f 0) n_1 (f 2)
        rw [fset_self (rfl : f 0 = f 0)] at hh
        rw [fset_self e_1] at hh
        rw [fset_self (rfl : f 2 = f 2)] at hh
        exact Eq.mpr hh hl1
      · have hl : f86 (r86 c k (n + 1)) 1 f h := hl
        have hh := e86_1 c k (r86 c k n) f h (f 0) (f 6)
        rw [fset_self (rfl : f 0 = f 0)] at hh
        rw [fset_self (rfl : f 6 = f 6)] at hh
        exact Eq.mpr hh hl
      · have hl : f86 (r86 c k (n + 1)) 2 f h := hl
        obtain ⟨n_1, e_1, hl1⟩ := asI_inv hl
        obtain ⟨b_81, e_81, hl2⟩ := asB_inv hl1
        have hh := e86_2 c k (r86 c k n) f h (f 0) n_1 b_81
        rw [fset_self (rfl : f 0 = f 0)] at hh
        rw [fset_self e_1] at hh
        rw [fset_self e_81] at hh
        exact Eq.mpr hh hl2
      · have hl : f86 (r86 c k (n + 1)) 3 f h := hl
        obtain ⟨n_1, e_1, hl1⟩ := asI_inv hl
        obtain ⟨n_34, e_34, hl2⟩ := asI_inv hl1
        obtain ⟨b_41, e_41, hl3⟩ := asB_inv hl2
        have hh := e86_3 c k (r86 c k n) f h (f 0) n_1 n_34 b_41
        rw [fset_self (rfl : f 0 = f 0)] at hh
        rw [fset_self e_1] at hh
        rw [fset_self e_34] at hh
        rw [fset_self e_41] at hh
        exact Eq.mpr hh hl3
      · have hl : f86 (r86 c k (n + 1)) 4 f h := hl
        obtain ⟨n_1, e_1, hl1⟩ := asI_inv hl
        have hh := e86_4 c k (r86 c k n) f h (f 0) n_1
        rw [fset_self (rfl : f 0 = f 0)] at hh
        rw [fset_self e_1] at hh
        exact Eq.mpr hh hl1
    ) (by simp [u86]) hg

theorem e87_0 (c : Caller Prop FT) (k : KV) (J : J87) (f : FT) (h : H) (v_0 : AV) : chunkA env c q87 u87 (f87 J) d87 (retA env Go.Proofs.Tryz.f87.results.toList k) .root (fset f 0 v_0) h = s87_0 c k J v_0 h := by kernel_rfl
theorem w87 {c : Caller Prop FT} (hc : CallOk Go.Proofs.Tryz.prog (CP env) G (fun p => p) c) {k : KV} {n : Nat} {args : List AV} {h : H} (hg : f87 (r87 c k n) 0 (finit args) h) : SW Go.Proofs.Tryz.prog G (.func 87) args h k :=
  fn_ok mixed envOk hc q87 Go.Proofs.Tryz.func87 rfl (by kernel_rfl) (by kernel_rfl) k u87 (fun n => f87 (r87 c k n))
    (fun L f h hl => by
      match L, hl with
      | 0, hl => exact hl
      | _ + 1, hl => exact hl)
    (fun n p L hm f h hl => by
      simp only [u87, List.mem_cons, Prod.mk.injEq, List.not_mem_nil, or_false] at hm
      rcases hm with ⟨rfl, rfl⟩
      · have hl : f87 (r87 c k (n + 1)) 0 f h := hl
        have hh := e87_0 c k (r87 c k n) f h (f 0)
        rw [fset_self (rfl : f 0 = f 0)] at hh
        exact Eq.mpr hh hl
    ) (by simp [u87]) hg

theorem e97_0 (c : Caller Prop FT) (k : KV) (J : J97) (f : FT) (h : H) (v_0 : AV) (l_1 : Nat) (c_1 : Nat) : chunkA env c q97 u97 (f97 J) d97 (retA env Go.Proofs.Tryz.f97.results.toList k) .root (fset (fset f 0 v_0) 1 (.str l_1 c_1)) h = s97_0 c k J v_0 l_1 c_1 h := by kernel_rfl
theorem w97 {c : Caller Prop FT} (hc : CallOk Go.Proofs.Tryz.prog (CP env) G (fun p => p) c) {k : KV} {n : Nat} {args : List AV} {h : H} (hg : f97 (r97 c k n) 0 (finit args) h) : SW Go.Proofs.Tryz.prog G (.func 97) args h k :=
  fn_ok mixed envOk hc q97 Go.Proofs.Tryz.func97 rfl (by kernel_rfl) (by kernel_rfl) k u97 (fun n => f97 (r97 c k n))
    (fun L f h hl => by
      match L, hl with
      | 0, hl => obtain ⟨_, _, _, hl0⟩ := asS_inv (show _ from hl); exact hl0
      | _ + 1, hl => exact hl)
    (fun n p L hm f h hl => by
      simp only [u97, List.mem_cons, Prod.mk.injEq, List.not_mem_nil, or_false] at hm
      rcases hm with ⟨rfl, rfl⟩
      · have hl : f97 (r97 c k (n + 1)) 0 f h := hl
        obtain ⟨l_1, c_1, e_1, hl1⟩ := asS_inv hl
        have hh := e97_0 c k (r97 c k n) f h (f 0) l_1 c_1
        rw [fset_self (rfl : f 0 = f 0)] at hh
        rw [fset_self e_1] at hh
        exact Eq.mpr hh hl1
    ) (by simp [u97]) hg

theorem e98_0 (c : Caller Prop FT) (k : KV) (J : J98) (f : FT) (h : H) (v_0 : AV) (v_1 : AV) (v_2 : AV) : chunkA env c q98 u98 (f98 J) d98 (retA env Go.Proofs.Tryz.f98.results.toList k) .root (fset (fset (fset f 0 v_0) 1 v_1) 2 v_2) h = s98_0 c k J v_0 v_1 v_2 h := by kernel_rfl
theorem e98_1 (c : Caller Prop FT) (k : KV) (J : J98) (f : FT) (h : H) (v_1 : AV) (v_3 : AV) (v_5 : AV) (v_6 : AV) (n_7 : Int) (v_8 : AV) (n_44 : Int) (n_45 : Int) : chunkA env c q98 u98 (f98 J) d98 (retA env Go.Proofs.Tryz.f98.results.toList k) (.l (.r (.l (.r (.r (.r (.r .root))))))) (fset (fset (fset (fset (fset (fset (fset (fset f 1 v_1) 3 v_3) 5 v_5) 6 v_6) 7 (.int .i64 n_7)) 8 v_8) 44 (.int .i64 n_44)) 45 (.int .i64 n_45)) h = s98_1 c k J v_1 v_3 v_5 v_6 n_7 v_8 n_44 n_45 h := by kernel_rfl
theorem e98_2 (c : Caller Prop FT) (k : KV) (J : J98) (f : FT) (h : H) (v_3 : AV) (v_101 : AV) (n_102 : Int) (n_103 : Int) : chunkA env c q98 u98 (f98 J) d98 (retA env Go.Proofs.Tryz.f98.results.toList k) (.l (.r (.l (.r (.l (.r (.l (.r (.r (.r (.r (.r (.r (.r .root)))))))))))))) (fset (fset (fset (fset f 3 v_3) 101 v_101) 102 (.int .i64 n_102)) 103 (.int .i64 n_103)) h = s98_2 c k J v_3 v_101 n_102 n_103 h := by kernel_rfl
theorem e98_3 (c : Caller Prop FT) (k : KV) (J : J98) (f : FT) (h : H) (v_1 : AV) (v_3 : AV) (v_5 : AV) (v_6 : AV) (n_7 : Int) (v_8 : AV) (n_10 : Int) (v_14 : AV) (v_127 : AV) (n_128 : Int) (n_129 : Int) : chunkA env c q98 u98 (f98 J) d98 (retA env Go.Proofs.Tryz.f98.results.toList k) (.l (.r (.l (.r (.l (.r (.r (.r (.r (.r (.r (.r (.r (.r .root)))))))))))))) (fset (fset (fset (fset (fset (fset (fset (fset (fset (fset (fset f 1 v_1) 3 v_3) 5 v_5) 6 v_6) 7 (.int .i64 n_7)) 8 v_8) 10 (.int .i64 n_10)) 14 v_14) 127 v_127) 128 (.int .i64 n_128)) 129 (.int .i64 n_129)) h = s98_3 c k J v_1 v_3 v_5 v_6 n_7 v_8 n_10 v_14 v_127 n_128 n_129 h := by kernel_rfl
theorem e98_4 (c : Caller Prop FT) (k : KV) (J : J98) (f : FT) (h : H) (v_1 : AV) (v_3 : AV) (v_5 : AV) (n_7 : Int) (v_8 : AV) (v_14 : AV) : chunkA env c q98 u98 (f98 J) d98 (retA env Go.Proofs.Tryz.f98.results.toList k) (.r (.r (.r (.r (.r (.r (.r (.r (.r (.r (.r .root))))))))))) (fset (fset (fset (fset (fset (fset f 1 v_1) 3 v_3) 5 v_5) 7 (.int .i64 n_7)) 8 v_8) 14 v_14) h = s98_4 c k J v_1 v_3 v_5 n_7 v_8 v_14 h := by kernel_rfl
theorem e98_5 (c : Caller Prop FT) (k : KV) (J : J98) (f : FT) (h : H) (v_1 : AV) (v_3 : AV) (v_5 : AV) (v_6 : AV) (n_7 : Int) (v_8 : AV) (n_10 : Int) (v_14 : AV) : chunkA env c q98 u98 (f98 J) d98 (retA env Go.Proofs.Tryz.f98.results.toList k) (.r (.r (.r (.r (.r (.r (.r (.r (.r (.r .root)))))))))) (fset (fset (fset (fset (fset (fset (fset (fset f 1 v_1) 3 v_3) 5 v_5) 6 v_6) 7 (.int .i64 n_7)) 8 v_8) 10 (.int .i64 n_10)) 14 v_14) h = s98_5 c k J v_1 v_3 v_5 v_6 n_7 v_8 n_10 v_14 h := by kernel_rfl
theorem e98_6 (c : Caller Prop FT) (k : KV) (J : J98) (f : FT) (h : H) (v_3 : AV) (v_101 : AV) (n_102 : Int) (n_103 : Int) : chunkA env c q98 u98 (f98 J) d98 (retA env Go.Proofs.Tryz.f98.results.toList k) (.r (.l (.r (.l (.r (.l (.r (.r (.r (.r (.r (.r (.r .root))))))))))))) (fset (fset (fset (fset f 3 v_3) 101 v_101) 102 (.int .i64 n_102)) 103 (.int .i64 n_103)) h = s98_6 c k J v_3 v_101 n_102 n_103 h := by kernel_rfl
theorem e98_7 (c : Caller Prop FT) (k : KV) (J : J98) (f : FT) (h : H) (v_1 : AV) (v_3 : AV) (v_5 : AV) (v_6 : AV) (n_7 : Int) (v_8 : AV) (n_10 : Int) (v_14 : AV) (v_127 : AV) (n_128 : Int) (n_129 : Int) : chunkA env c q98 u98 (f98 J) d98 (retA env Go.Proofs.Tryz.f98.results.toList k) (.r (.l (.r (.l (.r (.r (.r (.r (.r (.r (.r (.r (.r .root))))))))))))) (fset (fset (fset (fset (fset (fset (fset (fset (fset (fset (fset f 1 v_1) 3 v_3) 5 v_5) 6 v_6) 7 (.int .i64 n_7)) 8 v_8) 10 (.int .i64 n_10)) 14 v_14) 127 v_127) 128 (.int .i64 n_128)) 129 (.int .i64 n_129)) h = s98_7 c k J v_1 v_3 v_5 v_6 n_7 v_8 n_10 v_14 v_127 n_128 n_129 h := by kernel_rfl
theorem w98 {c : Caller Prop FT} (hc : CallOk Go.Proofs.Tryz.prog (CP env) G (fun p => p) c) {k : KV} {n : Nat} {args : List AV} {h : H} (hg : f98 (r98 c k n) 0 (finit args) h) : SW Go.Proofs.Tryz.prog G (.func 98) args h k :=
  fn_ok mixed envOk hc q98 Go.Proofs.Tryz.func98 rfl (by kernel_rfl) (by kernel_rfl) k u98 (fun n => f98 (r98 c k n))
    (fun L f h hl => by
      match L, hl with
      | 0, hl => exact hl
      | 1, hl => obtain ⟨_, _, hl0⟩ := asI_inv (show _ from hl); obtain ⟨_, _, hl1⟩ := asI_inv (show _ from hl0); obtain ⟨_, _, hl2⟩ := asI_inv (show _ from hl1); exact hl2
      | 2, hl => obtain ⟨_, _, hl0⟩ := asI_inv (show _ from hl); obtain ⟨_, _, hl1⟩ := asI_inv (show _ from hl0); exact hl1
      | 3, hl => obtain ⟨_, _, hl0⟩ := asI_inv (show _ from hl); obtain ⟨_, _, hl1⟩ := asI_inv (show _ from hl0); obtain ⟨_, _, hl2⟩ := asI_inv (show _ from hl1); obtain ⟨_, _, hl3⟩ := asI_inv (show _ from hl2); exact hl3
      | 4, hl => obtain ⟨_, _, hl0⟩ := asI_inv (show _ from hl); exact hl0
      | 5, hl => obtain ⟨_, _, hl0⟩ := asI_inv (show _ from hl); obtain ⟨_, _, hl1⟩ := asI_inv (show _ from hl0); exact hl1
      | 6, hl => obtain ⟨_, _, hl0⟩ := asI_inv (show _ from hl); obtain ⟨_, _, hl1⟩ := asI_inv (show _ from hl0); exact hl1
      | 7, hl => obtain ⟨_, _, hl0⟩ := asI_inv (show _ from hl); obtain ⟨_, _, hl1⟩ := asI_inv (show _ from hl0); obtain ⟨_, _, hl2⟩ := asI_inv (show _ from hl1); obtain ⟨_, _, hl3⟩ := asI_inv (show _ from hl2); exact hl3
      | _ + 8, hl => exact hl)
    (fun n p L hm f h hl => by
      simp only [u98, List.mem_cons, Prod.mk.injEq, List.not_mem_nil, or_false] at hm
      rcases hm with ⟨rfl, rfl⟩ | ⟨rfl, rfl⟩ | ⟨rfl, rfl⟩ | ⟨rfl, rfl⟩ | ⟨rfl, rfl⟩ | ⟨rfl, rfl⟩ | ⟨rfl, rfl⟩ | ⟨rfl, rfl⟩
      · have hl : f98 (r98 c k (n + 1)) 0 f h := hl
        have hh := e98_0 c k (r98 c k n) f h (f 0) (f 1) (f 2)
        rw [fset_self (rfl : f 0 = f 0)] at hh
        rw [fset_self (rfl : f 1 = f 1)] at hh
        rw [fset_self (rfl : f 2 = f 2)] at hh
        exact Eq.mpr hh hl
      · have hl : f98 (r98 c k (n + 1)) 1 f h := hl
        obtain ⟨n_7, e_7, hl4⟩ := asI_inv hl
        obtain ⟨n_44, e_44, hl6⟩ := asI_inv hl4
        obtain ⟨n_45, e_45, hl7⟩ := asI_inv hl6
        have hh := e98_1 c k (r98 c k n) f h (f 1) (f 3) (f 5) (f 6) n_7 (f 8) n_44 n_45
        rw [fset_self (rfl : f 1 = f 1)] at hh
        rw [fset_self (rfl : f 3 = f 3)] at hh
        rw [fset_self (rfl : f 5 = f 5)] at hh
        rw [fset_self (rfl : f 6 = f 6)] at hh
        rw [fset_self e_7] at hh
        rw [fset_self (rfl : f 8 = f 8)] at hh
        rw [fset_self e_44] at hh
        rw [fset_self e_45] at hh
        exact Eq.mpr hh hl7
      · have hl : f98 (r98 c k (n + 1)) 2 f h := hl
        obtain ⟨n_102, e_102, hl2⟩ := asI_inv hl
        obtain ⟨n_103, e_103, hl3⟩ := asI_inv hl2
        have hh := e98_2 c k (r98 c k n) f h (f 3) (f 101) n_102 n_103
        rw [fset_self (rfl : f 3 = f 3)] at hh
        rw [fset_self (rfl : f 101 = f 101)] at hh
        rw [fset_self e_102] at hh
        rw [fset_self e_103] at hh
        exact Eq.mpr hh hl3
      · have hl : f98 (r98 c k (n + 1)) 3 f h := hl
        obtain ⟨n_7, e_7, hl4⟩ := asI_inv hl
        obtain ⟨n_10, e_10, hl6⟩ := asI_inv hl4
        obtain ⟨n_128, e_128, hl9⟩ := asI_inv hl6
        obtain ⟨n_129, e_129, hl10⟩ := asI_inv hl9
        have hh := e98_3 c k (r98 c k n) f h (f 1) (f 3) (f 5) (f 6) n_7 (f 8) n_10 (f 14) (f 127) n_128 n_129
        rw [fset_self (rfl : f 1 = f 1)] at hh
        rw [fset_self (rfl : f 3 = f 3)] at hh
        rw [fset_self (rfl : f 5 = f 5)] at hh
        rw [fset_self (rfl : f 6 = f 6)] at hh
        rw [fset_self e_7] at hh
        rw [fset_self (rfl : f 8 = f 8)] at hh
        rw [fset_self e_10] at hh
        rw [fset_self (rfl : f 14 = f 14)] at hh
        rw [fset_self (rfl : f 127 = f 127)] at hh
        rw [fset_self e_128] at hh
        rw [fset_self e_129] at hh
        exact Eq.mpr hh hl10
      · have hl : f98 (r98 c k (n + 1)) 4 f h := hl
        obtain ⟨n_7, e_7, hl3⟩ := asI_inv hl
        have hh := e98_4 c k (r98 c k n) f h (f 1) (f 3) (f 5) n_7 (f 8) (f 14)
        rw [fset_self (rfl : f 1 = f 1)] at hh
        rw [fset_self (rfl : f 3 = f 3)] at hh
        rw [fset_self (rfl : f 5 = f 5)] at hh
        rw [fset_self e_7] at hh
        rw [fset_self (rfl : f 8 = f 8)] at hh
        rw [fset_self (rfl : f 14 = f 14)] at hh
        exact Eq.mpr hh hl3
      · have hl : f98 (r98 c k (n + 1)) 5 f h := hl
        obtain ⟨n_7, e_7, hl4⟩ := asI_inv hl
        obtain ⟨n_10, e_10, hl6⟩ := asI_inv hl4
        have hh := e98_5 c k (r98 c k n) f h (f 1) (f 3) (f 5) (f 6) n_7 (f 8) n_10 (f 14)
        rw [fset_self (rfl : f 1 = f 1)] at hh
        rw [fset_self (rfl : f 3 = f 3)] at hh
        rw [fset_self (rfl : f 5 = f 5)] at hh
        rw [fset_self (rfl : f 6 = f 6)] at hh
        rw [fset_self e_7] at hh
        rw [fset_self (rfl : f 8 = f 8)] at hh
        rw [fset_self e_10] at hh
        rw [fset_self (rfl : f 14 = f 14)] at hh
        exact Eq.mpr hh hl6
      · have hl : f98 (r98 c k (n + 1)) 6 f h := hl
        obtain ⟨n_102, e_102, hl2⟩ := asI_inv hl
        obtain ⟨n_103, e_103, hl3⟩ := asI_inv hl2
        have hh := e98_6 c k (r98 c k n) f h (f 3) (f 101) n_102 n_103
        rw [fset_self (rfl : f 3 = f 3)] at hh
        rw [fset_self (rfl : f 101 = f 101)] at hh
        rw [fset_self e_102] at hh
        rw [fset_self e_103] at hh
        exact Eq.mpr hh hl3
      · have hl : f98 (r98 c k (n + 1)) 7 f h := hl
        obtain ⟨n_7, e_7, hl4⟩ := asI_inv hl
        obtain ⟨n_10, e_10, hl6⟩ := asI_inv hl4
        obtain ⟨n_128, e_128, hl9⟩ := asI_inv hl6
        obtain ⟨n_129, e_129, hl10⟩ := asI_inv hl9
        have hh := e98_7 c k (r98 c k n) f h (f 1) (f 3) (f 5) (f 6) n_7 (f 8) n_10 (f 14) (f 127) n_128 n_129
        rw [fset_self (rfl : f 1 = f 1)] at hh
        rw [fset_self (rfl : f 3 = f 3)] at hh
        rw [fset_self (rfl : f 5 = f 5)] at hh
        rw [fset_self (rfl : f 6 = f 6)] at hh
        rw [fset_self e_7] at hh
        rw [fset_self (rfl : f 8 = f 8)] at hh
        rw [fset_self e_10] at hh
        rw [fset_self (rfl : f 14 = f 14)] at hh
        rw [fset_self (rfl : f 127 = f 127)] at hh
        rw [fset_self e_128] at hh
        rw [fset_self e_129] at hh
        exact Eq.mpr hh hl10
    ) (by simp [u98]) hg

theorem e102_0 (c : Caller Prop FT) (k : KV) (J : J102) (f : FT) (h : H) (v_0 : AV) : chunkA env c q102 u102 (f102 J) d102 (retA env Go.Proofs.Tryz.f102.results.toList k) .root (fset f 0 v_0) h = s102_0 c k J v_0 h := by kernel_rfl
theorem w102 {c : Caller Prop FT} (hc : CallOk Go.Proofs.Tryz.prog (CP env) G (fun p => p) c) {k : KV} {n : Nat} {args : List AV} {h : H} (hg : f102 (r102 c k n) 0 (finit args) h) : SW Go.Proofs.Tryz.prog G (.func 102) args h k :=
  fn_ok mixed envOk hc q102 Go.Proofs.Tryz.func102 rfl (by kernel_rfl) (by kernel_rfl) k u102 (fun n => f102 (r102 c k n))
    (fun L f h hl => by
      match L, hl with
      | 0, hl => exact hl
      | _ + 1, hl => exact hl)
    (fun n p L hm f h hl => by
      simp only [u102, List.mem_cons, Prod.mk.injEq, List.not_mem_nil, or_false] at hm
      rcases hm with ⟨rfl, rfl⟩
      · have hl : f102 (r102 c k (n + 1)) 0 f h := hl
        have hh := e102_0 c k (r102 c k n) f h (f 0)
        rw [fset_self (rfl : f 0 = f 0)] at hh
        exact Eq.mpr hh hl
    ) (by simp [u102]) hg

theorem e103_0 (c : Caller Prop FT) (k : KV) (J : J103) (f : FT) (h : H) (v_0 : AV) (v_1 : AV) (v_2 : AV) (v_3 : AV) : chunkA env c q103 u103 (f103 J) d103 (retA env Go.Proofs.Tryz.f103.results.toList k) .root (fset (fset (fset (fset f 0 v_0) 1 v_1) 2 v_2) 3 v_3) h = s103_0 c k J v_0 v_1 v_2 v_3 h := by kernel_rfl
theorem e103_1 (c : Caller Prop FT) (k : KV) (J : J103) (f : FT) (h : H) (v_0 : AV) (v_2 : AV) : chunkA env c q103 u103 (f103 J) d103 (retA env Go.Proofs.Tryz.f103.results.toList k) (.l (.l (.l (.r (.l .root))))) (fset (fset f 0 v_0) 2 v_2) h = s103_1 c k J v_0 v_2 h := by kernel_rfl
theorem e103_2 (c : Caller Prop FT) (k : KV) (J : J103) (f : FT) (h : H) (v_0 : AV) (v_1 : AV) (v_2 : AV) (v_3 : AV) : chunkA env c q103 u103 (f103 J) d103 (retA env Go.Proofs.Tryz.f103.results.toList k) (.l (.l (.r .root))) (fset (fset (fset (fset f 0 v_0) 1 v_1) 2 v_2) 3 v_3) h = s103_2 c k J v_0 v_1 v_2 v_3 h := by kernel_rfl
theorem w103 {c : Caller Prop FT} (hc : CallOk Go.Proofs.Tryz.prog (CP env) G (fun p => p) c) {k : KV} {n : Nat} {args : List AV} {h : H} (hg : f103 (r103 c k n) 0 (finit args) h) : SW Go.Proofs.Tryz.prog G (.func 103) args h k :=
  fn_ok mixed envOk hc q103 Go.Proofs.Tryz.func103 rfl (by kernel_rfl) (by kernel_rfl) k u103 (fun n => f103 (r103 c k n))
    (fun L f h hl => by
      match L, hl with
      | 0, hl => exact hl
      | 1, hl => exact hl
      | 2, hl => exact hl
      | _ + 3, hl => exact hl)
    (fun n p L hm f h hl => by
      simp only [u103, List.mem_cons, Prod.mk.injEq, List.not_mem_nil, or_false] at hm
      rcases hm with ⟨rfl, rfl⟩ | ⟨rfl, rfl⟩ | ⟨rfl, rfl⟩
      · have hl : f103 (r103 c k (n + 1)) 0 f h := hl
        have hh := e103_0 c k (r103 c k n) f h (f 0) (f 1) (f 2) (f 3)
        rw [fset_self (rfl : f 0 = f 0)] at hh
        rw [fset_self (rfl : f 1 = f 1)] at hh
        rw [fset_self (rfl : f 2 = f 2)] at hh
        rw [fset_self (rfl : f 3 = f 3)] at hh
        exact Eq.mpr hh hl
      · have hl : f103 (r103 c k (n + 1)) 1 f h := hl
        have hh := e103_1 c k (r103 c k n) f h (f 0) (f 2)
        rw [fset_self (rfl : f 0 = f 0)] at hh
        rw [fset_self (rfl : f 2 = f 2)] at hh
        exact Eq.mpr hh hl
      · have hl : f103 (r103 c k (n + 1)) 2 f h := hl
        have hh := e103_2 c k (r103 c k n) f h (f 0) (f 1) (f 2) (f 3)
        rw [fset_self (rfl : f 0 = f 0)] at hh
        rw [fset_self (rfl : f 1 = f 1)] at hh
        rw [fset_self (rfl : f 2 = f 2)] at hh
        rw [fset_self (rfl : f 3 = f 3)] at hh
        exact Eq.mpr hh hl
    ) (by simp [u103]) hg

theorem e123_0 (c : Caller Prop FT) (k : KV) (J : J123) (f : FT) (h : H) (n_0 : Int) : chunkA env c q123 u123 (f123 J) d123 (retA env Go.Proofs.Tryz.f123.results.toList k) .root (fset f 0 (.int .u64 n_0)) h = s123_0 c k J n_0 h := by kernel_rfl
theorem e123_1 (c : Caller Prop FT) (k : KV) (J : J123) (f : FT) (h : H) (n_0 : Int) (n_2 : Int) : chunkA env c q123 u123 (f123 J) d123 (retA env Go.Proofs.Tryz.f123.results.toList k) (.r (.r (.r (.r .root)))) (fset (fset f 0 (.int .u64 n_0)) 2 (.int .i64 n_2)) h = s123_1 c k J n_0 n_2 h := by kernel_rfl
theorem e123_2 (c : Caller Prop FT) (k : KV) (J : J123) (f : FT) (h : H) (n_0 : Int) (n_2 : Int) : chunkA env c q123 u123 (f123 J) d123 (retA env Go.Proofs.Tryz.f123.results.toList k) (.r (.r (.r .root))) (fset (fset f 0 (.int .u64 n_0)) 2 (.int .i64 n_2)) h = s123_2 c k J n_0 n_2 h := by kernel_rfl
theorem e123_3 (c : Caller Prop FT) (k : KV) (J : J123) (f : FT) (h : H) (n_0 : Int) (n_2 : Int) : chunkA env c q123 u123 (f123 J) d123 (retA env Go.Proofs.Tryz.f123.results.toList k) (.r (.r .root)) (fset (fset f 0 (.int .u64 n_0)) 2 (.int .i64 n_2)) h = s123_3 c k J n_0 n_2 h := by kernel_rfl
theorem w123 {c : Caller Prop FT} (hc : CallOk Go.Proofs.Tryz.prog (CP env) G (fun p => p) c) {k : KV} {n : Nat} {args : List AV} {h : H} (hg : f123 (r123 c k n) 0 (finit args) h) : SW Go.Proofs.Tryz.prog G (.func 123) args h k :=
  fn_ok mixed envOk hc q123 Go.Proofs.Tryz.func123 rfl (by kernel_rfl) (by kernel_rfl) k u123 (fun n => f123 (r123 c k n))
    (fun L f h hl => by
      match L, hl with
      | 0, hl => obtain ⟨_, _, hl0⟩ := asI_inv (show _ from hl); exact hl0
      | 1, hl => obtain ⟨_, _, hl0⟩ := asI_inv (show _ from hl); obtain ⟨_, _, hl1⟩ := asI_inv (show _ from hl0); exact hl1
      | 2, hl => obtain ⟨_, _, hl0⟩ := asI_inv (show _ from hl); obtain ⟨_, _, hl1⟩ := asI_inv (show _ from hl0); exact hl1
      | 3, hl => obtain ⟨_, _, hl0⟩ := asI_inv (show _ from hl); obtain ⟨_, _, hl1⟩ := asI_inv (show _ from hl0); exact hl1
      | _ + 4, hl => exact hl)
    (fun n p L hm f h hl => by
      simp only [u123, List.mem_cons, Prod.mk.injEq, List.not_mem_nil, or_false] at hm
      rcases hm with ⟨rfl, rfl⟩ | ⟨rfl, rfl⟩ | ⟨rfl, rfl⟩ | ⟨rfl, rfl⟩
      · have hl : f123 (r123 c k (n + 1)) 0 f h := hl
        obtain ⟨n_0, e_0, hl0⟩ := asI_inv hl
        have hh := e123_0 c k (r123 c k n) f h n_0
        rw [fset_self e_0] at hh
        exact Eq.mpr hh hl0
      · have hl : f123 (r123 c k (n + 1)) 1 f h := hl
        obtain ⟨n_0, e_0, hl0⟩ := asI_inv hl
        obtain ⟨n_2, e_2, hl1⟩ := asI_inv hl0
        have hh := e123_1 c k (r123 c k n) f h n_0 n_2
        rw [fset_self e_0] at hh
        rw [fset_self e_2] at hh
        exact Eq.mpr hh hl1
      · have hl : f123 (r123 c k (n + 1)) 2 f h := hl
        obtain ⟨n_0, e_0, hl0⟩ := asI_inv hl
        obtain ⟨n_2, e_2, hl1⟩ := asI_inv hl0
        have hh := e123_2 c k (r123 c k n) f h n_0 n_2
        rw [fset_self e_0] at hh
        rw [fset_self e_2] at hh
        exact Eq.mpr hh hl1
      · have hl : f123 (r123 c k (n + 1)) 3 f h := hl
        obtain ⟨n_0, e_0, hl0⟩ := asI_inv hl
        obtain ⟨n_2, e_2, hl1⟩ := asI_inv hl0
        have hh := e123_3 c k (r123 c k n) f h n_0 n_2
        rw [fset_self e_0] at hh
        rw [fset_self e_2] at hh
        exact Eq.mpr hh hl1
    ) (by simp [u123]) hg

theorem w131 {c : Caller Prop FT} (hc : CallOk Go.Proofs.Tryz.prog (CP env) G (fun p => p) c) {k : KV} {m : Nat} {a : List AV} {h : H} (hg : runJ env c q131 u131 d131 (retA env Go.Proofs.Tryz.f131.results.toList k) m 0 (finit a) h) : SW Go.Proofs.Tryz.prog G (.func 131) a h k := fnI_ok mixed envOk hc q131 Go.Proofs.Tryz.func131 rfl (by kernel_rfl) (by kernel_rfl) (by kernel_rfl) (by simp [u131]) hg
theorem e135_0 (c : Caller Prop FT) (k : KV) (J : J135) (f : FT) (h : H) (v_0 : AV) (n_1 : Int) (v_2 : AV) : chunkA env c q135 u135 (f135 J) d135 (retA env Go.Proofs.Tryz.f135.results.toList k) .root (fset (fset (fset f 0 v_0) 1 (.int .i64 n_1)) 2 v_2) h = s135_0 c k J v_0 n_1 v_2 h := by kernel_rfl
theorem w135 {c : Caller Prop FT} (hc : CallOk Go.Proofs.Tryz.prog (CP env) G (fun p => p) c) {k : KV} {n : Nat} {args : List AV} {h : H} (hg : f135 (r135 c k n) 0 (finit args) h) : SW Go.Proofs.Tryz.prog G (.func 135) args h k :=
  fn_ok mixed envOk hc q135 Go.Proofs.Tryz.func135 rfl (by kernel_rfl) (by kernel_rfl) k u135 (fun n => f135 (r135 c k n))
    (fun L f h hl => by
      match L, hl with
      | 0, hl => obtain ⟨_, _, hl0⟩ := asI_inv (show _ from hl); exact hl0
      | _ + 1, hl => exact hl)
    (fun n p L hm f h hl => by
      simp only [u135, List.mem_cons, Prod.mk.injEq, List.not_mem_nil, or_false] at hm
      rcases hm with ⟨rfl, rfl⟩
      · have hl : f135 (r135 c k (n + 1)) 0 f h := hl
        obtain ⟨n_1, e_1, hl1⟩ := asI_inv hl
        have hh := e135_0 c k (r135 c k n) f h (f 0) n_1 (f 2)
        rw [fset_self (rfl : f 0 = f 0)] at hh
        rw [fset_self e_1] at hh
        rw [fset_self (rfl : f 2 = f 2)] at hh
        exact Eq.mpr hh hl1
    ) (by simp [u135]) hg

theorem w139 {c : Caller Prop FT} (hc : CallOk Go.Proofs.Tryz.prog (CP env) G (fun p => p) c) {k : KV} {m : Nat} {a : List AV} {h : H} (hg : runJ env c q139 u139 d139 (retA env Go.Proofs.Tryz.f139.results.toList k) m 0 (finit a) h) : SW Go.Proofs.Tryz.prog G (.func 139) a h k := fnI_ok mixed envOk hc q139 Go.Proofs.Tryz.func139 rfl (by kernel_rfl) (by kernel_rfl) (by kernel_rfl) (by simp [u139]) hg
theorem w142 {c : Caller Prop FT} (hc : CallOk Go.Proofs.Tryz.prog (CP env) G (fun p => p) c) {k : KV} {m : Nat} {a : List AV} {h : H} (hg : runJ env c q142 u142 d142 (retA env Go.Proofs.Tryz.f142.results.toList k) m 0 (finit a) h) : SW Go.Proofs.Tryz.prog G (.func 142) a h k := fnI_ok mixed envOk hc q142 Go.Proofs.Tryz.func142 rfl (by kernel_rfl) (by kernel_rfl) (by kernel_rfl) (by simp [u142]) hg
theorem w145 {c : Caller Prop FT} (hc : CallOk Go.Proofs.Tryz.prog (CP env) G (fun p => p) c) {k : KV} {m : Nat} {a : List AV} {h : H} (hg : runJ env c q145 u145 d145 (retA env Go.Proofs.Tryz.f145.results.toList k) m 0 (finit a) h) : SW Go.Proofs.Tryz.prog G (.func 145) a h k := fnI_ok mixed envOk hc q145 Go.Proofs.Tryz.func145 rfl (by kernel_rfl) (by kernel_rfl) (by kernel_rfl) (by simp [u145]) hg
theorem e147_0 (c : Caller Prop FT) (k : KV) (J : J147) (f : FT) (h : H) (l_0 : Nat) (c_0 : Nat) (l_1 : Nat) (c_1 : Nat) : chunkA env c q147 u147 (f147 J) d147 (retA env Go.Proofs.Tryz.f147.results.toList k) .root (fset (fset f 0 (.str l_0 c_0)) 1 (.str l_1 c_1)) h = s147_0 c k J l_0 c_0 l_1 c_1 h := by kernel_rfl
theorem w147 {c : Caller Prop FT} (hc : CallOk Go.Proofs.Tryz.prog (CP env) G (fun p => p) c) {k : KV} {n : Nat} {args : List AV} {h : H} (hg : f147 (r147 c k n) 0 (finit args) h) : SW Go.Proofs.Tryz.prog G (.func 147) args h k :=
  fn_ok mixed envOk hc q147 Go.Proofs.Tryz.func147 rfl (by kernel_rfl) (by kernel_rfl) k u147 (fun n => f147 (r147 c k n))
    (fun L f h hl => by
      match L, hl with
      | 0, hl => obtain ⟨_, _, _, hl0⟩ := asS_inv (show _ from hl); obtain ⟨_, _, _, hl1⟩ := asS_inv (show _ from hl0); exact hl1
      | _ + 1, hl => exact hl)
    (fun n p L hm f h hl => by
      simp only [u147, List.mem_cons, Prod.mk.injEq, List.not_mem_nil, or_false] at hm
      rcases hm with ⟨rfl, rfl⟩
      · have hl : f147 (r147 c k (n + 1)) 0 f h := hl
        obtain ⟨l_0, c_0, e_0, hl0⟩ := asS_inv hl
        obtain ⟨l_1, c_1, e_1, hl1⟩ := asS_inv hl0
        have hh := e147_0 c k (r147 c k n) f h l_0 c_0 l_1 c_1
        rw [fset_self e_0] at hh
        rw [fset_self e_1] at hh
        exact Eq.mpr hh hl1
    ) (by simp [u147]) hg

theorem e169_0 (c : Caller Prop FT) (k : KV) (J : J169) (f : FT) (h : H) (l_0 : Nat) (c_0 : Nat) : chunkA env c q169 u169 (f169 J) d169 (retA env Go.Proofs.Tryz.f169.results.toList k) .root (fset f 0 (.str l_0 c_0)) h = s169_0 c k J l_0 c_0 h := by kernel_rfl
theorem w169 {c : Caller Prop FT} (hc : CallOk Go.Proofs.Tryz.prog (CP env) G (fun p => p) c) {k : KV} {n : Nat} {args : List AV} {h : H} (hg : f169 (r169 c k n) 0 (finit args) h) : SW Go.Proofs.Tryz.prog G (.func 169) args h k :=
  fn_ok mixed envOk hc q169 Go.Proofs.Tryz.func169 rfl (by kernel_rfl) (by kernel_rfl) k u169 (fun n => f169 (r169 c k n))
    (fun L f h hl => by
      match L, hl with
      | 0, hl => obtain ⟨_, _, _, hl0⟩ := asS_inv (show _ from hl); exact hl0
      | _ + 1, hl => exact hl)
    (fun n p L hm f h hl => by
      simp only [u169, List.mem_cons, Prod.mk.injEq, List.not_mem_nil, or_false] at hm
      rcases hm with ⟨rfl, rfl⟩
      · have hl : f169 (r169 c k (n + 1)) 0 f h := hl
        obtain ⟨l_0, c_0, e_0, hl0⟩ := asS_inv hl
        have hh := e169_0 c k (r169 c k n) f h l_0 c_0
        rw [fset_self e_0] at hh
        exact Eq.mpr hh hl0
    ) (by simp [u169]) hg

theorem e173_0 (c : Caller Prop FT) (k : KV) (J : J173) (f : FT) (h : H) (v_0 : AV) (n_1 : Int) : chunkA env c q173 u173 (f173 J) d173 (retA env Go.Proofs.Tryz.f173.results.toList k) .root (fset (fset f 0 v_0) 1 (.int .i64 n_1)) h = s173_0 c k J v_0 n_1 h := by kernel_rfl
theorem w173 {c : Caller Prop FT} (hc : CallOk Go.Proofs.Tryz.prog (CP env) G (fun p => p) c) {k : KV} {n : Nat} {args : List AV} {h : H} (hg : f173 (r173 c k n) 0 (finit args) h) : SW Go.Proofs.Tryz.prog G (.func 173) args h k :=
  fn_ok mixed envOk hc q173 Go.Proofs.Tryz.func173 rfl (by kernel_rfl) (by kernel_rfl) k u173 (fun n => f173 (r173 c k n))
    (fun L f h hl => by
      match L, hl with
      | 0, hl => obtain ⟨_, _, hl0⟩ := asI_inv (show _ from hl); exact hl0
      | _ + 1, hl => exact hl)
    (fun n p L hm f h hl => by
      simp only [u173, List.mem_cons, Prod.mk.injEq, List.not_mem_nil, or_false] at hm
      rcases hm with ⟨rfl, rfl⟩
      · have hl : f173 (r173 c k (n + 1)) 0 f h := hl
        obtain ⟨n_1, e_1, hl1⟩ := asI_inv hl
        have hh := e173_0 c k (r173 c k n) f h (f 0) n_1
        rw [fset_self (rfl : f 0 = f 0)] at hh
        rw [fset_self e_1] at hh
        exact Eq.mpr hh hl1
    ) (by simp [u173]) hg

theorem e174_0 (c : Caller Prop FT) (k : KV) (J : J174) (f : FT) (h : H) (n_0 : Int) : chunkA env c q174 u174 (f174 J) d174 (retA env Go.Proofs.Tryz.f174.results.toList k) .root (fset f 0 (.int .u8 n_0)) h = s174_0 c k J n_0 h := by kernel_rfl
theorem w174 {c : Caller Prop FT} (hc : CallOk Go.Proofs.Tryz.prog (CP env) G (fun p => p) c) {k : KV} {n : Nat} {args : List AV} {h : H} (hg : f174 (r174 c k n) 0 (finit args) h) : SW Go.Proofs.Tryz.prog G (.func 174) args h k :=
  fn_ok mixed envOk hc q174 Go.Proofs.Tryz.func174 rfl (by kernel_rfl) (by kernel_rfl) k u174 (fun n => f174 (r174 c k n))
    (fun L f h hl => by
      match L, hl with
      | 0, hl => obtain ⟨_, _, hl0⟩ := asI_inv (show _ from hl); exact hl0
      | _ + 1, hl => exact hl)
    (fun n p L hm f h hl => by
      simp only [u174, List.mem_cons, Prod.mk.injEq, List.not_mem_nil, or_false] at hm
      rcases hm with ⟨rfl, rfl⟩
      · have hl : f174 (r174 c k (n + 1)) 0 f h := hl
        obtain ⟨n_0, e_0, hl0⟩ := asI_inv hl
        have hh := e174_0 c k (r174 c k n) f h n_0
        rw [fset_self e_0] at hh
        exact Eq.mpr hh hl0
    ) (by simp [u174]) hg

theorem w178 {c : Caller Prop FT} (hc : CallOk Go.Proofs.Tryz.prog (CP env) G (fun p => p) c) {k : KV} {m : Nat} {a : List AV} {h : H} (hg : runJ env c q178 u178 d178 (retA env Go.Proofs.Tryz.f178.results.toList k) m 0 (finit a) h) : SW Go.Proofs.Tryz.prog G (.func 178) a h k := fnI_ok mixed envOk hc q178 Go.Proofs.Tryz.func178 rfl (by kernel_rfl) (by kernel_rfl) (by kernel_rfl) (by simp [u178]) hg
theorem w183 {c : Caller Prop FT} (hc : CallOk Go.Proofs.Tryz.prog (CP env) G (fun p => p) c) {k : KV} {m : Nat} {a : List AV} {h : H} (hg : runJ env c q183 u183 d183 (retA env Go.Proofs.Tryz.f183.results.toList k) m 0 (finit a) h) : SW Go.Proofs.Tryz.prog G (.func 183) a h k := fnI_ok mixed envOk hc q183 Go.Proofs.Tryz.func183 rfl (by kernel_rfl) (by kernel_rfl) (by kernel_rfl) (by simp [u183]) hg
theorem w186 {c : Caller Prop FT} (hc : CallOk Go.Proofs.Tryz.prog (CP env) G (fun p => p) c) {k : KV} {m : Nat} {a : List AV} {h : H} (hg : runJ env c q186 u186 d186 (retA env Go.Proofs.Tryz.f186.results.toList k) m 0 (finit a) h) : SW Go.Proofs.Tryz.prog G (.func 186) a h k := fnI_ok mixed envOk hc q186 Go.Proofs.Tryz.func186 rfl (by kernel_rfl) (by kernel_rfl) (by kernel_rfl) (by simp [u186]) hg
theorem w189 {c : Caller Prop FT} (hc : CallOk Go.Proofs.Tryz.prog (CP env) G (fun p => p) c) {k : KV} {m : Nat} {a : List AV} {h : H} (hg : runJ env c q189 u189 d189 (retA env Go.Proofs.Tryz.f189.results.toList k) m 0 (finit a) h) : SW Go.Proofs.Tryz.prog G (.func 189) a h k := fnI_ok mixed envOk hc q189 Go.Proofs.Tryz.func189 rfl (by kernel_rfl) (by kernel_rfl) (by kernel_rfl) (by simp [u189]) hg
theorem e193_0 (c : Caller Prop FT) (k : KV) (J : J193) (f : FT) (h : H) (l_0 : Nat) (c_0 : Nat) (n_1 : Int) : chunkA env c q193 u193 (f193 J) d193 (retA env Go.Proofs.Tryz.f193.results.toList k) .root (fset (fset f 0 (.str l_0 c_0)) 1 (.int .u8 n_1)) h = s193_0 c k J l_0 c_0 n_1 h := by kernel_rfl
theorem w193 {c : Caller Prop FT} (hc : CallOk Go.Proofs.Tryz.prog (CP env) G (fun p => p) c) {k : KV} {n : Nat} {args : List AV} {h : H} (hg : f193 (r193 c k n) 0 (finit args) h) : SW Go.Proofs.Tryz.prog G (.func 193) args h k :=
  fn_ok mixed envOk hc q193 Go.Proofs.Tryz.func193 rfl (by kernel_rfl) (by kernel_rfl) k u193 (fun n => f193 (r193 c k n))
    (fun L f h hl => by
      match L, hl with
      | 0, hl => obtain ⟨_, _, _, hl0⟩ := asS_inv (show _ from hl); obtain ⟨_, _, hl1⟩ := asI_inv (show _ from hl0); exact hl1
      | _ + 1, hl => exact hl)
    (fun n p L hm f h hl => by
      simp only [u193, List.mem_cons, Prod.mk.injEq, List.not_mem_nil, or_false] at hm
      rcases hm with ⟨rfl, rfl⟩
      · have hl : f193 (r193 c k (n + 1)) 0 f h := hl
        obtain ⟨l_0, c_0, e_0, hl0⟩ := asS_inv hl
        obtain ⟨n_1, e_1, hl1⟩ := asI_inv hl0
        have hh := e193_0 c k (r193 c k n) f h l_0 c_0 n_1
        rw [fset_self e_0] at hh
        rw [fset_self e_1] at hh
        exact Eq.mpr hh hl1
    ) (by simp [u193]) hg

theorem e207_0 (c : Caller Prop FT) (k : KV) (J : J207) (f : FT) (h : H) (v_0 : AV) (v_1 : AV) : chunkA env c q207 u207 (f207 J) d207 (retA env Go.Proofs.Tryz.f207.results.toList k) .root (fset (fset f 0 v_0) 1 v_1) h = s207_0 c k J v_0 v_1 h := by kernel_rfl
theorem w207 {c : Caller Prop FT} (hc : CallOk Go.Proofs.Tryz.prog (CP env) G (fun p => p) c) {k : KV} {n : Nat} {args : List AV} {h : H} (hg : f207 (r207 c k n) 0 (finit args) h) : SW Go.Proofs.Tryz.prog G (.func 207) args h k :=
  fn_ok mixed envOk hc q207 Go.Proofs.Tryz.func207 rfl (by kernel_rfl) (by kernel_rfl) k u207 (fun n => f207 (r207 c k n))
    (fun L f h hl => by
      match L, hl with
      | 0, hl => exact hl
      | _ + 1, hl => exact hl)
    (fun n p L hm f h hl => by
      simp only [u207, List.mem_cons, Prod.mk.injEq, List.not_mem_nil, or_false] at hm
      rcases hm with ⟨rfl, rfl⟩
      · have hl : f207 (r207 c k (n + 1)) 0 f h := hl
        have hh := e207_0 c k (r207 c k n) f h (f 0) (f 1)
        rw [fset_self (rfl : f 0 = f 0)] at hh
        rw [fset_self (rfl : f 1 = f 1)] at hh
        exact Eq.mpr hh hl
    ) (by simp [u207]) hg

theorem e211_0 (c : Caller Prop FT) (k : KV) (J : J211) (f : FT) (h : H) (v_0 : AV) : chunkA env c q211 u211 (f211 J) d211 (retA env Go.Proofs.Tryz.f211.results.toList k) .root (fset f 0 v_0) h = s211_0 c k J v_0 h := by kernel_rfl
theorem w211 {c : Caller Prop FT} (hc : CallOk Go.Proofs.Tryz.prog (CP env) G (fun p => p) c) {k : KV} {n : Nat} {args : List AV} {h : H} (hg : f211 (r211 c k n) 0 (finit args) h) : SW Go.Proofs.Tryz.prog G (.func 211) args h k :=
  fn_ok mixed envOk hc q211 Go.Proofs.Tryz.func211 rfl (by kernel_rfl) (by kernel_rfl) k u211 (fun n => f211 (r211 c k n))
    (fun L f h hl => by
      match L, hl with
      | 0, hl => exact hl
      | _ + 1, hl => exact hl)
    (fun n p L hm f h hl => by
      simp only [u211, List.mem_cons, Prod.mk.injEq, List.not_mem_nil, or_false] at hm
      rcases hm with ⟨rfl, rfl⟩
      · have hl : f211 (r211 c k (n + 1)) 0 f h := hl
        have hh := e211_0 c k (r211 c k n) f h (f 0)
        rw [fset_self (rfl : f 0 = f 0)] at hh
        exact Eq.mpr hh hl
    ) (by simp [u211]) hg

theorem w216 {c : Caller Prop FT} (hc : CallOk Go.Proofs.Tryz.prog (CP env) G (fun p => p) c) {k : KV} {m : Nat} {a : List AV} {h : H} (hg : runJ env c q216 u216 d216 (retA env Go.Proofs.Tryz.f216.results.toList k) m 0 (finit a) h) : SW Go.Proofs.Tryz.prog G (.func 216) a h k := fnI_ok mixed envOk hc q216 Go.Proofs.Tryz.func216 rfl (by kernel_rfl) (by kernel_rfl) (by kernel_rfl) (by simp [u216]) hg
theorem e220_0 (c : Caller Prop FT) (k : KV) (J : J220) (f : FT) (h : H) (v_0 : AV) (l_1 : Nat) (c_1 : Nat) : chunkA env c q220 u220 (f220 J) d220 (retA env Go.Proofs.Tryz.f220.results.toList k) .root (fset (fset f 0 v_0) 1 (.str l_1 c_1)) h = s220_0 c k J v_0 l_1 c_1 h := by kernel_rfl
theorem w220 {c : Caller Prop FT} (hc : CallOk Go.Proofs.Tryz.prog (CP env) G (fun p => p) c) {k : KV} {n : Nat} {args : List AV} {h : H} (hg : f220 (r220 c k n) 0 (finit args) h) : SW Go.Proofs.Tryz.prog G (.func 220) args h k :=
  fn_ok mixed envOk hc q220 Go.Proofs.Tryz.func220 rfl (by kernel_rfl) (by kernel_rfl) k u220 (fun n => f220 (r220 c k n))
    (fun L f h hl => by
      match L, hl with
      | 0, hl => obtain ⟨_, _, _, hl0⟩ := asS_inv (show _ from hl); exact hl0
      | _ + 1, hl => exact hl)
    (fun n p L hm f h hl => by
      simp only [u220, List.mem_cons, Prod.mk.injEq, List.not_mem_nil, or_false] at hm
      rcases hm with ⟨rfl, rfl⟩
      · have hl : f220 (r220 c k (n + 1)) 0 f h := hl
        obtain ⟨l_1, c_1, e_1, hl1⟩ := asS_inv hl
        have hh := e220_0 c k (r220 c k n) f h (f 0) l_1 c_1
        rw [fset_self (rfl : f 0 = f 0)] at hh
        rw [fset_self e_1] at hh
        exact Eq.mpr hh hl1
    ) (by simp [u220]) hg

theorem w222 {c : Caller Prop FT} (hc : CallOk Go.Proofs.Tryz.prog (CP env) G (fun p => p) c) {k : KV} {m : Nat} {a : List AV} {h : H} (hg : runJ env c q222 u222 d222 (retA env Go.Proofs.Tryz.f222.results.toList k) m 0 (finit a) h) : SW Go.Proofs.Tryz.prog G (.func 222) a h k := fnI_ok mixed envOk hc q222 Go.Proofs.Tryz.func222 rfl (by kernel_rfl) (by kernel_rfl) (by kernel_rfl) (by simp [u222]) hg
theorem e224_0 (c : Caller Prop FT) (k : KV) (J : J224) (f : FT) (h : H) (v_0 : AV) : chunkA env c q224 u224 (f224 J) d224 (retA env Go.Proofs.Tryz.f224.results.toList k) .root (fset f 0 v_0) h = s224_0 c k J v_0 h := by kernel_rfl
theorem e224_1 (c : Caller Prop FT) (k : KV) (J : J224) (f : FT) (h : H) (v_2 : AV) (v_5 : AV) (n_6 : Int) (n_7 : Int) : chunkA env c q224 u224 (f224 J) d224 (retA env Go.Proofs.Tryz.f224.results.toList k) (.l (.r (.l (.r .root)))) (fset (fset (fset (fset f 2 v_2) 5 v_5) 6 (.int .i64 n_6)) 7 (.int .i64 n_7)) h = s224_1 c k J v_2 v_5 n_6 n_7 h := by kernel_rfl
theorem w224 {c : Caller Prop FT} (hc : CallOk Go.Proofs.Tryz.prog (CP env) G (fun p => p) c) {k : KV} {n : Nat} {args : List AV} {h : H} (hg : f224 (r224 c k n) 0 (finit args) h) : SW Go.Proofs.Tryz.prog G (.func 224) args h k :=
  fn_ok mixed envOk hc q224 Go.Proofs.Tryz.func224 rfl (by kernel_rfl) (by kernel_rfl) k u224 (fun n => f224 (r224 c k n))
    (fun L f h hl => by
      match L, hl with
      | 0, hl => exact hl
      | 1, hl => obtain ⟨_, _, hl0⟩ := asI_inv (show _ from hl); obtain ⟨_, _, hl1⟩ := asI_inv (show _ from hl0); exact hl1
      | _ + 2, hl => exact hl)
    (fun n p L hm f h hl => by
      simp only [u224, List.mem_cons, Prod.mk.injEq, List.not_mem_nil, or_false] at hm
      rcases hm with ⟨rfl, rfl⟩ | ⟨rfl, rfl⟩
      · have hl : f224 (r224 c k (n + 1)) 0 f h := hl
        have hh := e224_0 c k (r224 c k n) f h (f 0)
        rw [fset_self (rfl : f 0 = f 0)] at hh
        exact Eq.mpr hh hl
      · have hl : f224 (r224 c k (n + 1)) 1 f h := hl
        obtain ⟨n_6, e_6, hl2⟩ := asI_inv hl
        obtain ⟨n_7, e_7, hl3⟩ := asI_inv hl2
        have hh := e224_1 c k (r224 c k n) f h (f 2) (f 5) n_6 n_7
        rw [fset_self (rfl : f 2 = f 2)] at hh
        rw [fset_self (rfl : f 5 = f 5)] at hh
        rw [fset_self e_6] at hh
        rw [fset_self e_7] at hh
        exact Eq.mpr hh hl3
    ) (by simp [u224]) hg

theorem e230_0 (c : Caller Prop FT) (k : KV) (J : J230) (f : FT) (h : H) (v_0 : AV) : chunkA env c q230 u230 (f230 J) d230 (retA env Go.Proofs.Tryz.f230.results.toList k) .root (fset f 0 v_0) h = s230_0 c k J v_0 h := by kernel_rfl
theorem w230 {c : Caller Prop FT} (hc : CallOk Go.Proofs.Tryz.prog (CP env) G (fun p => p) c) {k : KV} {n : Nat} {args : List AV} {h : H} (hg : f230 (r230 c k n) 0 (finit args) h) : SW Go.Proofs.Tryz.prog G (.func 230) args h k :=
  fn_ok mixed envOk hc q230 Go.Proofs.Tryz.func230 rfl (by kernel_rfl) (by kernel_rfl) k u230 (fun n => f230 (r230 c k n))
    (fun L f h hl => by
      match L, hl with
      | 0, hl => exact hl
      | _ + 1, hl => exact hl)
    (fun n p L hm f h hl => by
      simp only [u230, List.mem_cons, Prod.mk.injEq, List.not_mem_nil, or_false] at hm
      rcases hm with ⟨rfl, rfl⟩
      · have hl : f230 (r230 c k (n + 1)) 0 f h := hl
        have hh := e230_0 c k (r230 c k n) f h (f 0)
        rw [fset_self (rfl : f 0 = f 0)] at hh
        exact Eq.mpr hh hl
    ) (by simp [u230]) hg
theorem wd230 {c : Caller Prop FT} (hc : CallOk Go.Proofs.Tryz.prog (CP env) G (fun p => p) c) {k : KV} {n : Nat} {args : List AV} {h : H} (hg : f230 (r230 c k n) 0 (finit args) h) : SWD Go.Proofs.Tryz.prog G 230 args h k :=
  fnD_ok mixed envOk hc q230 Go.Proofs.Tryz.func230 rfl (by kernel_rfl) (by kernel_rfl) k u230 (fun n => f230 (r230 c k n))
    (fun L f h hl => by
      match L, hl with
      | 0, hl => exact hl
      | _ + 1, hl => exact hl)
    (fun n p L hm f h hl => by
      simp only [u230, List.mem_cons, Prod.mk.injEq, List.not_mem_nil, or_false] at hm
      rcases hm with ⟨rfl, rfl⟩
      · have hl : f230 (r230 c k (n + 1)) 0 f h := hl
        have hh := e230_0 c k (r230 c k n) f h (f 0)
        rw [fset_self (rfl : f 0 = f 0)] at hh
        exact Eq.mpr hh hl
    ) (by simp [u230]) hg

theorem e231_0 (c : Caller Prop FT) (k : KV) (J : J231) (f : FT) (h : H) (v_0 : AV) (b_1 : Bool) : chunkA env c q231 u231 (f231 J) d231 (retA env Go.Proofs.Tryz.f231.results.toList k) .root (fset (fset f 0 v_0) 1 (.bool b_1)) h = s231_0 c k J v_0 b_1 h := by kernel_rfl
theorem w231 {c : Caller Prop FT} (hc : CallOk Go.Proofs.Tryz.prog (CP env) G (fun p => p) c) {k : KV} {n : Nat} {args : List AV} {h : H} (hg : f231 (r231 c k n) 0 (finit args) h) : SW Go.Proofs.Tryz.prog G (.func 231) args h k :=
  fn_ok mixed envOk hc q231 Go.Proofs.Tryz.func231 rfl (by kernel_rfl) (by kernel_rfl) k u231 (fun n => f231 (r231 c k n))
    (fun L f h hl => by
      match L, hl with
      | 0, hl => obtain ⟨_, _, hl0⟩ := asB_inv (show _ from hl); exact hl0
      | _ + 1, hl => exact hl)
    (fun n p L hm f h hl => by
      simp only [u231, List.mem_cons, Prod.mk.injEq, List.not_mem_nil, or_false] at hm
      rcases hm with ⟨rfl, rfl⟩
      · have hl : f231 (r231 c k (n + 1)) 0 f h := hl
        obtain ⟨b_1, e_1, hl1⟩ := asB_inv hl
        have hh := e231_0 c k (r231 c k n) f h (f 0) b_1
        rw [fset_self (rfl : f 0 = f 0)] at hh
        rw [fset_self e_1] at hh
        exact Eq.mpr hh hl1
    ) (by simp [u231]) hg
theorem wd231 {c : Caller Prop FT} (hc : CallOk Go.Proofs.Tryz.prog (CP env) G (fun p => p) c) {k : KV} {n : Nat} {args : List AV} {h : H} (hg : f231 (r231 c k n) 0 (finit args) h) : SWD Go.Proofs.Tryz.prog G 231 args h k :=
  fnD_ok mixed envOk hc q231 Go.Proofs.Tryz.func231 rfl (by kernel_rfl) (by kernel_rfl) k u231 (fun n => f231 (r231 c k n))
    (fun L f h hl => by
      match L, hl with
      | 0, hl => obtain ⟨_, _, hl0⟩ := asB_inv (show _ from hl); exact hl0
      | _ + 1, hl => exact hl)
    (fun n p L hm f h hl => by
      simp only [u231, List.mem_cons, Prod.mk.injEq, List.not_mem_nil, or_false] at hm
      rcases hm with ⟨rfl, rfl⟩
      · have hl : f231 (r231 c k (n + 1)) 0 f h := hl
        obtain ⟨b_1, e_1, hl1⟩ := asB_inv hl
        have hh := e231_0 c k (r231 c k n) f h (f 0) b_1
        rw [fset_self (rfl : f 0 = f 0)] at hh
        rw [fset_self e_1] at hh
        exact Eq.mpr hh hl1
    ) (by simp [u231]) hg

theorem e242_0 (c : Caller Prop FT) (k : KV) (J : J242) (f : FT) (h : H) (v_0 : AV) : chunkA env c q242 u242 (f242 J) d242 (retA env Go.Proofs.Tryz.f242.results.toList k) .root (fset f 0 v_0) h = s242_0 c k J v_0 h := by kernel_rfl
theorem w242 {c : Caller Prop FT} (hc : CallOk Go.Proofs.Tryz.prog (CP env) G (fun p => p) c) {k : KV} {n : Nat} {args : List AV} {h : H} (hg : f242 (r242 c k n) 0 (finit args) h) : SW Go.Proofs.Tryz.prog G (.func 242) args h k :=
  fn_ok mixed envOk hc q242 Go.Proofs.Tryz.func242 rfl (by kernel_rfl) (by kernel_rfl) k u242 (fun n => f242 (r242 c k n))
    (fun L f h hl => by
      match L, hl with
      | 0, hl => exact hl
      | _ + 1, hl => exact hl)
    (fun n p L hm f h hl => by
      simp only [u242, List.mem_cons, Prod.mk.injEq, List.not_mem_nil, or_false] at hm
      rcases hm with ⟨rfl, rfl⟩
      · have hl : f242 (r242 c k (n + 1)) 0 f h := hl
        have hh := e242_0 c k (r242 c k n) f h (f 0)
        rw [fset_self (rfl : f 0 = f 0)] at hh
        exact Eq.mpr hh hl
    ) (by simp [u242]) hg

theorem w248 {c : Caller Prop FT} (hc : CallOk Go.Proofs.Tryz.prog (CP env) G (fun p => p) c) {k : KV} {m : Nat} {a : List AV} {h : H} (hg : runJ env c q248 u248 d248 (retA env Go.Proofs.Tryz.f248.results.toList k) m 0 (finit a) h) : SW Go.Proofs.Tryz.prog G (.func 248) a h k := fnI_ok mixed envOk hc q248 Go.Proofs.Tryz.func248 rfl (by kernel_rfl) (by kernel_rfl) (by kernel_rfl) (by simp [u248]) hg
theorem e253_0 (c : Caller Prop FT) (k : KV) (J : J253) (f : FT) (h : H) (v_0 : AV) (l_1 : Nat) (c_1 : Nat) : chunkA env c q253 u253 (f253 J) d253 (retA env Go.Proofs.Tryz.f253.results.toList k) .root (fset (fset f 0 v_0) 1 (.str l_1 c_1)) h = s253_0 c k J v_0 l_1 c_1 h := by kernel_rfl
theorem e253_1 (c : Caller Prop FT) (k : KV) (J : J253) (f : FT) (h : H) (v_0 : AV) (l_1 : Nat) (c_1 : Nat) (n_7 : Int) (n_8 : Int) : chunkA env c q253 u253 (f253 J) d253 (retA env Go.Proofs.Tryz.f253.results.toList k) (.l (.r (.l (.r .root)))) (fset (fset (fset (fset f 0 v_0) 1 (.str l_1 c_1)) 7 (.int .i64 n_7)) 8 (.int .i64 n_8)) h = s253_1 c k J v_0 l_1 c_1 n_7 n_8 h := by kernel_rfl
theorem w253 {c : Caller Prop FT} (hc : CallOk Go.Proofs.Tryz.prog (CP env) G (fun p => p) c) {k : KV} {n : Nat} {args : List AV} {h : H} (hg : f253 (r253 c k n) 0 (finit args) h) : SW Go.Proofs.Tryz.prog G (.func 253) args h k :=
  fn_ok mixed envOk hc q253 Go.Proofs.Tryz.func253 rfl (by kernel_rfl) (by kernel_rfl) k u253 (fun n => f253 (r253 c k n))
    (fun L f h hl => by
      match L, hl with
      | 0, hl => obtain ⟨_, _, _, hl0⟩ := asS_inv (show _ from hl); exact hl0
      | 1, hl => obtain ⟨_, _, _, hl0⟩ := asS_inv (show _ from hl); obtain ⟨_, _, hl1⟩ := asI_inv (show _ from hl0); obtain ⟨_, _, hl2⟩ := asI_inv (show _ from hl1); exact hl2
      | _ + 2, hl => exact hl)
    (fun n p L hm f h hl => by
      simp only [u253, List.mem_cons, Prod.mk.injEq, List.not_mem_nil, or_false] at hm
      rcases hm with ⟨rfl, rfl⟩ | ⟨rfl, rfl⟩
      · have hl : f253 (r253 c k (n + 1)) 0 f h := hl
        obtain ⟨l_1, c_1, e_1, hl1⟩ := asS_inv hl
        have hh := e253_0 c k (r253 c k n) f h (f 0) l_1 c_1
        rw [fset_self (rfl : f 0 = f 0)] at hh
        rw [fset_self e_1] at hh
        exact Eq.mpr hh hl1
      · have hl : f253 (r253 c k (n + 1)) 1 f h := hl
        obtain ⟨l_1, c_1, e_1, hl1⟩ := asS_inv hl
        obtain ⟨n_7, e_7, hl2⟩ := asI_inv hl1
        obtain ⟨n_8, e_8, hl3⟩ := asI_inv hl2
        have hh := e253_1 c k (r253 c k n) f h (f 0) l_1 c_1 n_7 n_8
        rw [fset_self (rfl : f 0 = f 0)] at hh
        rw [fset_self e_1] at hh
        rw [fset_self e_7] at hh
        rw [fset_self e_8] at hh
        exact Eq.mpr hh hl3
    ) (by simp [u253]) hg

theorem w278 {c : Caller Prop FT} (hc : CallOk Go.Proofs.Tryz.prog (CP env) G (fun p => p) c) {k : KV} {m : Nat} {a : List AV} {h : H} (hg : runJ env c q278 u278 d278 (retA env Go.Proofs.Tryz.f278.results.toList k) m 0 (finit a) h) : SW Go.Proofs.Tryz.prog G (.func 278) a h k := fnI_ok mixed envOk hc q278 Go.Proofs.Tryz.func278 rfl (by kernel_rfl) (by kernel_rfl) (by kernel_rfl) (by simp [u278]) hg
end Go.Den
