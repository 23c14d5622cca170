/-
  A part of the proof: TDW0, TDW1.
-/
import Derived.Test.YtdpnnajfmkpfjaaDoorRunA
import Derived.KernelRfl
namespace Go.Den
set_option maxRecDepth 100000
theorem e27_0 (c : Caller Prop FT) (k : KV) (J : J27) (f : FT) (h : H) (n_0 : Int) : chunkA env c q27 u27 (f27 J) d27 (retA env Go.Proofs.Tryd.f27.results.toList k) .root (fset f 0 (.int .u8 n_0)) h = s27_0 c k J n_0 h := by kernel_rfl
theorem w27 {c : Caller Prop FT} (hc : CallOk Go.Proofs.Tryd.prog (CP env) G (fun p => p) c) {k : KV} {n : Nat} {args : List AV} {h : H} (hg : f27 (r27 c k n) 0 (finit args) h) : SW Go.Proofs.Tryd.prog G (.func 27) args h k :=
  fn_ok mixed envOk hc q27 Go.Proofs.Tryd.func27 rfl (by kernel_rfl) (by kernel_rfl) k u27 (fun n => f27 (r27 c k n))
    (fun L f h hl => by
      match L, hl with
      | 0, hl => obtain ⟨_, _, hl0⟩ := asI_inv (show _ from hl); exact hl0
      | _ + 1, hl => exact hl)
    (fun n p L hm f h hl => by
      simp only [u27, List.mem_cons, Prod.mk.injEq, List.not_mem_nil, or_false] at hm
      rcases hm with ⟨rfl, rfl⟩
      · have hl : f27 (r27 c k (n + 1)) 0 f h := hl
        obtain ⟨n_0, e_0, hl0⟩ := asI_inv hl
        have hh := e27_0 c k (r27 c k n) f h n_0
        rw [fset_self e_0] at hh
        exact Eq.mpr hh hl0
    ) (by simp [u27]) hg

theorem e31_0 (c : Caller Prop FT) (k : KV) (J : J31) (f : FT) (h : H) (v_0 : AV) : chunkA env c q31 u31 (f31 J) d31 (retA env Go.Proofs.Tryd.f31.results.toList k) .root (fset f 0 v_0) h = s31_0 c k J v_0 h := by kernel_rfl
theorem w31 {c : Caller Prop FT} (hc : CallOk Go.Proofs.Tryd.prog (CP env) G (fun p => p) c) {k : KV} {n : Nat} {args : List AV} {h : H} (hg : f31 (r31 c k n) 0 (finit args) h) : SW Go.Proofs.Tryd.prog G (.func 31) args h k :=
  fn_ok mixed envOk hc q31 Go.Proofs.Tryd.func31 rfl (by kernel_rfl) (by kernel_rfl) k u31 (fun n => f31 (r31 c k n))
    (fun L f h hl => by
      match L, hl with
      | 0, hl => exact hl
      | _ + 1, hl => exact hl)
    (fun n p L hm f h hl => by
      simp only [u31, List.mem_cons, Prod.mk.injEq, List.not_mem_nil, or_false] at hm
      rcases hm with ⟨rfl, rfl⟩
      · have hl : f31 (r31 c k (n + 1)) 0 f h := hl
        have hh := e31_0 c k (r31 c k n) f h (f 0)
        rw [fset_self (rfl : f 0 = f 0)] at hh
        exact Eq.mpr hh hl
    ) (by simp [u31]) hg

theorem e32_0 (c : Caller Prop FT) (k : KV) (J : J32) (f : FT) (h : H) (v_0 : AV) (n_1 : Int) : chunkA env c q32 u32 (f32 J) d32 (retA env Go.Proofs.Tryd.f32.results.toList k) .root (fset (fset f 0 v_0) 1 (.int .u8 n_1)) h = s32_0 c k J v_0 n_1 h := by kernel_rfl
theorem w32 {c : Caller Prop FT} (hc : CallOk Go.Proofs.Tryd.prog (CP env) G (fun p => p) c) {k : KV} {n : Nat} {args : List AV} {h : H} (hg : f32 (r32 c k n) 0 (finit args) h) : SW Go.Proofs.Tryd.prog G (.func 32) args h k :=
  fn_ok mixed envOk hc q32 Go.Proofs.Tryd.func32 rfl (by kernel_rfl) (by kernel_rfl) k u32 (fun n => f32 (r32 c k n))
    (fun L f h hl => by
      match L, hl with
      | 0, hl => obtain ⟨_, _, hl0⟩ := asI_inv (show _ from hl); exact hl0
      | _ + 1, hl => exact hl)
    (fun n p L hm f h hl => by
      simp only [u32, List.mem_cons, Prod.mk.injEq, List.not_mem_nil, or_false] at hm
      rcases hm with ⟨rfl, rfl⟩
      · have hl : f32 (r32 c k (n + 1)) 0 f h := hl
        obtain ⟨n_1, e_1, hl1⟩ := asI_inv hl
        have hh := e32_0 c k (r32 c k n) f h (f 0) n_1
        rw [fset_self (rfl : f 0 = f 0)] at hh
        rw [fset_self e_1] at hh
        exact Eq.mpr hh hl1
    ) (by simp [u32]) hg

theorem e38_0 (c : Caller Prop FT) (k : KV) (J : J38) (f : FT) (h : H) (l_0 : Nat) (c_0 : Nat) : chunkA env c q38 u38 (f38 J) d38 (retA env Go.Proofs.Tryd.f38.results.toList k) .root (fset f 0 (.str l_0 c_0)) h = s38_0 c k J l_0 c_0 h := by kernel_rfl
theorem e38_1 (c : Caller Prop FT) (k : KV) (J : J38) (f : FT) (h : H) (l_0 : Nat) (c_0 : Nat) (v_2 : AV) (n_4 : Int) : chunkA env c q38 u38 (f38 J) d38 (retA env Go.Proofs.Tryd.f38.results.toList k) (.l (.r (.l (.r .root)))) (fset (fset (fset f 0 (.str l_0 c_0)) 2 v_2) 4 (.int .i64 n_4)) h = s38_1 c k J l_0 c_0 v_2 n_4 h := by kernel_rfl
theorem w38 {c : Caller Prop FT} (hc : CallOk Go.Proofs.Tryd.prog (CP env) G (fun p => p) c) {k : KV} {n : Nat} {args : List AV} {h : H} (hg : f38 (r38 c k n) 0 (finit args) h) : SW Go.Proofs.Tryd.prog G (.func 38) args h k :=
  fn_ok mixed envOk hc q38 Go.Proofs.Tryd.func38 rfl (by kernel_rfl) (by kernel_rfl) k u38 (fun n => f38 (r38 c k n))
    (fun L f h hl => by
      match L, hl with
      | 0, hl => obtain ⟨_, _, _, hl0⟩ := asS_inv (show _ from hl); exact hl0
      | 1, hl => obtain ⟨_, _, _, hl0⟩ := asS_inv (show _ from hl); obtain ⟨_, _, hl1⟩ := asI_inv (show _ from hl0); exact hl1
      | _ + 2, hl => exact hl)
    (fun n p L hm f h hl => by
      simp only [u38, List.mem_cons, Prod.mk.injEq, List.not_mem_nil, or_false] at hm
      rcases hm with ⟨rfl, rfl⟩ | ⟨rfl, rfl⟩
      · have hl : f38 (r38 c k (n + 1)) 0 f h := hl
        obtain ⟨l_0, c_0, e_0, hl0⟩ := asS_inv hl
        have hh := e38_0 c k (r38 c k n) f h l_0 c_0
        rw [fset_self e_0] at hh
        exact Eq.mpr hh hl0
      · have hl : f38 (r38 c k (n + 1)) 1 f h := hl
        obtain ⟨l_0, c_0, e_0, hl0⟩ := asS_inv hl
        obtain ⟨n_4, e_4, hl2⟩ := asI_inv hl0
        have hh := e38_1 c k (r38 c k n) f h l_0 c_0 (f 2) n_4
        rw [fset_self e_0] at hh
        rw [fset_self (rfl : f 2 = f 2)] at hh
        rw [fset_self e_4] at hh
        exact Eq.mpr hh hl2
    ) (by simp [u38]) hg

theorem e41_0 (c : Caller Prop FT) (k : KV) (J : J41) (f : FT) (h : H) (l_0 : Nat) (c_0 : Nat) (l_1 : Nat) (c_1 : Nat) : chunkA env c q41 u41 (f41 J) d41 (retA env Go.Proofs.Tryd.f41.results.toList k) .root (fset (fset f 0 (.str l_0 c_0)) 1 (.str l_1 c_1)) h = s41_0 c k J l_0 c_0 l_1 c_1 h := by kernel_rfl
theorem w41 {c : Caller Prop FT} (hc : CallOk Go.Proofs.Tryd.prog (CP env) G (fun p => p) c) {k : KV} {n : Nat} {args : List AV} {h : H} (hg : f41 (r41 c k n) 0 (finit args) h) : SW Go.Proofs.Tryd.prog G (.func 41) args h k :=
  fn_ok mixed envOk hc q41 Go.Proofs.Tryd.func41 rfl (by kernel_rfl) (by kernel_rfl) k u41 (fun n => f41 (r41 c k n))
    (fun L f h hl => by
      match L, hl with
      | 0, hl => obtain ⟨_, _, _, hl0⟩ := asS_inv (show _ from hl); obtain ⟨_, _, _, hl1⟩ := asS_inv (show _ from hl0); exact hl1
      | _ + 1, hl => exact hl)
    (fun n p L hm f h hl => by
      simp only [u41, List.mem_cons, Prod.mk.injEq, List.not_mem_nil, or_false] at hm
      rcases hm with ⟨rfl, rfl⟩
      · have hl : f41 (r41 c k (n + 1)) 0 f h := hl
        obtain ⟨l_0, c_0, e_0, hl0⟩ := asS_inv hl
        obtain ⟨l_1, c_1, e_1, hl1⟩ := asS_inv hl0
        have hh := e41_0 c k (r41 c k n) f h l_0 c_0 l_1 c_1
        rw [fset_self e_0] at hh
        rw [fset_self e_1] at hh
        exact Eq.mpr hh hl1
    ) (by simp [u41]) hg

theorem e47_0 (c : Caller Prop FT) (k : KV) (J : J47) (f : FT) (h : H) (v_0 : AV) : chunkA env c q47 u47 (f47 J) d47 (retA env Go.Proofs.Tryd.f47.results.toList k) .root (fset f 0 v_0) h = s47_0 c k J v_0 h := by kernel_rfl
theorem w47 {c : Caller Prop FT} (hc : CallOk Go.Proofs.Tryd.prog (CP env) G (fun p => p) c) {k : KV} {n : Nat} {args : List AV} {h : H} (hg : f47 (r47 c k n) 0 (finit args) h) : SW Go.Proofs.Tryd.prog G (.func 47) args h k :=
  fn_ok mixed envOk hc q47 Go.Proofs.Tryd.func47 rfl (by kernel_rfl) (by kernel_rfl) k u47 (fun n => f47 (r47 c k n))
    (fun L f h hl => by
      match L, hl with
      | 0, hl => exact hl
      | _ + 1, hl => exact hl)
    (fun n p L hm f h hl => by
      simp only [u47, List.mem_cons, Prod.mk.injEq, List.not_mem_nil, or_false] at hm
      rcases hm with ⟨rfl, rfl⟩
      · have hl : f47 (r47 c k (n + 1)) 0 f h := hl
        have hh := e47_0 c k (r47 c k n) f h (f 0)
        rw [fset_self (rfl : f 0 = f 0)] at hh
        exact Eq.mpr hh hl
    ) (by simp [u47]) hg

theorem e50_0 (c : Caller Prop FT) (k : KV) (J : J50) (f : FT) (h : H) (l_0 : Nat) (c_0 : Nat) (n_1 : Int) : chunkA env c q50 u50 (f50 J) d50 (retA env Go.Proofs.Tryd.f50.results.toList k) .root (fset (fset f 0 (.str l_0 c_0)) 1 (.int .i32 n_1)) h = s50_0 c k J l_0 c_0 n_1 h := by kernel_rfl
theorem e50_1 (c : Caller Prop FT) (k : KV) (J : J50) (f : FT) (h : H) (v_175 : AV) : chunkA env c q50 u50 (f50 J) d50 (retA env Go.Proofs.Tryd.f50.results.toList k) (.l (.r (.l (.l (.r (.r (.r (.l (.r .root))))))))) (fset f 175 v_175) h = s50_1 c k J v_175 h := by kernel_rfl
theorem e50_2 (c : Caller Prop FT) (k : KV) (J : J50) (f : FT) (h : H) (l_0 : Nat) (c_0 : Nat) (n_1 : Int) (l_7 : Nat) (c_7 : Nat) (n_8 : Int) (n_9 : Int) (n_10 : Int) : chunkA env c q50 u50 (f50 J) d50 (retA env Go.Proofs.Tryd.f50.results.toList k) (.l (.l (.r (.r (.r (.r (.l (.r (.r (.r (.r (.r (.r (.l (.r .root))))))))))))))) (fset (fset (fset (fset (fset (fset f 0 (.str l_0 c_0)) 1 (.int .i32 n_1)) 7 (.str l_7 c_7)) 8 (.int .i64 n_8)) 9 (.int .i64 n_9)) 10 (.int .i64 n_10)) h = s50_2 c k J l_0 c_0 n_1 l_7 c_7 n_8 n_9 n_10 h := by kernel_rfl
theorem e50_3 (c : Caller Prop FT) (k : KV) (J : J50) (f : FT) (h : H) (l_0 : Nat) (c_0 : Nat) (n_1 : Int) (l_7 : Nat) (c_7 : Nat) (n_8 : Int) (n_9 : Int) (n_10 : Int) (n_12 : Int) : chunkA env c q50 u50 (f50 J) d50 (retA env Go.Proofs.Tryd.f50.results.toList k) (.l (.r (.l (.r (.l (.l (.r (.l (.l (.l (.r (.r (.r (.r (.l (.r (.r (.r (.r (.r (.r (.l (.r .root))))))))))))))))))))))) (fset (fset (fset (fset (fset (fset (fset f 0 (.str l_0 c_0)) 1 (.int .i32 n_1)) 7 (.str l_7 c_7)) 8 (.int .i64 n_8)) 9 (.int .i64 n_9)) 10 (.int .i64 n_10)) 12 (.int .i64 n_12)) h = s50_3 c k J l_0 c_0 n_1 l_7 c_7 n_8 n_9 n_10 n_12 h := by kernel_rfl
theorem e50_4 (c : Caller Prop FT) (k : KV) (J : J50) (f : FT) (h : H) (l_0 : Nat) (c_0 : Nat) (n_1 : Int) (l_7 : Nat) (c_7 : Nat) (n_8 : Int) (n_9 : Int) (n_10 : Int) : chunkA env c q50 u50 (f50 J) d50 (retA env Go.Proofs.Tryd.f50.results.toList k) (.r (.l (.l (.r (.l (.l (.l (.r (.r (.r (.r (.l (.r (.r (.r (.r (.r (.r (.l (.r .root)))))))))))))))))))) (fset (fset (fset (fset (fset (fset f 0 (.str l_0 c_0)) 1 (.int .i32 n_1)) 7 (.str l_7 c_7)) 8 (.int .i64 n_8)) 9 (.int .i64 n_9)) 10 (.int .i64 n_10)) h = s50_4 c k J l_0 c_0 n_1 l_7 c_7 n_8 n_9 n_10 h := by kernel_rfl
theorem e50_5 (c : Caller Prop FT) (k : KV) (J : J50) (f : FT) (h : H) (l_0 : Nat) (c_0 : Nat) (n_1 : Int) (l_7 : Nat) (c_7 : Nat) (n_8 : Int) (n_9 : Int) (n_10 : Int) : chunkA env c q50 u50 (f50 J) d50 (retA env Go.Proofs.Tryd.f50.results.toList k) (.lab (.l (.r (.l (.l (.l (.r (.r (.r (.r (.l (.r (.r (.r (.r (.r (.r (.l (.r .root)))))))))))))))))) 0) (fset (fset (fset (fset (fset (fset f 0 (.str l_0 c_0)) 1 (.int .i32 n_1)) 7 (.str l_7 c_7)) 8 (.int .i64 n_8)) 9 (.int .i64 n_9)) 10 (.int .i64 n_10)) h = s50_5 c k J l_0 c_0 n_1 l_7 c_7 n_8 n_9 n_10 h := by kernel_rfl
theorem e50_6 (c : Caller Prop FT) (k : KV) (J : J50) (f : FT) (h : H) (l_0 : Nat) (c_0 : Nat) (l_7 : Nat) (c_7 : Nat) (n_8 : Int) (n_9 : Int) (n_14 : Int) (n_15 : Int) : chunkA env c q50 u50 (f50 J) d50 (retA env Go.Proofs.Tryd.f50.results.toList k) (.l (.r (.r (.r (.l (.r (.l (.r (.r (.r (.r (.r (.r (.r (.l (.r (.r (.r (.r (.r (.r (.l (.r .root))))))))))))))))))))))) (fset (fset (fset (fset (fset (fset f 0 (.str l_0 c_0)) 7 (.str l_7 c_7)) 8 (.int .i64 n_8)) 9 (.int .i64 n_9)) 14 (.int .u8 n_14)) 15 (.int .u8 n_15)) h = s50_6 c k J l_0 c_0 l_7 c_7 n_8 n_9 n_14 n_15 h := by kernel_rfl
theorem e50_7 (c : Caller Prop FT) (k : KV) (J : J50) (f : FT) (h : H) (l_0 : Nat) (c_0 : Nat) (l_7 : Nat) (c_7 : Nat) (n_8 : Int) (n_9 : Int) (n_14 : Int) (n_15 : Int) (n_16 : Int) : chunkA env c q50 u50 (f50 J) d50 (retA env Go.Proofs.Tryd.f50.results.toList k) (.l (.r (.l (.l (.r (.l (.l (.r (.l (.l (.r (.r (.r (.l (.r (.l (.r (.r (.r (.r (.r (.r (.r (.l (.r (.r (.r (.r (.r (.r (.l (.r .root)))))))))))))))))))))))))))))))) (fset (fset (fset (fset (fset (fset (fset f 0 (.str l_0 c_0)) 7 (.str l_7 c_7)) 8 (.int .i64 n_8)) 9 (.int .i64 n_9)) 14 (.int .u8 n_14)) 15 (.int .u8 n_15)) 16 (.int .i64 n_16)) h = s50_7 c k J l_0 c_0 l_7 c_7 n_8 n_9 n_14 n_15 n_16 h := by kernel_rfl
theorem e50_8 (c : Caller Prop FT) (k : KV) (J : J50) (f : FT) (h : H) (l_0 : Nat) (c_0 : Nat) (l_7 : Nat) (c_7 : Nat) (n_8 : Int) (n_9 : Int) (n_14 : Int) (n_15 : Int) : chunkA env c q50 u50 (f50 J) d50 (retA env Go.Proofs.Tryd.f50.results.toList k) (.r (.r (.l (.l (.r (.r (.r (.l (.r (.l (.r (.r (.r (.r (.r (.r (.r (.l (.r (.r (.r (.r (.r (.r (.l (.r .root)))))))))))))))))))))))))) (fset (fset (fset (fset (fset (fset f 0 (.str l_0 c_0)) 7 (.str l_7 c_7)) 8 (.int .i64 n_8)) 9 (.int .i64 n_9)) 14 (.int .u8 n_14)) 15 (.int .u8 n_15)) h = s50_8 c k J l_0 c_0 l_7 c_7 n_8 n_9 n_14 n_15 h := by kernel_rfl
theorem e50_9 (c : Caller Prop FT) (k : KV) (J : J50) (f : FT) (h : H) (l_0 : Nat) (c_0 : Nat) (l_7 : Nat) (c_7 : Nat) (n_8 : Int) (n_9 : Int) (n_14 : Int) (n_15 : Int) : chunkA env c q50 u50 (f50 J) d50 (retA env Go.Proofs.Tryd.f50.results.toList k) (.lab (.r (.l (.r (.r (.r (.r (.r (.r (.r (.l (.r (.r (.r (.r (.r (.r (.l (.r .root)))))))))))))))))) 2) (fset (fset (fset (fset (fset (fset f 0 (.str l_0 c_0)) 7 (.str l_7 c_7)) 8 (.int .i64 n_8)) 9 (.int .i64 n_9)) 14 (.int .u8 n_14)) 15 (.int .u8 n_15)) h = s50_9 c k J l_0 c_0 l_7 c_7 n_8 n_9 n_14 n_15 h := by kernel_rfl
theorem e50_10 (c : Caller Prop FT) (k : KV) (J : J50) (f : FT) (h : H) (l_0 : Nat) (c_0 : Nat) (l_7 : Nat) (c_7 : Nat) (n_8 : Int) (n_9 : Int) (n_14 : Int) (n_15 : Int) : chunkA env c q50 u50 (f50 J) d50 (retA env Go.Proofs.Tryd.f50.results.toList k) (.l (.r (.lab (.r (.l (.r (.r (.r (.r (.r (.r (.r (.l (.r (.r (.r (.r (.r (.r (.l (.r .root)))))))))))))))))) 2))) (fset (fset (fset (fset (fset (fset f 0 (.str l_0 c_0)) 7 (.str l_7 c_7)) 8 (.int .i64 n_8)) 9 (.int .i64 n_9)) 14 (.int .u8 n_14)) 15 (.int .u8 n_15)) h = s50_10 c k J l_0 c_0 l_7 c_7 n_8 n_9 n_14 n_15 h := by kernel_rfl
theorem e50_11 (c : Caller Prop FT) (k : KV) (J : J50) (f : FT) (h : H) (l_0 : Nat) (c_0 : Nat) (l_7 : Nat) (c_7 : Nat) (n_8 : Int) (n_9 : Int) (n_14 : Int) (n_15 : Int) (n_16 : Int) : chunkA env c q50 u50 (f50 J) d50 (retA env Go.Proofs.Tryd.f50.results.toList k) (.l (.r (.l (.l (.r (.l (.l (.r (.l (.l (.r (.lab (.r (.l (.r (.r (.r (.r (.r (.r (.r (.l (.r (.r (.r (.r (.r (.r (.l (.r .root)))))))))))))))))) 2)))))))))))) (fset (fset (fset (fset (fset (fset (fset f 0 (.str l_0 c_0)) 7 (.str l_7 c_7)) 8 (.int .i64 n_8)) 9 (.int .i64 n_9)) 14 (.int .u8 n_14)) 15 (.int .u8 n_15)) 16 (.int .i64 n_16)) h = s50_11 c k J l_0 c_0 l_7 c_7 n_8 n_9 n_14 n_15 n_16 h := by kernel_rfl
theorem e50_12 (c : Caller Prop FT) (k : KV) (J : J50) (f : FT) (h : H) (l_0 : Nat) (c_0 : Nat) (l_7 : Nat) (c_7 : Nat) (n_8 : Int) (n_9 : Int) (n_14 : Int) (n_15 : Int) : chunkA env c q50 u50 (f50 J) d50 (retA env Go.Proofs.Tryd.f50.results.toList k) (.r (.r (.l (.l (.r (.lab (.r (.l (.r (.r (.r (.r (.r (.r (.r (.l (.r (.r (.r (.r (.r (.r (.l (.r .root)))))))))))))))))) 2)))))) (fset (fset (fset (fset (fset (fset f 0 (.str l_0 c_0)) 7 (.str l_7 c_7)) 8 (.int .i64 n_8)) 9 (.int .i64 n_9)) 14 (.int .u8 n_14)) 15 (.int .u8 n_15)) h = s50_12 c k J l_0 c_0 l_7 c_7 n_8 n_9 n_14 n_15 h := by kernel_rfl
theorem e50_13 (c : Caller Prop FT) (k : KV) (J : J50) (f : FT) (h : H) (l_0 : Nat) (c_0 : Nat) (n_1 : Int) (l_7 : Nat) (c_7 : Nat) (n_8 : Int) (n_9 : Int) : chunkA env c q50 u50 (f50 J) d50 (retA env Go.Proofs.Tryd.f50.results.toList k) (.lab (.r (.r (.r (.r (.r (.r (.l (.r .root)))))))) 1) (fset (fset (fset (fset (fset f 0 (.str l_0 c_0)) 1 (.int .i32 n_1)) 7 (.str l_7 c_7)) 8 (.int .i64 n_8)) 9 (.int .i64 n_9)) h = s50_13 c k J l_0 c_0 n_1 l_7 c_7 n_8 n_9 h := by kernel_rfl
theorem e50_14 (c : Caller Prop FT) (k : KV) (J : J50) (f : FT) (h : H) (l_0 : Nat) (c_0 : Nat) (l_7 : Nat) (c_7 : Nat) (n_8 : Int) (n_9 : Int) (n_14 : Int) (n_15 : Int) : chunkA env c q50 u50 (f50 J) d50 (retA env Go.Proofs.Tryd.f50.results.toList k) (.l (.r (.r (.r (.l (.r (.l (.r (.lab (.r (.r (.r (.r (.r (.r (.l (.r .root)))))))) 1))))))))) (fset (fset (fset (fset (fset (fset f 0 (.str l_0 c_0)) 7 (.str l_7 c_7)) 8 (.int .i64 n_8)) 9 (.int .i64 n_9)) 14 (.int .u8 n_14)) 15 (.int .u8 n_15)) h = s50_14 c k J l_0 c_0 l_7 c_7 n_8 n_9 n_14 n_15 h := by kernel_rfl
theorem e50_15 (c : Caller Prop FT) (k : KV) (J : J50) (f : FT) (h : H) (l_0 : Nat) (c_0 : Nat) (l_7 : Nat) (c_7 : Nat) (n_8 : Int) (n_9 : Int) (n_14 : Int) (n_15 : Int) (n_16 : Int) : chunkA env c q50 u50 (f50 J) d50 (retA env Go.Proofs.Tryd.f50.results.toList k) (.l (.r (.l (.l (.r (.l (.l (.r (.l (.l (.r (.r (.r (.l (.r (.l (.r (.lab (.r (.r (.r (.r (.r (.r (.l (.r .root)))))))) 1)))))))))))))))))) (fset (fset (fset (fset (fset (fset (fset f 0 (.str l_0 c_0)) 7 (.str l_7 c_7)) 8 (.int .i64 n_8)) 9 (.int .i64 n_9)) 14 (.int .u8 n_14)) 15 (.int .u8 n_15)) 16 (.int .i64 n_16)) h = s50_15 c k J l_0 c_0 l_7 c_7 n_8 n_9 n_14 n_15 n_16 h := by kernel_rfl
theorem e50_16 (c : Caller Prop FT) (k : KV) (J : J50) (f : FT) (h : H) (l_0 : Nat) (c_0 : Nat) (l_7 : Nat) (c_7 : Nat) (n_8 : Int) (n_9 : Int) (n_14 : Int) (n_15 : Int) : chunkA env c q50 u50 (f50 J) d50 (retA env Go.Proofs.Tryd.f50.results.toList k) (.r (.r (.l (.l (.r (.r (.r (.l (.r (.l (.r (.lab (.r (.r (.r (.r (.r (.r (.l (.r .root)))))))) 1)))))))))))) (fset (fset (fset (fset (fset (fset f 0 (.str l_0 c_0)) 7 (.str l_7 c_7)) 8 (.int .i64 n_8)) 9 (.int .i64 n_9)) 14 (.int .u8 n_14)) 15 (.int .u8 n_15)) h = s50_16 c k J l_0 c_0 l_7 c_7 n_8 n_9 n_14 n_15 h := by kernel_rfl
theorem e50_17 (c : Caller Prop FT) (k : KV) (J : J50) (f : FT) (h : H) (l_0 : Nat) (c_0 : Nat) (l_7 : Nat) (c_7 : Nat) (n_8 : Int) (n_9 : Int) (n_14 : Int) (n_15 : Int) : chunkA env c q50 u50 (f50 J) d50 (retA env Go.Proofs.Tryd.f50.results.toList k) (.lab (.r (.l (.r (.lab (.r (.r (.r (.r (.r (.r (.l (.r .root)))))))) 1)))) 2) (fset (fset (fset (fset (fset (fset f 0 (.str l_0 c_0)) 7 (.str l_7 c_7)) 8 (.int .i64 n_8)) 9 (.int .i64 n_9)) 14 (.int .u8 n_14)) 15 (.int .u8 n_15)) h = s50_17 c k J l_0 c_0 l_7 c_7 n_8 n_9 n_14 n_15 h := by kernel_rfl
theorem e50_18 (c : Caller Prop FT) (k : KV) (J : J50) (f : FT) (h : H) (l_0 : Nat) (c_0 : Nat) (l_7 : Nat) (c_7 : Nat) (n_8 : Int) (n_9 : Int) (n_14 : Int) (n_15 : Int) : chunkA env c q50 u50 (f50 J) d50 (retA env Go.Proofs.Tryd.f50.results.toList k) (.l (.r (.lab (.r (.l (.r (.lab (.r (.r (.r (.r (.r (.r (.l (.r .root)))))))) 1)))) 2))) (fset (fset (fset (fset (fset (fset f 0 (.str l_0 c_0)) 7 (.str l_7 c_7)) 8 (.int .i64 n_8)) 9 (.int .i64 n_9)) 14 (.int .u8 n_14)) 15 (.int .u8 n_15)) h = s50_18 c k J l_0 c_0 l_7 c_7 n_8 n_9 n_14 n_15 h := by kernel_rfl
theorem e50_19 (c : Caller Prop FT) (k : KV) (J : J50) (f : FT) (h : H) (l_0 : Nat) (c_0 : Nat) (l_7 : Nat) (c_7 : Nat) (n_8 : Int) (n_9 : Int) (n_14 : Int) (n_15 : Int) (n_16 : Int) : chunkA env c q50 u50 (f50 J) d50 (retA env Go.Proofs.Tryd.f50.results.toList k) (.l (.r (.l (.l (.r (.l (.l (.r (.l (.l (.r (.lab (.r (.l (.r (.lab (.r (.r (.r (.r (.r (.r (.l (.r .root)))))))) 1)))) 2)))))))))))) (fset (fset (fset (fset (fset (fset (fset f 0 (.str l_0 c_0)) 7 (.str l_7 c_7)) 8 (.int .i64 n_8)) 9 (.int .i64 n_9)) 14 (.int .u8 n_14)) 15 (.int .u8 n_15)) 16 (.int .i64 n_16)) h = s50_19 c k J l_0 c_0 l_7 c_7 n_8 n_9 n_14 n_15 n_16 h := by kernel_rfl
theorem e50_20 (c : Caller Prop FT) (k : KV) (J : J50) (f : FT) (h : H) (l_0 : Nat) (c_0 : Nat) (l_7 : Nat) (c_7 : Nat) (n_8 : Int) (n_9 : Int) (n_14 : Int) (n_15 : Int) : chunkA env c q50 u50 (f50 J) d50 (retA env Go.Proofs.Tryd.f50.results.toList k) (.r (.r (.l (.l (.r (.lab (.r (.l (.r (.lab (.r (.r (.r (.r (.r (.r (.l (.r .root)))))))) 1)))) 2)))))) (fset (fset (fset (fset (fset (fset f 0 (.str l_0 c_0)) 7 (.str l_7 c_7)) 8 (.int .i64 n_8)) 9 (.int .i64 n_9)) 14 (.int .u8 n_14)) 15 (.int .u8 n_15)) h = s50_20 c k J l_0 c_0 l_7 c_7 n_8 n_9 n_14 n_15 h := by kernel_rfl
theorem e50_21 (c : Caller Prop FT) (k : KV) (J : J50) (f : FT) (h : H) (n_8 : Int) (n_9 : Int) (n_13 : Int) : chunkA env c q50 u50 (f50 J) d50 (retA env Go.Proofs.Tryd.f50.results.toList k) (.r (.l (.l (.r (.r (.r (.r (.r (.r (.r (.l (.r (.r (.r (.r (.r (.r (.l (.r .root))))))))))))))))))) (fset (fset (fset f 8 (.int .i64 n_8)) 9 (.int .i64 n_9)) 13 (.int .i64 n_13)) h = s50_21 c k J n_8 n_9 n_13 h := by kernel_rfl
theorem e50_22 (c : Caller Prop FT) (k : KV) (J : J50) (f : FT) (h : H) (l_0 : Nat) (c_0 : Nat) (l_7 : Nat) (c_7 : Nat) (n_8 : Int) (n_9 : Int) (n_14 : Int) (n_15 : Int) : chunkA env c q50 u50 (f50 J) d50 (retA env Go.Proofs.Tryd.f50.results.toList k) (.r (.r (.l (.r (.l (.r (.r (.r (.r (.r (.r (.r (.l (.r (.r (.r (.r (.r (.r (.l (.r .root))))))))))))))))))))) (fset (fset (fset (fset (fset (fset f 0 (.str l_0 c_0)) 7 (.str l_7 c_7)) 8 (.int .i64 n_8)) 9 (.int .i64 n_9)) 14 (.int .u8 n_14)) 15 (.int .u8 n_15)) h = s50_22 c k J l_0 c_0 l_7 c_7 n_8 n_9 n_14 n_15 h := by kernel_rfl
theorem w50 {c : Caller Prop FT} (hc : CallOk Go.Proofs.Tryd.prog (CP env) G (fun p => p) c) {k : KV} {n : Nat} {args : List AV} {h : H} (hg : f50 (r50 c k n) 0 (finit args) h) : SW Go.Proofs.Tryd.prog G (.func 50) args h k :=
  fn_ok mixed envOk hc q50 Go.Proofs.Tryd.func50 rfl (by kernel_rfl) (by kernel_rfl) k u50 (fun n => f50 (r50 c k n))
    (fun L f h hl => by
      match L, hl with
      | 0, hl => obtain ⟨_, _, _, hl0⟩ := asS_inv (show _ from hl); obtain ⟨_, _, hl1⟩ := asI_inv (show _ from hl0); exact hl1
      | 1, hl => exact hl
      | 2, hl => obtain ⟨_, _, _, hl0⟩ := asS_inv (show _ from hl); obtain ⟨_, _, hl1⟩ := asI_inv (show _ from hl0); obtain ⟨_, _, _, hl2⟩ := asS_inv (show _ from hl1); obtain ⟨_, _, hl3⟩ := asI_inv (show _ from hl2); obtain ⟨_, _, hl4⟩ := asI_inv (show _ from hl3); obtain ⟨_, _, hl5⟩ := asI_inv (show _ from hl4); exact hl5
      | 3, hl => obtain ⟨_, _, _, hl0⟩ := asS_inv (show _ from hl); obtain ⟨_, _, hl1⟩ := asI_inv (show _ from hl0); obtain ⟨_, _, _, hl2⟩ := asS_inv (show _ from hl1); obtain ⟨_, _, hl3⟩ := asI_inv (show _ from hl2); obtain ⟨_, _, hl4⟩ := asI_inv (show _ from hl3); obtain ⟨_, _, hl5⟩ := asI_inv (show _ from hl4); obtain ⟨_, _, hl6⟩ := asI_inv (show _ from hl5); exact hl6
      | 4, hl => obtain ⟨_, _, _, hl0⟩ := asS_inv (show _ from hl); obtain ⟨_, _, hl1⟩ := asI_inv (show _ from hl0); obtain ⟨_, _, _, hl2⟩ := asS_inv (show _ from hl1); obtain ⟨_, _, hl3⟩ := asI_inv (show _ from hl2); obtain ⟨_, _, hl4⟩ := asI_inv (show _ from hl3); obtain ⟨_, _, hl5⟩ := asI_inv (show _ from hl4); exact hl5
      | 5, hl => obtain ⟨_, _, _, hl0⟩ := asS_inv (show _ from hl); obtain ⟨_, _, hl1⟩ := asI_inv (show _ from hl0); obtain ⟨_, _, _, hl2⟩ := asS_inv (show _ from hl1); obtain ⟨_, _, hl3⟩ := asI_inv (show _ from hl2); obtain ⟨_, _, hl4⟩ := asI_inv (show _ from hl3); obtain ⟨_, _, hl5⟩ := asI_inv (show _ from hl4); exact hl5
      | 6, hl => obtain ⟨_, _, _, hl0⟩ := asS_inv (show _ from hl); obtain ⟨_, _, _, hl1⟩ := asS_inv (show _ from hl0); obtain ⟨_, _, hl2⟩ := asI_inv (show _ from hl1); obtain ⟨_, _, hl3⟩ := asI_inv (show _ from hl2); obtain ⟨_, _, hl4⟩ := asI_inv (show _ from hl3); obtain ⟨_, _, hl5⟩ := asI_inv (show _ from hl4); exact hl5
      | 7, hl => obtain ⟨_, _, _, hl0⟩ := asS_inv (show _ from hl); obtain ⟨_, _, _, hl1⟩ := asS_inv (show _ from hl0); obtain ⟨_, _, hl2⟩ := asI_inv (show _ from hl1); obtain ⟨_, _, hl3⟩ := asI_inv (show _ from hl2); obtain ⟨_, _, hl4⟩ := asI_inv (show _ from hl3); obtain ⟨_, _, hl5⟩ := asI_inv (show _ from hl4); obtain ⟨_, _, hl6⟩ := asI_inv (show _ from hl5); exact hl6
      | 8, hl => obtain ⟨_, _, _, hl0⟩ := asS_inv (show _ from hl); obtain ⟨_, _, _, hl1⟩ := asS_inv (show _ from hl0); obtain ⟨_, _, hl2⟩ := asI_inv (show _ from hl1); obtain ⟨_, _, hl3⟩ := asI_inv (show _ from hl2); obtain ⟨_, _, hl4⟩ := asI_inv (show _ from hl3); obtain ⟨_, _, hl5⟩ := asI_inv (show _ from hl4); exact hl5
      | 9, hl => obtain ⟨_, _, _, hl0⟩ := asS_inv (show _ from hl); obtain ⟨_, _, _, hl1⟩ := asS_inv (show _ from hl0); obtain ⟨_, _, hl2⟩ := asI_inv (show _ from hl1); obtain ⟨_, _, hl3⟩ := asI_inv (show _ from hl2); obtain ⟨_, _, hl4⟩ := asI_inv (show _ from hl3); obtain ⟨_, _, hl5⟩ := asI_inv (show _ from hl4); exact hl5
      | 10, hl => obtain ⟨_, _, _, hl0⟩ := asS_inv (show _ from hl); obtain ⟨_, _, _, hl1⟩ := asS_inv (show _ from hl0); obtain ⟨_, _, hl2⟩ := asI_inv (show _ from hl1); obtain ⟨_, _, hl3⟩ := asI_inv (show _ from hl2); obtain ⟨_, _, hl4⟩ := asI_inv (show _ from hl3); obtain ⟨_, _, hl5⟩ := asI_inv (show _ from hl4); exact hl5
      | 11, hl => obtain ⟨_, _, _, hl0⟩ := asS_inv (show _ from hl); obtain ⟨_, _, _, hl1⟩ := asS_inv (show _ from hl0); obtain ⟨_, _, hl2⟩ := asI_inv (show _ from hl1); obtain ⟨_, _, hl3⟩ := asI_inv (show _ from hl2); obtain ⟨_, _, hl4⟩ := asI_inv (show _ from hl3); obtain ⟨_, _, hl5⟩ := asI_inv (show _ from hl4); obtain ⟨_, _, hl6⟩ := asI_inv (show _ from hl5); exact hl6
      | 12, hl => obtain ⟨_, _, _, hl0⟩ := asS_inv (show _ from hl); obtain ⟨_, _, _, hl1⟩ := asS_inv (show _ from hl0); obtain ⟨_, _, hl2⟩ := asI_inv (show _ from hl1); obtain ⟨_, _, hl3⟩ := asI_inv (show _ from hl2); obtain ⟨_, _, hl4⟩ := asI_inv (show _ from hl3); obtain ⟨_, _, hl5⟩ := asI_inv (show _ from hl4); exact hl5
      | 13, hl => obtain ⟨_, _, _, hl0⟩ := asS_inv (show _ from hl); obtain ⟨_, _, hl1⟩ := asI_inv (show _ from hl0); obtain ⟨_, _, _, hl2⟩ := asS_inv (show _ from hl1); obtain ⟨_, _, hl3⟩ := asI_inv (show _ from hl2); obtain ⟨_, _, hl4⟩ := asI_inv (show _ from hl3); exact hl4
      | 14, hl => obtain ⟨_, _, _, hl0⟩ := asS_inv (show _ from hl); obtain ⟨_, _, _, hl1⟩ := asS_inv (show _ from hl0); obtain ⟨_, _, hl2⟩ := asI_inv (show _ from hl1); obtain ⟨_, _, hl3⟩ := asI_inv (show _ from hl2); obtain ⟨_, _, hl4⟩ := asI_inv (show _ from hl3); obtain ⟨_, _, hl5⟩ := asI_inv (show _ from hl4); exact hl5
      | 15, hl => obtain ⟨_, _, _, hl0⟩ := asS_inv (show _ from hl); obtain ⟨_, _, _, hl1⟩ := asS_inv (show _ from hl0); obtain ⟨_, _, hl2⟩ := asI_inv (show _ from hl1); obtain ⟨_, _, hl3⟩ := asI_inv (show _ from hl2); obtain ⟨_, _, hl4⟩ := asI_inv (show _ from hl3); obtain ⟨_, _, hl5⟩ := asI_inv (show _ from hl4); obtain ⟨_, _, hl6⟩ := asI_inv (show _ from hl5); exact hl6
      | 16, hl => obtain ⟨_, _, _, hl0⟩ := asS_inv (show _ from hl); obtain ⟨_, _, _, hl1⟩ := asS_inv (show _ from hl0); obtain ⟨_, _, hl2⟩ := asI_inv (show _ from hl1); obtain ⟨_, _, hl3⟩ := asI_inv (show _ from hl2); obtain ⟨_, _, hl4⟩ := asI_inv (show _ from hl3); obtain ⟨_, _, hl5⟩ := asI_inv (show _ from hl4); exact hl5
      | 17, hl => obtain ⟨_, _, _, hl0⟩ := asS_inv (show _ from hl); obtain ⟨_, _, _, hl1⟩ := asS_inv (show _ from hl0); obtain ⟨_, _, hl2⟩ := asI_inv (show _ from hl1); obtain ⟨_, _, hl3⟩ := asI_inv (show _ from hl2); obtain ⟨_, _, hl4⟩ := asI_inv (show _ from hl3); obtain ⟨_, _, hl5⟩ := asI_inv (show _ from hl4); exact hl5
      | 18, hl => obtain ⟨_, _, _, hl0⟩ := asS_inv (show _ from hl); obtain ⟨_, _, _, hl1⟩ := asS_inv (show _ from hl0); obtain ⟨_, _, hl2⟩ := asI_inv (show _ from hl1); obtain ⟨_, _, hl3⟩ := asI_inv (show _ from hl2); obtain ⟨_, _, hl4⟩ := asI_inv (show _ from hl3); obtain ⟨_, _, hl5⟩ := asI_inv (show _ from hl4); exact hl5
      | 19, hl => obtain ⟨_, _, _, hl0⟩ := asS_inv (show _ from hl); obtain ⟨_, _, _, hl1⟩ := asS_inv (show _ from hl0); obtain ⟨_, _, hl2⟩ := asI_inv (show _ from hl1); obtain ⟨_, _, hl3⟩ := asI_inv (show _ from hl2); obtain ⟨_, _, hl4⟩ := asI_inv (show _ from hl3); obtain ⟨_, _, hl5⟩ := asI_inv (show _ from hl4); obtain ⟨_, _, hl6⟩ := asI_inv (show _ from hl5); exact hl6
      | 20, hl => obtain ⟨_, _, _, hl0⟩ := asS_inv (show _ from hl); obtain ⟨_, _, _, hl1⟩ := asS_inv (show _ from hl0); obtain ⟨_, _, hl2⟩ := asI_inv (show _ from hl1); obtain ⟨_, _, hl3⟩ := asI_inv (show _ from hl2); obtain ⟨_, _, hl4⟩ := asI_inv (show _ from hl3); obtain ⟨_, _, hl5⟩ := asI_inv (show _ from hl4); exact hl5
      | 21, hl => obtain ⟨_, _, hl0⟩ := asI_inv (show _ from hl); obtain ⟨_, _, hl1⟩ := asI_inv (show _ from hl0); obtain ⟨_, _, hl2⟩ := asI_inv (show _ from hl1); exact hl2
      | 22, hl => obtain ⟨_, _, _, hl0⟩ := asS_inv (show _ from hl); obtain ⟨_, _, _, hl1⟩ := asS_inv (show _ from hl0); obtain ⟨_, _, hl2⟩ := asI_inv (show _ from hl1); obtain ⟨_, _, hl3⟩ := asI_inv (show _ from hl2); obtain ⟨_, _, hl4⟩ := asI_inv (show _ from hl3); obtain ⟨_, _, hl5⟩ := asI_inv (show _ from hl4); exact hl5
      | _ + 23, hl => exact hl)
    (fun n p L hm f h hl => by
      simp only [u50, List.mem_cons, Prod.mk.injEq, List.not_mem_nil, or_false] at hm
      rcases hm with ⟨rfl, rfl⟩ | ⟨rfl, rfl⟩ | ⟨rfl, rfl⟩ | ⟨rfl, rfl⟩ | ⟨rfl, rfl⟩ | ⟨rfl, rfl⟩ | ⟨rfl, rfl⟩ | ⟨rfl, rfl⟩ | ⟨rfl, rfl⟩ | ⟨rfl, rfl⟩ | ⟨rfl, rfl⟩ | ⟨rfl, rfl⟩ | ⟨rfl, rfl⟩ | ⟨rfl, rfl⟩ | ⟨rfl, rfl⟩ | ⟨rfl, rfl⟩ | ⟨rfl, rfl⟩ | ⟨rfl, rfl⟩ | ⟨rfl, rfl⟩ | ⟨rfl, rfl⟩ | ⟨rfl, rfl⟩ | ⟨rfl, rfl⟩ | ⟨rfl, rfl⟩
      · have hl : f50 (r50 c k (n + 1)) 0 f h := hl
        obtain ⟨l_0, c_0, e_0, hl0⟩ := asS_inv hl
        obtain ⟨n_1, e_1, hl1⟩ := asI_inv hl0
        have hh := e50_0 c k (r50 c k n) f h l_0 c_0 n_1
        rw [fset_self e_0] at hh
        rw [fset_self e_1] at hh
        exact Eq.mpr hh hl1
      · have hl : f50 (r50 c k (n + 1)) 1 f h := hl
        have hh := e50_1 c k (r50 c k n) f h (f 175)
        rw [fset_self (rfl : f 175 = f 175)] at hh
        exact Eq.mpr hh hl
      · have hl : f50 (r50 c k (n + 1)) 2 f h := hl
        obtain ⟨l_0, c_0, e_0, hl0⟩ := asS_inv hl
        obtain ⟨n_1, e_1, hl1⟩ := asI_inv hl0
        obtain ⟨l_7, c_7, e_7, hl2⟩ := asS_inv hl1
        obtain ⟨n_8, e_8, hl3⟩ := asI_inv hl2
        obtain ⟨n_9, e_9, hl4⟩ := asI_inv hl3
        obtain ⟨n_10, e_10, hl5⟩ := asI_inv hl4
        have hh := e50_2 c k (r50 c k n) f h l_0 c_0 n_1 l_7 c_7 n_8 n_9 n_10
        rw [fset_self e_0] at hh
        rw [fset_self e_1] at hh
        rw [fset_self e_7] at hh
        rw [fset_self e_8] at hh
        rw [fset_self e_9] at hh
        rw [fset_self e_10] at hh
        exact Eq.mpr hh hl5
      · have hl : f50 (r50 c k (n + 1)) 3 f h := hl
        obtain ⟨l_0, c_0, e_0, hl0⟩ := asS_inv hl
        obtain ⟨n_1, e_1, hl1⟩ := asI_inv hl0
        obtain ⟨l_7, c_7, e_7, hl2⟩ := asS_inv hl1
        obtain ⟨n_8, e_8, hl3⟩ := asI_inv hl2
        obtain ⟨n_9, e_9, hl4⟩ := asI_inv hl3
        obtain ⟨n_10, e_10, hl5⟩ := asI_inv hl4
        obtain ⟨n_12, e_12, hl6⟩ := asI_inv hl5
        have hh := e50_3 c k (r50 c k n) f h l_0 c_0 n_1 l_7 c_7 n_8 n_9 n_10 n_12
        rw [fset_self e_0] at hh
        rw [fset_self e_1] at hh
        rw [fset_self e_7] at hh
        rw [fset_self e_8] at hh
        rw [fset_self e_9] at hh
        rw [fset_self e_10] at hh
        rw [fset_self e_12] at hh
        exact Eq.mpr hh hl6
      · have hl : f50 (r50 c k (n + 1)) 4 f h := hl
        obtain ⟨l_0, c_0, e_0, hl0⟩ := asS_inv hl
        obtain ⟨n_1, e_1, hl1⟩ := asI_inv hl0
        obtain ⟨l_7, c_7, e_7, hl2⟩ := asS_inv hl1
        obtain ⟨n_8, e_8, hl3⟩ := asI_inv hl2
        obtain ⟨n_9, e_9, hl4⟩ := asI_inv hl3
        obtain ⟨n_10, e_10, hl5⟩ := asI_inv hl4
        have hh := e50_4 c k (r50 c k n) f h l_0 c_0 n_1 l_7 c_7 n_8 n_9 n_10
        rw [fset_self e_0] at hh
        rw [fset_self e_1] at hh
        rw [fset_self e_7] at hh
        rw [fset_self e_8] at hh
        rw [fset_self e_9] at hh
        rw [fset_self e_10] at hh
        exact Eq.mpr hh hl5
      · have hl : f50 (r50 c k (n + 1)) 5 f h := hl
        obtain ⟨l_0, c_0, e_0, hl0⟩ := asS_inv hl
        obtain ⟨n_1, e_1, hl1⟩ := asI_inv hl0
        obtain ⟨l_7, c_7, e_7, hl2⟩ := asS_inv hl1
        obtain ⟨n_8, e_8, hl3⟩ := asI_inv hl2
        obtain ⟨n_9, e_9, hl4⟩ := asI_inv hl3
        obtain ⟨n_10, e_10, hl5⟩ := asI_inv hl4
        have hh := e50_5 c k (r50 c k n) f h l_0 c_0 n_1 l_7 c_7 n_8 n_9 n_10
        rw [fset_self e_0] at hh
        rw [fset_self e_1] at hh
        rw [fset_self e_7] at hh
        rw [fset_self e_8] at hh
        rw [fset_self e_9] at hh
        rw [fset_self e_10] at hh
        exact Eq.mpr hh hl5
      · have hl : f50 (r50 c k (n + 1)) 6 f h := hl
        obtain ⟨l_0, c_0, e_0, hl0⟩ := asS_inv hl
        obtain ⟨l_7, c_7, e_7, hl1⟩ := asS_inv hl0
        obtain ⟨n_8, e_8, hl2⟩ := asI_inv hl1
        obtain ⟨n_9, e_9, hl3⟩ := asI_inv hl2
        obtain ⟨n_14, e_14, hl4⟩ := asI_inv hl3
        obtain ⟨n_15, e_15, hl5⟩ := asI_inv hl4
        have hh := e50_6 c k (r50 c k n) f h l_0 c_0 l_7 c_7 n_8 n_9 n_14 n_15
        rw [fset_self e_0] at hh
        rw [fset_self e_7] at hh
        rw [fset_self e_8] at hh
        rw [fset_self e_9] at hh
        rw [fset_self e_14] at hh
        rw [fset_self e_15] at hh
        exact Eq.mpr hh hl5
      · have hl : f50 (r50 c k (n + 1)) 7 f h := hl
        obtain ⟨l_0, c_0, e_0, hl0⟩ := asS_inv hl
        obtain ⟨l_7, c_7, e_7, hl1⟩ := asS_inv hl0
        obtain ⟨n_8, e_8, hl2⟩ := asI_inv hl1
        obtain ⟨n_9, e_9, hl3⟩ := asI_inv hl2
        obtain ⟨n_14, e_14, hl4⟩ := asI_inv hl3
        obtain ⟨n_15, e_15, hl5⟩ := asI_inv hl4
        obtain ⟨n_16, e_16, hl6⟩ := asI_inv hl5
        have hh := e50_7 c k (r50 c k n) f h l_0 c_0 l_7 c_7 n_8 n_9 n_14 n_15 n_16
        rw [fset_self e_0] at hh
        rw [fset_self e_7] at hh
        rw [fset_self e_8] at hh
        rw [fset_self e_9] at hh
        rw [fset_self e_14] at hh
        rw [fset_self e_15] at hh
        rw [fset_self e_16] at hh
        exact Eq.mpr hh hl6
      · have hl : f50 (r50 c k (n + 1)) 8 f h := hl
        obtain ⟨l_0, c_0, e_0, hl0⟩ := asS_inv hl
        obtain ⟨l_7, c_7, e_7, hl1⟩ := asS_inv hl0
        obtain ⟨n_8, e_8, hl2⟩ := asI_inv hl1
        obtain ⟨n_9, e_9, hl3⟩ := asI_inv hl2
        obtain ⟨n_14, e_14, hl4⟩ := asI_inv hl3
        obtain ⟨n_15, e_15, hl5⟩ := asI_inv hl4
        have hh := e50_8 c k (r50 c k n) f h l_0 c_0 l_7 c_7 n_8 n_9 n_14 n_15
        rw [fset_self e_0] at hh
        rw [fset_self e_7] at hh
        rw [fset_self e_8] at hh
        rw [fset_self e_9] at hh
        rw [fset_self e_14] at hh
        rw [fset_self e_15] at hh
        exact Eq.mpr hh hl5
      · have hl : f50 (r50 c k (n + 1)) 9 f h := hl
        obtain ⟨l_0, c_0, e_0, hl0⟩ := asS_inv hl
        obtain ⟨l_7, c_7, e_7, hl1⟩ := asS_inv hl0
        obtain ⟨n_8, e_8, hl2⟩ := asI_inv hl1
        obtain ⟨n_9, e_9, hl3⟩ := asI_inv hl2
        obtain ⟨n_14, e_14, hl4⟩ := asI_inv hl3
        obtain ⟨n_15, e_15, hl5⟩ := asI_inv hl4
        have hh := e50_9 c k (r50 c k n) f h l_0 c_0 l_7 c_7 n_8 n_9 n_14 n_15
        rw [fset_self e_0] at hh
        rw [fset_self e_7] at hh
        rw [fset_self e_8] at hh
        rw [fset_self e_9] at hh
        rw [fset_self e_14] at hh
        rw [fset_self e_15] at hh
        exact Eq.mpr hh hl5
      · have hl : f50 (r50 c k (n + 1)) 10 f h := hl
        obtain ⟨l_0, c_0, e_0, hl0⟩ := asS_inv hl
        obtain ⟨l_7, c_7, e_7, hl1⟩ := asS_inv hl0
        obtain ⟨n_8, e_8, hl2⟩ := asI_inv hl1
        obtain ⟨n_9, e_9, hl3⟩ := asI_inv hl2
        obtain ⟨n_14, e_14, hl4⟩ := asI_inv hl3
        obtain ⟨n_15, e_15, hl5⟩ := asI_inv hl4
        have hh := e50_10 c k (r50 c k n) f h l_0 c_0 l_7 c_7 n_8 n_9 n_14 n_15
        rw [fset_self e_0] at hh
        rw [fset_self e_7] at hh
        rw [fset_self e_8] at hh
        rw [fset_self e_9] at hh
        rw [fset_self e_14] at hh
        rw [fset_self e_15] at hh
        exact Eq.mpr hh hl5
      · have hl : f50 (r50 c k (n + 1)) 11 f h := hl
        obtain ⟨l_0, c_0, e_0, hl0⟩ := asS_inv hl
        obtain ⟨l_7, c_7, e_7, hl1⟩ := asS_inv hl0
        obtain ⟨n_8, e_8, hl2⟩ := asI_inv hl1
        obtain ⟨n_9, e_9, hl3⟩ := asI_inv hl2
        obtain ⟨n_14, e_14, hl4⟩ := asI_inv hl3
        obtain ⟨n_15, e_15, hl5⟩ := asI_inv hl4
        obtain ⟨n_16, e_16, hl6⟩ := asI_inv hl5
        have hh := e50_11 c k (r50 c k n) f h l_0 c_0 l_7 c_7 n_8 n_9 n_14 n_15 n_16
        rw [fset_self e_0] at hh
        rw [fset_self e_7] at hh
        rw [fset_self e_8] at hh
        rw [fset_self e_9] at hh
        rw [fset_self e_14] at hh
        rw [fset_self e_15] at hh
        rw [fset_self e_16] at hh
        exact Eq.mpr hh hl6
      · have hl : f50 (r50 c k (n + 1)) 12 f h := hl
        obtain ⟨l_0, c_0, e_0, hl0⟩ := asS_inv hl
        obtain ⟨l_7, c_7, e_7, hl1⟩ := asS_inv hl0
        obtain ⟨n_8, e_8, hl2⟩ := asI_inv hl1
        obtain ⟨n_9, e_9, hl3⟩ := asI_inv hl2
        obtain ⟨n_14, e_14, hl4⟩ := asI_inv hl3
        obtain ⟨n_15, e_15, hl5⟩ := asI_inv hl4
        have hh := e50_12 c k (r50 c k n) f h l_0 c_0 l_7 c_7 n_8 n_9 n_14 n_15
        rw [fset_self e_0] at hh
        rw [fset_self e_7] at hh
        rw [fset_self e_8] at hh
        rw [fset_self e_9] at hh
        rw [fset_self e_14] at hh
        rw [fset_self e_15] at hh
        exact Eq.mpr hh hl5
      · have hl : f50 (r50 c k (n + 1)) 13 f h := hl
        obtain ⟨l_0, c_0, e_0, hl0⟩ := asS_inv hl
        obtain ⟨n_1, e_1, hl1⟩ := asI_inv hl0
        obtain ⟨l_7, c_7, e_7, hl2⟩ := asS_inv hl1
        obtain ⟨n_8, e_8, hl3⟩ := asI_inv hl2
        obtain ⟨n_9, e_9, hl4⟩ := asI_inv hl3
        have hh := e50_13 c k (r50 c k n) f h l_0 c_0 n_1 l_7 c_7 n_8 n_9
        rw [fset_self e_0] at hh
        rw [fset_self e_1] at hh
        rw [fset_self e_7] at hh
        rw [fset_self e_8] at hh
        rw [fset_self e_9] at hh
        exact Eq.mpr hh hl4
      · have hl : f50 (r50 c k (n + 1)) 14 f h := hl
        obtain ⟨l_0, c_0, e_0, hl0⟩ := asS_inv hl
        obtain ⟨l_7, c_7, e_7, hl1⟩ := asS_inv hl0
        obtain ⟨n_8, e_8, hl2⟩ := asI_inv hl1
        obtain ⟨n_9, e_9, hl3⟩ := asI_inv hl2
        obtain ⟨n_14, e_14, hl4⟩ := asI_inv hl3
        obtain ⟨n_15, e_15, hl5⟩ := asI_inv hl4
        have hh := e50_14 c k (r50 c k n) f h l_0 c_0 l_7 c_7 n_8 n_9 n_14 n_15
        rw [fset_self e_0] at hh
        rw [fset_self e_7] at hh
        rw [fset_self e_8] at hh
        rw [fset_self e_9] at hh
        rw [fset_self e_14] at hh
        rw [fset_self e_15] at hh
        exact Eq.mpr hh hl5
      · have hl : f50 (r50 c k (n + 1)) 15 f h := hl
        obtain ⟨l_0, c_0, e_0, hl0⟩ := asS_inv hl
        obtain ⟨l_7, c_7, e_7, hl1⟩ := asS_inv hl0
        obtain ⟨n_8, e_8, hl2⟩ := asI_inv hl1
        obtain ⟨n_9, e_9, hl3⟩ := asI_inv hl2
        obtain ⟨n_14, e_14, hl4⟩ := asI_inv hl3
        obtain ⟨n_15, e_15, hl5⟩ := asI_inv hl4
        obtain ⟨n_16, e_16, hl6⟩ := asI_inv hl5
        have hh := e50_15 c k (r50 c k n) f h l_0 c_0 l_7 c_7 n_8 n_9 n_14 n_15 n_16
        rw [fset_self e_0] at hh
        rw [fset_self e_7] at hh
        rw [fset_self e_8] at hh
        rw [fset_self e_9] at hh
        rw [fset_self e_14] at hh
        rw [fset_self e_15] at hh
        rw [fset_self e_16] at hh
        exact Eq.mpr hh hl6
      · have hl : f50 (r50 c k (n + 1)) 16 f h := hl
        obtain ⟨l_0, c_0, e_0, hl0⟩ := asS_inv hl
        obtain ⟨l_7, c_7, e_7, hl1⟩ := asS_inv hl0
        obtain ⟨n_8, e_8, hl2⟩ := asI_inv hl1
        obtain ⟨n_9, e_9, hl3⟩ := asI_inv hl2
        obtain ⟨n_14, e_14, hl4⟩ := asI_inv hl3
        obtain ⟨n_15, e_15, hl5⟩ := asI_inv hl4
        have hh := e50_16 c k (r50 c k n) f h l_0 c_0 l_7 c_7 n_8 n_9 n_14 n_15
        rw [fset_self e_0] at hh
        rw [fset_self e_7] at hh
        rw [fset_self e_8] at hh
        rw [fset_self e_9] at hh
        rw [fset_self e_14] at hh
        rw [fset_self e_15] at hh
        exact Eq.mpr hh hl5
      · have hl : f50 (r50 c k (n + 1)) 17 f h := hl
        obtain ⟨l_0, c_0, e_0, hl0⟩ := asS_inv hl
        obtain ⟨l_7, c_7, e_7, hl1⟩ := asS_inv hl0
        obtain ⟨n_8, e_8, hl2⟩ := asI_inv hl1
        obtain ⟨n_9, e_9, hl3⟩ := asI_inv hl2
        obtain ⟨n_14, e_14, hl4⟩ := asI_inv hl3
        obtain ⟨n_15, e_15, hl5⟩ := asI_inv hl4
        have hh := e50_17 c k (r50 c k n) f h l_0 c_0 l_7 c_7 n_8 n_9 n_14 n_15
        rw [fset_self e_0] at hh
        rw [fset_self e_7] at hh
        rw [fset_self e_8] at hh
        rw [fset_self e_9] at hh
        rw [fset_self e_14] at hh
        rw [fset_self e_15] at hh
        exact Eq.mpr hh hl5
      · have hl : f50 (r50 c k (n + 1)) 18 f h := hl
        obtain ⟨l_0, c_0, e_0, hl0⟩ := asS_inv hl
        obtain ⟨l_7, c_7, e_7, hl1⟩ := asS_inv hl0
        obtain ⟨n_8, e_8, hl2⟩ := asI_inv hl1
        obtain ⟨n_9, e_9, hl3⟩ := asI_inv hl2
        obtain ⟨n_14, e_14, hl4⟩ := asI_inv hl3
        obtain ⟨n_15, e_15, hl5⟩ := asI_inv hl4
        have hh := e50_18 c k (r50 c k n) f h l_0 c_0 l_7 c_7 n_8 n_9 n_14 n_15
        rw [fset_self e_0] at hh
        rw [fset_self e_7] at hh
        rw [fset_self e_8] at hh
        rw [fset_self e_9] at hh
        rw [fset_self e_14] at hh
        rw [fset_self e_15] at hh
        exact Eq.mpr hh hl5
      · have hl : f50 (r50 c k (n + 1)) 19 f h := hl
        obtain ⟨l_0, c_0, e_0, hl0⟩ := asS_inv hl
        obtain ⟨l_7, c_7, e_7, hl1⟩ := asS_inv hl0
        obtain ⟨n_8, e_8, hl2⟩ := asI_inv hl1
        obtain ⟨n_9, e_9, hl3⟩ := asI_inv hl2
        obtain ⟨n_14, e_14, hl4⟩ := asI_inv hl3
        obtain ⟨n_15, e_15, hl5⟩ := asI_inv hl4
        obtain ⟨n_16, e_16, hl6⟩ := asI_inv hl5
        have hh := e50_19 c k (r50 c k n) f h l_0 c_0 l_7 c_7 n_8 n_9 n_14 n_15 n_16
        rw [fset_self e_0] at hh
        rw [fset_self e_7] at hh
        rw [fset_self e_8] at hh
        rw [fset_self e_9] at hh
        rw [fset_self e_14] at hh
        rw [fset_self e_15] at hh
        rw [fset_self e_16] at hh
        exact Eq.mpr hh hl6
      · have hl : f50 (r50 c k (n + 1)) 20 f h := hl
        obtain ⟨l_0, c_0, e_0, hl0⟩ := asS_inv hl
        obtain ⟨l_7, c_7, e_7, hl1⟩ := asS_inv hl0
        obtain ⟨n_8, e_8, hl2⟩ := asI_inv hl1
        obtain ⟨n_9, e_9, hl3⟩ := asI_inv hl2
        obtain ⟨n_14, e_14, hl4⟩ := asI_inv hl3
        obtain ⟨n_15, e_15, hl5⟩ := asI_inv hl4
        have hh := e50_20 c k (r50 c k n) f h l_0 c_0 l_7 c_7 n_8 n_9 n_14 n_15
        rw [fset_self e_0] at hh
        rw [fset_self e_7] at hh
        rw [fset_self e_8] at hh
        rw [fset_self e_9] at hh
        rw [fset_self e_14] at hh
        rw [fset_self e_15] at hh
        exact Eq.mpr hh hl5
      · have hl : f50 (r50 c k (n + 1)) 21 f h := hl
        obtain ⟨n_8, e_8, hl0⟩ := asI_inv hl
        obtain ⟨n_9, e_9, hl1⟩ := asI_inv hl0
        obtain ⟨n_13, e_13, hl2⟩ := asI_inv hl1
        have hh := e50_21 c k (r50 c k n) f h n_8 n_9 n_13
        rw [fset_self e_8] at hh
        rw [fset_self e_9] at hh
        rw [fset_self e_13] at hh
        exact Eq.mpr hh hl2
      · have hl : f50 (r50 c k (n + 1)) 22 f h := hl
        obtain ⟨l_0, c_0, e_0, hl0⟩ := asS_inv hl
        obtain ⟨l_7, c_7, e_7, hl1⟩ := asS_inv hl0
        obtain ⟨n_8, e_8, hl2⟩ := asI_inv hl1
        obtain ⟨n_9, e_9, hl3⟩ := asI_inv hl2
        obtain ⟨n_14, e_14, hl4⟩ := asI_inv hl3
        obtain ⟨n_15, e_15, hl5⟩ := asI_inv hl4
        have hh := e50_22 c k (r50 c k n) f h l_0 c_0 l_7 c_7 n_8 n_9 n_14 n_15
        rw [fset_self e_0] at hh
        rw [fset_self e_7] at hh
        rw [fset_self e_8] at hh
        rw [fset_self e_9] at hh
        rw [fset_self e_14] at hh
        rw [fset_self e_15] at hh
        exact Eq.mpr hh hl5
    ) (by simp [u50]) hg

theorem e63_0 (c : Caller Prop FT) (k : KV) (J : J63) (f : FT) (h : H) (l_0 : Nat) (c_0 : Nat) (l_1 : Nat) (c_1 : Nat) : chunkA env c q63 u63 (f63 J) d63 (retA env Go.Proofs.Tryd.f63.results.toList k) .root (fset (fset f 0 (.str l_0 c_0)) 1 (.str l_1 c_1)) h = s63_0 c k J l_0 c_0 l_1 c_1 h := by kernel_rfl
theorem w63 {c : Caller Prop FT} (hc : CallOk Go.Proofs.Tryd.prog (CP env) G (fun p => p) c) {k : KV} {n : Nat} {args : List AV} {h : H} (hg : f63 (r63 c k n) 0 (finit args) h) : SW Go.Proofs.Tryd.prog G (.func 63) args h k :=
  fn_ok mixed envOk hc q63 Go.Proofs.Tryd.func63 rfl (by kernel_rfl) (by kernel_rfl) k u63 (fun n => f63 (r63 c k n))
    (fun L f h hl => by
      match L, hl with
      | 0, hl => obtain ⟨_, _, _, hl0⟩ := asS_inv (show _ from hl); obtain ⟨_, _, _, hl1⟩ := asS_inv (show _ from hl0); exact hl1
      | _ + 1, hl => exact hl)
    (fun n p L hm f h hl => by
      simp only [u63, List.mem_cons, Prod.mk.injEq, List.not_mem_nil, or_false] at hm
      rcases hm with ⟨rfl, rfl⟩
      · have hl : f63 (r63 c k (n + 1)) 0 f h := hl
        obtain ⟨l_0, c_0, e_0, hl0⟩ := asS_inv hl
        obtain ⟨l_1, c_1, e_1, hl1⟩ := asS_inv hl0
        have hh := e63_0 c k (r63 c k n) f h l_0 c_0 l_1 c_1
        rw [fset_self e_0] at hh
        rw [fset_self e_1] at hh
        exact Eq.mpr hh hl1
    ) (by simp [u63]) hg

theorem e66_0 (c : Caller Prop FT) (k : KV) (J : J66) (f : FT) (h : H) (v_0 : AV) (n_1 : Int) : chunkA env c q66 u66 (f66 J) d66 (retA env Go.Proofs.Tryd.f66.results.toList k) .root (fset (fset f 0 v_0) 1 (.int .i64 n_1)) h = s66_0 c k J v_0 n_1 h := by kernel_rfl
theorem e66_1 (c : Caller Prop FT) (k : KV) (J : J66) (f : FT) (h : H) (v_0 : AV) (n_1 : Int) : chunkA env c q66 u66 (f66 J) d66 (retA env Go.Proofs.Tryd.f66.results.toList k) (.r (.r .root)) (fset (fset f 0 v_0) 1 (.int .i64 n_1)) h = s66_1 c k J v_0 n_1 h := by kernel_rfl
theorem w66 {c : Caller Prop FT} (hc : CallOk Go.Proofs.Tryd.prog (CP env) G (fun p => p) c) {k : KV} {n : Nat} {args : List AV} {h : H} (hg : f66 (r66 c k n) 0 (finit args) h) : SW Go.Proofs.Tryd.prog G (.func 66) args h k :=
  fn_ok mixed envOk hc q66 Go.Proofs.Tryd.func66 rfl (by kernel_rfl) (by kernel_rfl) k u66 (fun n => f66 (r66 c k n))
    (fun L f h hl => by
      match L, hl with
      | 0, hl => obtain ⟨_, _, hl0⟩ := asI_inv (show _ from hl); exact hl0
      | 1, hl => obtain ⟨_, _, hl0⟩ := asI_inv (show _ from hl); exact hl0
      | _ + 2, hl => exact hl)
    (fun n p L hm f h hl => by
      simp only [u66, List.mem_cons, Prod.mk.injEq, List.not_mem_nil, or_false] at hm
      rcases hm with ⟨rfl, rfl⟩ | ⟨rfl, rfl⟩
      · have hl : f66 (r66 c k (n + 1)) 0 f h := hl
        obtain ⟨n_1, e_1, hl1⟩ := asI_inv hl
        have hh := e66_0 c k (r66 c k n) f h (f 0) n_1
        rw [fset_self (rfl : f 0 = f 0)] at hh
        rw [fset_self e_1] at hh
        exact Eq.mpr hh hl1
      · have hl : f66 (r66 c k (n + 1)) 1 f h := hl
        obtain ⟨n_1, e_1, hl1⟩ := asI_inv hl
        have hh := e66_1 c k (r66 c k n) f h (f 0) n_1
        rw [fset_self (rfl : f 0 = f 0)] at hh
        rw [fset_self e_1] at hh
        exact Eq.mpr hh hl1
    ) (by simp [u66]) hg

end Go.Den
namespace Go.Den
set_option maxRecDepth 100000
theorem e2_0 (c : Caller Prop FT) (k : KV) (J : J2) (f : FT) (h : H) : chunkA env c q2 u2 (f2 J) d2 (retA env Go.Proofs.Tryd.f2.results.toList k) .root f h = s2_0 c k J  h := by kernel_rfl
theorem w2 {c : Caller Prop FT} (hc : CallOk Go.Proofs.Tryd.prog (CP env) G (fun p => p) c) {k : KV} {n : Nat} {args : List AV} {h : H} (hg : f2 (r2 c k n) 0 (finit args) h) : SW Go.Proofs.Tryd.prog G (.func 2) args h k :=
  fn_ok mixed envOk hc q2 Go.Proofs.Tryd.func2 rfl (by kernel_rfl) (by kernel_rfl) k u2 (fun n => f2 (r2 c k n))
    (fun L f h hl => by
      match L, hl with
      | 0, hl => exact hl
      | _ + 1, hl => exact hl)
    (fun n p L hm f h hl => by
      simp only [u2, List.mem_cons, Prod.mk.injEq, List.not_mem_nil, or_false] at hm
      rcases hm with ⟨rfl, rfl⟩
      · have hl : f2 (r2 c k (n + 1)) 0 f h := hl
        have hh := e2_0 c k (r2 c k n) f h 
        exact Eq.mpr hh hl
    ) (by simp [u2]) hg

theorem e16_0 (c : Caller Prop FT) (k : KV) (J : J16) (f : FT) (h : H) (l_0 : Nat) (c_0 : Nat) : chunkA env c q16 u16 (f16 J) d16 (retA env Go.Proofs.Tryd.f16.results.toList k) .root (fset f 0 (.str l_0 c_0)) h = s16_0 c k J l_0 c_0 h := by kernel_rfl
theorem e16_1 (c : Caller Prop FT) (k : KV) (J : J16) (f : FT) (h : H) (l_3 : Nat) (c_3 : Nat) (l_4 : Nat) (c_4 : Nat) (l_5 : Nat) (c_5 : Nat) (n_6 : Int) (b_7 : Bool) : chunkA env c q16 u16 (f16 J) d16 (retA env Go.Proofs.Tryd.f16.results.toList k) (.r (.r (.r (.r (.r (.r (.r .root))))))) (fset (fset (fset (fset (fset f 3 (.str l_3 c_3)) 4 (.str l_4 c_4)) 5 (.str l_5 c_5)) 6 (.int .i64 n_6)) 7 (.bool b_7)) h = s16_1 c k J l_3 c_3 l_4 c_4 l_5 c_5 n_6 b_7 h := by kernel_rfl
theorem e16_2 (c : Caller Prop FT) (k : KV) (J : J16) (f : FT) (h : H) (l_3 : Nat) (c_3 : Nat) (l_4 : Nat) (c_4 : Nat) (l_5 : Nat) (c_5 : Nat) : chunkA env c q16 u16 (f16 J) d16 (retA env Go.Proofs.Tryd.f16.results.toList k) (.r (.r (.r .root))) (fset (fset (fset f 3 (.str l_3 c_3)) 4 (.str l_4 c_4)) 5 (.str l_5 c_5)) h = s16_2 c k J l_3 c_3 l_4 c_4 l_5 c_5 h := by kernel_rfl
theorem w16 {c : Caller Prop FT} (hc : CallOk Go.Proofs.Tryd.prog (CP env) G (fun p => p) c) {k : KV} {n : Nat} {args : List AV} {h : H} (hg : f16 (r16 c k n) 0 (finit args) h) : SW Go.Proofs.Tryd.prog G (.func 16) args h k :=
  fn_ok mixed envOk hc q16 Go.Proofs.Tryd.func16 rfl (by kernel_rfl) (by kernel_rfl) k u16 (fun n => f16 (r16 c k n))
    (fun L f h hl => by
      match L, hl with
      | 0, hl => obtain ⟨_, _, _, hl0⟩ := asS_inv (show _ from hl); exact hl0
      | 1, hl => obtain ⟨_, _, _, hl0⟩ := asS_inv (show _ from hl); obtain ⟨_, _, _, hl1⟩ := asS_inv (show _ from hl0); obtain ⟨_, _, _, hl2⟩ := asS_inv (show _ from hl1); obtain ⟨_, _, hl3⟩ := asI_inv (show _ from hl2); obtain ⟨_, _, hl4⟩ := asB_inv (show _ from hl3); exact hl4
      | 2, hl => obtain ⟨_, _, _, hl0⟩ := asS_inv (show _ from hl); obtain ⟨_, _, _, hl1⟩ := asS_inv (show _ from hl0); obtain ⟨_, _, _, hl2⟩ := asS_inv (show _ from hl1); exact hl2
      | _ + 3, hl => exact hl)
    (fun n p L hm f h hl => by
      simp only [u16, List.mem_cons, Prod.mk.injEq, List.not_mem_nil, or_false] at hm
      rcases hm with ⟨rfl, rfl⟩ | ⟨rfl, rfl⟩ | ⟨rfl, rfl⟩
      · have hl : f16 (r16 c k (n + 1)) 0 f h := hl
        obtain ⟨l_0, c_0, e_0, hl0⟩ := asS_inv hl
        have hh := e16_0 c k (r16 c k n) f h l_0 c_0
        rw [fset_self e_0] at hh
        exact Eq.mpr hh hl0
      · have hl : f16 (r16 c k (n + 1)) 1 f h := hl
        obtain ⟨l_3, c_3, e_3, hl0⟩ := asS_inv hl
        obtain ⟨l_4, c_4, e_4, hl1⟩ := asS_inv hl0
        obtain ⟨l_5, c_5, e_5, hl2⟩ := asS_inv hl1
        obtain ⟨n_6, e_6, hl3⟩ := asI_inv hl2
        obtain ⟨b_7, e_7, hl4⟩ := asB_inv hl3
        have hh := e16_1 c k (r16 c k n) f h l_3 c_3 l_4 c_4 l_5 c_5 n_6 b_7
        rw [fset_self e_3] at hh
        rw [fset_self e_4] at hh
        rw [fset_self e_5] at hh
        rw [fset_self e_6] at hh
        rw [fset_self e_7] at hh
        exact Eq.mpr hh hl4
      · have hl : f16 (r16 c k (n + 1)) 2 f h := hl
        obtain ⟨l_3, c_3, e_3, hl0⟩ := asS_inv hl
        obtain ⟨l_4, c_4, e_4, hl1⟩ := asS_inv hl0
        obtain ⟨l_5, c_5, e_5, hl2⟩ := asS_inv hl1
        have hh := e16_2 c k (r16 c k n) f h l_3 c_3 l_4 c_4 l_5 c_5
        rw [fset_self e_3] at hh
        rw [fset_self e_4] at hh
        rw [fset_self e_5] at hh
        exact Eq.mpr hh hl2
    ) (by simp [u16]) hg

theorem e21_0 (c : Caller Prop FT) (k : KV) (J : J21) (f : FT) (h : H) (l_0 : Nat) (c_0 : Nat) : chunkA env c q21 u21 (f21 J) d21 (retA env Go.Proofs.Tryd.f21.results.toList k) .root (fset f 0 (.str l_0 c_0)) h = s21_0 c k J l_0 c_0 h := by kernel_rfl
theorem e21_1 (c : Caller Prop FT) (k : KV) (J : J21) (f : FT) (h : H) (l_0 : Nat) (c_0 : Nat) (b_2 : Bool) : chunkA env c q21 u21 (f21 J) d21 (retA env Go.Proofs.Tryd.f21.results.toList k) (.r (.r .root)) (fset (fset f 0 (.str l_0 c_0)) 2 (.bool b_2)) h = s21_1 c k J l_0 c_0 b_2 h := by kernel_rfl
theorem w21 {c : Caller Prop FT} (hc : CallOk Go.Proofs.Tryd.prog (CP env) G (fun p => p) c) {k : KV} {n : Nat} {args : List AV} {h : H} (hg : f21 (r21 c k n) 0 (finit args) h) : SW Go.Proofs.Tryd.prog G (.func 21) args h k :=
  fn_ok mixed envOk hc q21 Go.Proofs.Tryd.func21 rfl (by kernel_rfl) (by kernel_rfl) k u21 (fun n => f21 (r21 c k n))
    (fun L f h hl => by
      match L, hl with
      | 0, hl => obtain ⟨_, _, _, hl0⟩ := asS_inv (show _ from hl); exact hl0
      | 1, hl => obtain ⟨_, _, _, hl0⟩ := asS_inv (show _ from hl); obtain ⟨_, _, hl1⟩ := asB_inv (show _ from hl0); exact hl1
      | _ + 2, hl => exact hl)
    (fun n p L hm f h hl => by
      simp only [u21, List.mem_cons, Prod.mk.injEq, List.not_mem_nil, or_false] at hm
      rcases hm with ⟨rfl, rfl⟩ | ⟨rfl, rfl⟩
      · have hl : f21 (r21 c k (n + 1)) 0 f h := hl
        obtain ⟨l_0, c_0, e_0, hl0⟩ := asS_inv hl
        have hh := e21_0 c k (r21 c k n) f h l_0 c_0
        rw [fset_self e_0] at hh
        exact Eq.mpr hh hl0
      · have hl : f21 (r21 c k (n + 1)) 1 f h := hl
        obtain ⟨l_0, c_0, e_0, hl0⟩ := asS_inv hl
        obtain ⟨b_2, e_2, hl1⟩ := asB_inv hl0
        have hh := e21_1 c k (r21 c k n) f h l_0 c_0 b_2
        rw [fset_self e_0] at hh
        rw [fset_self e_2] at hh
        exact Eq.mpr hh hl1
    ) (by simp [u21]) hg

theorem e26_0 (c : Caller Prop FT) (k : KV) (J : J26) (f : FT) (h : H) (l_0 : Nat) (c_0 : Nat) (n_1 : Int) (n_2 : Int) : chunkA env c q26 u26 (f26 J) d26 (retA env Go.Proofs.Tryd.f26.results.toList k) .root (fset (fset (fset f 0 (.str l_0 c_0)) 1 (.int .i64 n_1)) 2 (.int .i64 n_2)) h = s26_0 c k J l_0 c_0 n_1 n_2 h := by kernel_rfl
theorem e26_1 (c : Caller Prop FT) (k : KV) (J : J26) (f : FT) (h : H) (l_0 : Nat) (c_0 : Nat) (n_1 : Int) (n_2 : Int) (n_7 : Int) : chunkA env c q26 u26 (f26 J) d26 (retA env Go.Proofs.Tryd.f26.results.toList k) (.l (.l (.r (.r .root)))) (fset (fset (fset (fset f 0 (.str l_0 c_0)) 1 (.int .i64 n_1)) 2 (.int .i64 n_2)) 7 (.int .i64 n_7)) h = s26_1 c k J l_0 c_0 n_1 n_2 n_7 h := by kernel_rfl
theorem w26 {c : Caller Prop FT} (hc : CallOk Go.Proofs.Tryd.prog (CP env) G (fun p => p) c) {k : KV} {n : Nat} {args : List AV} {h : H} (hg : f26 (r26 c k n) 0 (finit args) h) : SW Go.Proofs.Tryd.prog G (.func 26) args h k :=
  fn_ok mixed envOk hc q26 Go.Proofs.Tryd.func26 rfl (by kernel_rfl) (by kernel_rfl) k u26 (fun n => f26 (r26 c k n))
    (fun L f h hl => by
      match L, hl with
      | 0, hl => obtain ⟨_, _, _, hl0⟩ := asS_inv (show _ from hl); obtain ⟨_, _, hl1⟩ := asI_inv (show _ from hl0); obtain ⟨_, _, hl2⟩ := asI_inv (show _ from hl1); exact hl2
      | 1, hl => obtain ⟨_, _, _, hl0⟩ := asS_inv (show _ from hl); obtain ⟨_, _, hl1⟩ := asI_inv (show _ from hl0); obtain ⟨_, _, hl2⟩ := asI_inv (show _ from hl1); obtain ⟨_, _, hl3⟩ := asI_inv (show _ from hl2); exact hl3
      | _ + 2, hl => exact hl)
    (fun n p L hm f h hl => by
      simp only [u26, List.mem_cons, Prod.mk.injEq, List.not_mem_nil, or_false] at hm
      rcases hm with ⟨rfl, rfl⟩ | ⟨rfl, rfl⟩
      · have hl : f26 (r26 c k (n + 1)) 0 f h := hl
        obtain ⟨l_0, c_0, e_0, hl0⟩ := asS_inv hl
        obtain ⟨n_1, e_1, hl1⟩ := asI_inv hl0
        obtain ⟨n_2, e_2, hl2⟩ := asI_inv hl1
        have hh := e26_0 c k (r26 c k n) f h l_0 c_0 n_1 n_2
        rw [fset_self e_0] at hh
        rw [fset_self e_1] at hh
        rw [fset_self e_2] at hh
        exact Eq.mpr hh hl2
      · have hl : f26 (r26 c k (n + 1)) 1 f h := hl
        obtain ⟨l_0, c_0, e_0, hl0⟩ := asS_inv hl
        obtain ⟨n_1, e_1, hl1⟩ := asI_inv hl0
        obtain ⟨n_2, e_2, hl2⟩ := asI_inv hl1
        obtain ⟨n_7, e_7, hl3⟩ := asI_inv hl2
        have hh := e26_1 c k (r26 c k n) f h l_0 c_0 n_1 n_2 n_7
        rw [fset_self e_0] at hh
        rw [fset_self e_1] at hh
        rw [fset_self e_2] at hh
        rw [fset_self e_7] at hh
        exact Eq.mpr hh hl3
    ) (by simp [u26]) hg

theorem e30_0 (c : Caller Prop FT) (k : KV) (J : J30) (f : FT) (h : H) (l_0 : Nat) (c_0 : Nat) : chunkA env c q30 u30 (f30 J) d30 (retA env Go.Proofs.Tryd.f30.results.toList k) .root (fset f 0 (.str l_0 c_0)) h = s30_0 c k J l_0 c_0 h := by kernel_rfl
theorem e30_1 (c : Caller Prop FT) (k : KV) (J : J30) (f : FT) (h : H) (l_0 : Nat) (c_0 : Nat) (v_5 : AV) (n_6 : Int) : chunkA env c q30 u30 (f30 J) d30 (retA env Go.Proofs.Tryd.f30.results.toList k) (.l (.r (.l (.r (.r .root))))) (fset (fset (fset f 0 (.str l_0 c_0)) 5 v_5) 6 (.int .i64 n_6)) h = s30_1 c k J l_0 c_0 v_5 n_6 h := by kernel_rfl
theorem w30 {c : Caller Prop FT} (hc : CallOk Go.Proofs.Tryd.prog (CP env) G (fun p => p) c) {k : KV} {n : Nat} {args : List AV} {h : H} (hg : f30 (r30 c k n) 0 (finit args) h) : SW Go.Proofs.Tryd.prog G (.func 30) args h k :=
  fn_ok mixed envOk hc q30 Go.Proofs.Tryd.func30 rfl (by kernel_rfl) (by kernel_rfl) k u30 (fun n => f30 (r30 c k n))
    (fun L f h hl => by
      match L, hl with
      | 0, hl => obtain ⟨_, _, _, hl0⟩ := asS_inv (show _ from hl); exact hl0
      | 1, hl => obtain ⟨_, _, _, hl0⟩ := asS_inv (show _ from hl); obtain ⟨_, _, hl1⟩ := asI_inv (show _ from hl0); exact hl1
      | _ + 2, hl => exact hl)
    (fun n p L hm f h hl => by
      simp only [u30, List.mem_cons, Prod.mk.injEq, List.not_mem_nil, or_false] at hm
      rcases hm with ⟨rfl, rfl⟩ | ⟨rfl, rfl⟩
      · have hl : f30 (r30 c k (n + 1)) 0 f h := hl
        obtain ⟨l_0, c_0, e_0, hl0⟩ := asS_inv hl
        have hh := e30_0 c k (r30 c k n) f h l_0 c_0
        rw [fset_self e_0] at hh
        exact Eq.mpr hh hl0
      · have hl : f30 (r30 c k (n + 1)) 1 f h := hl
        obtain ⟨l_0, c_0, e_0, hl0⟩ := asS_inv hl
        obtain ⟨n_6, e_6, hl2⟩ := asI_inv hl0
        have hh := e30_1 c k (r30 c k n) f h l_0 c_0 (f 5) n_6
        rw [fset_self e_0] at hh
        rw [fset_self (rfl : f 5 = f 5)] at hh
        rw [fset_self e_6] at hh
        exact Eq.mpr hh hl2
    ) (by simp [u30]) hg

theorem e42_0 (c : Caller Prop FT) (k : KV) (J : J42) (f : FT) (h : H) (l_0 : Nat) (c_0 : Nat) (l_1 : Nat) (c_1 : Nat) : chunkA env c q42 u42 (f42 J) d42 (retA env Go.Proofs.Tryd.f42.results.toList k) .root (fset (fset f 0 (.str l_0 c_0)) 1 (.str l_1 c_1)) h = s42_0 c k J l_0 c_0 l_1 c_1 h := by kernel_rfl
theorem w42 {c : Caller Prop FT} (hc : CallOk Go.Proofs.Tryd.prog (CP env) G (fun p => p) c) {k : KV} {n : Nat} {args : List AV} {h : H} (hg : f42 (r42 c k n) 0 (finit args) h) : SW Go.Proofs.Tryd.prog G (.func 42) args h k :=
  fn_ok mixed envOk hc q42 Go.Proofs.Tryd.func42 rfl (by kernel_rfl) (by kernel_rfl) k u42 (fun n => f42 (r42 c k n))
    (fun L f h hl => by
      match L, hl with
      | 0, hl => obtain ⟨_, _, _, hl0⟩ := asS_inv (show _ from hl); obtain ⟨_, _, _, hl1⟩ := asS_inv (show _ from hl0); exact hl1
      | _ + 1, hl => exact hl)
    (fun n p L hm f h hl => by
      simp only [u42, List.mem_cons, Prod.mk.injEq, List.not_mem_nil, or_false] at hm
      rcases hm with ⟨rfl, rfl⟩
      · have hl : f42 (r42 c k (n + 1)) 0 f h := hl
        obtain ⟨l_0, c_0, e_0, hl0⟩ := asS_inv hl
        obtain ⟨l_1, c_1, e_1, hl1⟩ := asS_inv hl0
        have hh := e42_0 c k (r42 c k n) f h l_0 c_0 l_1 c_1
        rw [fset_self e_0] at hh
        rw [fset_self e_1] at hh
        exact Eq.mpr hh hl1
    ) (by simp [u42]) hg

theorem e46_0 (c : Caller Prop FT) (k : KV) (J : J46) (f : FT) (h : H) (l_0 : Nat) (c_0 : Nat) (n_1 : Int) : chunkA env c q46 u46 (f46 J) d46 (retA env Go.Proofs.Tryd.f46.results.toList k) .root (fset (fset f 0 (.str l_0 c_0)) 1 (.int .u8 n_1)) h = s46_0 c k J l_0 c_0 n_1 h := by kernel_rfl
theorem e46_1 (c : Caller Prop FT) (k : KV) (J : J46) (f : FT) (h : H) (l_0 : Nat) (c_0 : Nat) (n_1 : Int) (v_5 : AV) (n_6 : Int) : chunkA env c q46 u46 (f46 J) d46 (retA env Go.Proofs.Tryd.f46.results.toList k) (.l (.r (.l (.r (.r .root))))) (fset (fset (fset (fset f 0 (.str l_0 c_0)) 1 (.int .u8 n_1)) 5 v_5) 6 (.int .i64 n_6)) h = s46_1 c k J l_0 c_0 n_1 v_5 n_6 h := by kernel_rfl
theorem w46 {c : Caller Prop FT} (hc : CallOk Go.Proofs.Tryd.prog (CP env) G (fun p => p) c) {k : KV} {n : Nat} {args : List AV} {h : H} (hg : f46 (r46 c k n) 0 (finit args) h) : SW Go.Proofs.Tryd.prog G (.func 46) args h k :=
  fn_ok mixed envOk hc q46 Go.Proofs.Tryd.func46 rfl (by kernel_rfl) (by kernel_rfl) k u46 (fun n => f46 (r46 c k n))
    (fun L f h hl => by
      match L, hl with
      | 0, hl => obtain ⟨_, _, _, hl0⟩ := asS_inv (show _ from hl); obtain ⟨_, _, hl1⟩ := asI_inv (show _ from hl0); exact hl1
      | 1, hl => obtain ⟨_, _, _, hl0⟩ := asS_inv (show _ from hl); obtain ⟨_, _, hl1⟩ := asI_inv (show _ from hl0); obtain ⟨_, _, hl2⟩ := asI_inv (show _ from hl1); exact hl2
      | _ + 2, hl => exact hl)
    (fun n p L hm f h hl => by
      simp only [u46, List.mem_cons, Prod.mk.injEq, List.not_mem_nil, or_false] at hm
      rcases hm with ⟨rfl, rfl⟩ | ⟨rfl, rfl⟩
      · have hl : f46 (r46 c k (n + 1)) 0 f h := hl
        obtain ⟨l_0, c_0, e_0, hl0⟩ := asS_inv hl
        obtain ⟨n_1, e_1, hl1⟩ := asI_inv hl0
        have hh := e46_0 c k (r46 c k n) f h l_0 c_0 n_1
        rw [fset_self e_0] at hh
        rw [fset_self e_1] at hh
        exact Eq.mpr hh hl1
      · have hl : f46 (r46 c k (n + 1)) 1 f h := hl
        obtain ⟨l_0, c_0, e_0, hl0⟩ := asS_inv hl
        obtain ⟨n_1, e_1, hl1⟩ := asI_inv hl0
        obtain ⟨n_6, e_6, hl3⟩ := asI_inv hl1
        have hh := e46_1 c k (r46 c k n) f h l_0 c_0 n_1 (f 5) n_6
        rw [fset_self e_0] at hh
        rw [fset_self e_1] at hh
        rw [fset_self (rfl : f 5 = f 5)] at hh
        rw [fset_self e_6] at hh
        exact Eq.mpr hh hl3
    ) (by simp [u46]) hg

theorem e67_0 (c : Caller Prop FT) (k : KV) (J : J67) (f : FT) (h : H) (v_0 : AV) (l_1 : Nat) (c_1 : Nat) : chunkA env c q67 u67 (f67 J) d67 (retA env Go.Proofs.Tryd.f67.results.toList k) .root (fset (fset f 0 v_0) 1 (.str l_1 c_1)) h = s67_0 c k J v_0 l_1 c_1 h := by kernel_rfl
theorem w67 {c : Caller Prop FT} (hc : CallOk Go.Proofs.Tryd.prog (CP env) G (fun p => p) c) {k : KV} {n : Nat} {args : List AV} {h : H} (hg : f67 (r67 c k n) 0 (finit args) h) : SW Go.Proofs.Tryd.prog G (.func 67) args h k :=
  fn_ok mixed envOk hc q67 Go.Proofs.Tryd.func67 rfl (by kernel_rfl) (by kernel_rfl) k u67 (fun n => f67 (r67 c k n))
    (fun L f h hl => by
      match L, hl with
      | 0, hl => obtain ⟨_, _, _, hl0⟩ := asS_inv (show _ from hl); exact hl0
      | _ + 1, hl => exact hl)
    (fun n p L hm f h hl => by
      simp only [u67, List.mem_cons, Prod.mk.injEq, List.not_mem_nil, or_false] at hm
      rcases hm with ⟨rfl, rfl⟩
      · have hl : f67 (r67 c k (n + 1)) 0 f h := hl
        obtain ⟨l_1, c_1, e_1, hl1⟩ := asS_inv hl
        have hh := e67_0 c k (r67 c k n) f h (f 0) l_1 c_1
        rw [fset_self (rfl : f 0 = f 0)] at hh
        rw [fset_self e_1] at hh
        exact Eq.mpr hh hl1
    ) (by simp [u67]) hg

theorem e75_0 (c : Caller Prop FT) (k : KV) (J : J75) (f : FT) (h : H) (l_0 : Nat) (c_0 : Nat) : chunkA env c q75 u75 (f75 J) d75 (retA env Go.Proofs.Tryd.f75.results.toList k) .root (fset f 0 (.str l_0 c_0)) h = s75_0 c k J l_0 c_0 h := by kernel_rfl
theorem w75 {c : Caller Prop FT} (hc : CallOk Go.Proofs.Tryd.prog (CP env) G (fun p => p) c) {k : KV} {n : Nat} {args : List AV} {h : H} (hg : f75 (r75 c k n) 0 (finit args) h) : SW Go.Proofs.Tryd.prog G (.func 75) args h k :=
  fn_ok mixed envOk hc q75 Go.Proofs.Tryd.func75 rfl (by kernel_rfl) (by kernel_rfl) k u75 (fun n => f75 (r75 c k n))
    (fun L f h hl => by
      match L, hl with
      | 0, hl => obtain ⟨_, _, _, hl0⟩ := asS_inv (show _ from hl); exact hl0
      | _ + 1, hl => exact hl)
    (fun n p L hm f h hl => by
      simp only [u75, List.mem_cons, Prod.mk.injEq, List.not_mem_nil, or_false] at hm
      rcases hm with ⟨rfl, rfl⟩
      · have hl : f75 (r75 c k (n + 1)) 0 f h := hl
        obtain ⟨l_0, c_0, e_0, hl0⟩ := asS_inv hl
        have hh := e75_0 c k (r75 c k n) f h l_0 c_0
        rw [fset_self e_0] at hh
        exact Eq.mpr hh hl0
    ) (by simp [u75]) hg

end Go.Den
