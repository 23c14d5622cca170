/-
  A part of the proof: TDW2, TDW3, TDW4.
-/
import Derived.Test.YtdpnnajfmkpfjaaDoorRunA
import Derived.KernelRfl
namespace Go.Den
set_option maxRecDepth 100000
theorem e3_0 (c : Caller Prop FT) (k : KV) (J : J3) (f : FT) (h : H) (l_0 : Nat) (c_0 : Nat) : chunkA env c q3 u3 (f3 J) d3 (retA env Go.Proofs.Tryd.f3.results.toList k) .root (fset f 0 (.str l_0 c_0)) h = s3_0 c k J l_0 c_0 h := by kernel_rfl
theorem w3 {c : Caller Prop FT} (hc : CallOk Go.Proofs.Tryd.prog (CP env) G (fun p => p) c) {k : KV} {n : Nat} {args : List AV} {h : H} (hg : f3 (r3 c k n) 0 (finit args) h) : SW Go.Proofs.Tryd.prog G (.func 3) args h k :=
  fn_ok mixed envOk hc q3 Go.Proofs.Tryd.func3 rfl (by kernel_rfl) (by kernel_rfl) k u3 (fun n => f3 (r3 c k n))
    (fun L f h hl => by
      match L, hl with
      | 0, hl => obtain ⟨_, _, _, hl0⟩ := asS_inv (show _ from hl); exact hl0
      | _ + 1, hl => exact hl)
    (fun n p L hm f h hl => by
      simp only [u3, List.mem_cons, Prod.mk.injEq, List.not_mem_nil, or_false] at hm
      rcases hm with ⟨rfl, rfl⟩
      · have hl : f3 (r3 c k (n + 1)) 0 f h := hl
        obtain ⟨l_0, c_0, e_0, hl0⟩ := asS_inv hl
        have hh := e3_0 c k (r3 c k n) f h l_0 c_0
        rw [fset_self e_0] at hh
        exact Eq.mpr hh hl0
    ) (by simp [u3]) hg

theorem e5_0 (c : Caller Prop FT) (k : KV) (J : J5) (f : FT) (h : H) (v_0 : AV) (n_1 : Int) : chunkA env c q5 u5 (f5 J) d5 (retA env Go.Proofs.Tryd.f5.results.toList k) .root (fset (fset f 0 v_0) 1 (.int .i64 n_1)) h = s5_0 c k J v_0 n_1 h := by kernel_rfl
theorem e5_1 (c : Caller Prop FT) (k : KV) (J : J5) (f : FT) (h : H) (v_0 : AV) (n_1 : Int) (l_5 : Nat) (c_5 : Nat) (n_6 : Int) : chunkA env c q5 u5 (f5 J) d5 (retA env Go.Proofs.Tryd.f5.results.toList k) (.l (.r (.l (.r (.r (.r .root)))))) (fset (fset (fset (fset f 0 v_0) 1 (.int .i64 n_1)) 5 (.str l_5 c_5)) 6 (.int .i64 n_6)) h = s5_1 c k J v_0 n_1 l_5 c_5 n_6 h := by kernel_rfl
theorem e5_2 (c : Caller Prop FT) (k : KV) (J : J5) (f : FT) (h : H) (v_0 : AV) (n_1 : Int) (l_5 : Nat) (c_5 : Nat) (n_6 : Int) : chunkA env c q5 u5 (f5 J) d5 (retA env Go.Proofs.Tryd.f5.results.toList k) (.r (.r (.l (.l (.r (.l (.r (.r (.r .root))))))))) (fset (fset (fset (fset f 0 v_0) 1 (.int .i64 n_1)) 5 (.str l_5 c_5)) 6 (.int .i64 n_6)) h = s5_2 c k J v_0 n_1 l_5 c_5 n_6 h := by kernel_rfl
theorem w5 {c : Caller Prop FT} (hc : CallOk Go.Proofs.Tryd.prog (CP env) G (fun p => p) c) {k : KV} {n : Nat} {args : List AV} {h : H} (hg : f5 (r5 c k n) 0 (finit args) h) : SW Go.Proofs.Tryd.prog G (.func 5) args h k :=
  fn_ok mixed envOk hc q5 Go.Proofs.Tryd.func5 rfl (by kernel_rfl) (by kernel_rfl) k u5 (fun n => f5 (r5 c k n))
    (fun L f h hl => by
      match L, hl with
      | 0, hl => obtain ⟨_, _, hl0⟩ := asI_inv (show _ from hl); exact hl0
      | 1, hl => obtain ⟨_, _, hl0⟩ := asI_inv (show _ from hl); obtain ⟨_, _, _, hl1⟩ := asS_inv (show _ from hl0); obtain ⟨_, _, hl2⟩ := asI_inv (show _ from hl1); exact hl2
      | 2, hl => obtain ⟨_, _, hl0⟩ := asI_inv (show _ from hl); obtain ⟨_, _, _, hl1⟩ := asS_inv (show _ from hl0); obtain ⟨_, _, hl2⟩ := asI_inv (show _ from hl1); exact hl2
      | _ + 3, hl => exact hl)
    (fun n p L hm f h hl => by
      simp only [u5, List.mem_cons, Prod.mk.injEq, List.not_mem_nil, or_false] at hm
      rcases hm with ⟨rfl, rfl⟩ | ⟨rfl, rfl⟩ | ⟨rfl, rfl⟩
      · have hl : f5 (r5 c k (n + 1)) 0 f h := hl
        obtain ⟨n_1, e_1, hl1⟩ := asI_inv hl
        have hh := e5_0 c k (r5 c k n) f h (f 0) n_1
        rw [fset_self (rfl : f 0 = f 0)] at hh
        rw [fset_self e_1] at hh
        exact Eq.mpr hh hl1
      · have hl : f5 (r5 c k (n + 1)) 1 f h := hl
        obtain ⟨n_1, e_1, hl1⟩ := asI_inv hl
        obtain ⟨l_5, c_5, e_5, hl2⟩ := asS_inv hl1
        obtain ⟨n_6, e_6, hl3⟩ := asI_inv hl2
        have hh := e5_1 c k (r5 c k n) f h (f 0) n_1 l_5 c_5 n_6
        rw [fset_self (rfl : f 0 = f 0)] at hh
        rw [fset_self e_1] at hh
        rw [fset_self e_5] at hh
        rw [fset_self e_6] at hh
        exact Eq.mpr hh hl3
      · have hl : f5 (r5 c k (n + 1)) 2 f h := hl
        obtain ⟨n_1, e_1, hl1⟩ := asI_inv hl
        obtain ⟨l_5, c_5, e_5, hl2⟩ := asS_inv hl1
        obtain ⟨n_6, e_6, hl3⟩ := asI_inv hl2
        have hh := e5_2 c k (r5 c k n) f h (f 0) n_1 l_5 c_5 n_6
        rw [fset_self (rfl : f 0 = f 0)] at hh
        rw [fset_self e_1] at hh
        rw [fset_self e_5] at hh
        rw [fset_self e_6] at hh
        exact Eq.mpr hh hl3
    ) (by simp [u5]) hg

theorem e8_0 (c : Caller Prop FT) (k : KV) (J : J8) (f : FT) (h : H) : chunkA env c q8 u8 (f8 J) d8 (retA env Go.Proofs.Tryd.f8.results.toList k) .root f h = s8_0 c k J  h := by kernel_rfl
theorem w8 {c : Caller Prop FT} (hc : CallOk Go.Proofs.Tryd.prog (CP env) G (fun p => p) c) {k : KV} {n : Nat} {args : List AV} {h : H} (hg : f8 (r8 c k n) 0 (finit args) h) : SW Go.Proofs.Tryd.prog G (.func 8) args h k :=
  fn_ok mixed envOk hc q8 Go.Proofs.Tryd.func8 rfl (by kernel_rfl) (by kernel_rfl) k u8 (fun n => f8 (r8 c k n))
    (fun L f h hl => by
      match L, hl with
      | 0, hl => exact hl
      | _ + 1, hl => exact hl)
    (fun n p L hm f h hl => by
      simp only [u8, List.mem_cons, Prod.mk.injEq, List.not_mem_nil, or_false] at hm
      rcases hm with ⟨rfl, rfl⟩
      · have hl : f8 (r8 c k (n + 1)) 0 f h := hl
        have hh := e8_0 c k (r8 c k n) f h 
        exact Eq.mpr hh hl
    ) (by simp [u8]) hg

theorem e13_0 (c : Caller Prop FT) (k : KV) (J : J13) (f : FT) (h : H) (l_0 : Nat) (c_0 : Nat) : chunkA env c q13 u13 (f13 J) d13 (retA env Go.Proofs.Tryd.f13.results.toList k) .root (fset f 0 (.str l_0 c_0)) h = s13_0 c k J l_0 c_0 h := by kernel_rfl
theorem e13_1 (c : Caller Prop FT) (k : KV) (J : J13) (f : FT) (h : H) (l_0 : Nat) (c_0 : Nat) (v_4 : AV) (l_5 : Nat) (c_5 : Nat) : chunkA env c q13 u13 (f13 J) d13 (retA env Go.Proofs.Tryd.f13.results.toList k) (.lab (.r .root) 1) (fset (fset (fset f 0 (.str l_0 c_0)) 4 v_4) 5 (.str l_5 c_5)) h = s13_1 c k J l_0 c_0 v_4 l_5 c_5 h := by kernel_rfl
theorem e13_2 (c : Caller Prop FT) (k : KV) (J : J13) (f : FT) (h : H) : chunkA env c q13 u13 (f13 J) d13 (retA env Go.Proofs.Tryd.f13.results.toList k) (.lab (.r .root) 0) f h = s13_2 c k J  h := by kernel_rfl
theorem e13_3 (c : Caller Prop FT) (k : KV) (J : J13) (f : FT) (h : H) (l_0 : Nat) (c_0 : Nat) (v_4 : AV) (l_5 : Nat) (c_5 : Nat) (n_8 : Int) (n_9 : Int) : chunkA env c q13 u13 (f13 J) d13 (retA env Go.Proofs.Tryd.f13.results.toList k) (.r (.l (.r (.r (.r (.r (.r (.r (.r (.l (.r .root))))))))))) (fset (fset (fset (fset (fset f 0 (.str l_0 c_0)) 4 v_4) 5 (.str l_5 c_5)) 8 (.int .u8 n_8)) 9 (.int .i64 n_9)) h = s13_3 c k J l_0 c_0 v_4 l_5 c_5 n_8 n_9 h := by kernel_rfl
theorem w13 {c : Caller Prop FT} (hc : CallOk Go.Proofs.Tryd.prog (CP env) G (fun p => p) c) {k : KV} {n : Nat} {args : List AV} {h : H} (hg : f13 (r13 c k n) 0 (finit args) h) : SW Go.Proofs.Tryd.prog G (.func 13) args h k :=
  fn_ok mixed envOk hc q13 Go.Proofs.Tryd.func13 rfl (by kernel_rfl) (by kernel_rfl) k u13 (fun n => f13 (r13 c k n))
    (fun L f h hl => by
      match L, hl with
      | 0, hl => obtain ⟨_, _, _, hl0⟩ := asS_inv (show _ from hl); exact hl0
      | 1, hl => obtain ⟨_, _, _, hl0⟩ := asS_inv (show _ from hl); obtain ⟨_, _, _, hl1⟩ := asS_inv (show _ from hl0); exact hl1
      | 2, hl => exact hl
      | 3, hl => obtain ⟨_, _, _, hl0⟩ := asS_inv (show _ from hl); obtain ⟨_, _, _, hl1⟩ := asS_inv (show _ from hl0); obtain ⟨_, _, hl2⟩ := asI_inv (show _ from hl1); obtain ⟨_, _, hl3⟩ := asI_inv (show _ from hl2); exact hl3
      | _ + 4, hl => exact hl)
    (fun n p L hm f h hl => by
      simp only [u13, List.mem_cons, Prod.mk.injEq, List.not_mem_nil, or_false] at hm
      rcases hm with ⟨rfl, rfl⟩ | ⟨rfl, rfl⟩ | ⟨rfl, rfl⟩ | ⟨rfl, rfl⟩
      · have hl : f13 (r13 c k (n + 1)) 0 f h := hl
        obtain ⟨l_0, c_0, e_0, hl0⟩ := asS_inv hl
        have hh := e13_0 c k (r13 c k n) f h l_0 c_0
        rw [fset_self e_0] at hh
        exact Eq.mpr hh hl0
      · have hl : f13 (r13 c k (n + 1)) 1 f h := hl
        obtain ⟨l_0, c_0, e_0, hl0⟩ := asS_inv hl
        obtain ⟨l_5, c_5, e_5, hl2⟩ := asS_inv hl0
        have hh := e13_1 c k (r13 c k n) f h l_0 c_0 (f 4) l_5 c_5
        rw [fset_self e_0] at hh
        rw [fset_self (rfl : f 4 = f 4)] at hh
        rw [fset_self e_5] at hh
        exact Eq.mpr hh hl2
      · have hl : f13 (r13 c k (n + 1)) 2 f h := hl
        have hh := e13_2 c k (r13 c k n) f h 
        exact Eq.mpr hh hl
      · have hl : f13 (r13 c k (n + 1)) 3 f h := hl
        obtain ⟨l_0, c_0, e_0, hl0⟩ := asS_inv hl
        obtain ⟨l_5, c_5, e_5, hl2⟩ := asS_inv hl0
        obtain ⟨n_8, e_8, hl3⟩ := asI_inv hl2
        obtain ⟨n_9, e_9, hl4⟩ := asI_inv hl3
        have hh := e13_3 c k (r13 c k n) f h l_0 c_0 (f 4) l_5 c_5 n_8 n_9
        rw [fset_self e_0] at hh
        rw [fset_self (rfl : f 4 = f 4)] at hh
        rw [fset_self e_5] at hh
        rw [fset_self e_8] at hh
        rw [fset_self e_9] at hh
        exact Eq.mpr hh hl4
    ) (by simp [u13]) hg

theorem e15_0 (c : Caller Prop FT) (k : KV) (J : J15) (f : FT) (h : H) (v_0 : AV) (v_1 : AV) : chunkA env c q15 u15 (f15 J) d15 (retA env Go.Proofs.Tryd.f15.results.toList k) .root (fset (fset f 0 v_0) 1 v_1) h = s15_0 c k J v_0 v_1 h := by kernel_rfl
theorem w15 {c : Caller Prop FT} (hc : CallOk Go.Proofs.Tryd.prog (CP env) G (fun p => p) c) {k : KV} {n : Nat} {args : List AV} {h : H} (hg : f15 (r15 c k n) 0 (finit args) h) : SW Go.Proofs.Tryd.prog G (.func 15) args h k :=
  fn_ok mixed envOk hc q15 Go.Proofs.Tryd.func15 rfl (by kernel_rfl) (by kernel_rfl) k u15 (fun n => f15 (r15 c k n))
    (fun L f h hl => by
      match L, hl with
      | 0, hl => exact hl
      | _ + 1, hl => exact hl)
    (fun n p L hm f h hl => by
      simp only [u15, List.mem_cons, Prod.mk.injEq, List.not_mem_nil, or_false] at hm
      rcases hm with ⟨rfl, rfl⟩
      · have hl : f15 (r15 c k (n + 1)) 0 f h := hl
        have hh := e15_0 c k (r15 c k n) f h (f 0) (f 1)
        rw [fset_self (rfl : f 0 = f 0)] at hh
        rw [fset_self (rfl : f 1 = f 1)] at hh
        exact Eq.mpr hh hl
    ) (by simp [u15]) hg

theorem e18_0 (c : Caller Prop FT) (k : KV) (J : J18) (f : FT) (h : H) (n_0 : Int) (n_1 : Int) : chunkA env c q18 u18 (f18 J) d18 (retA env Go.Proofs.Tryd.f18.results.toList k) .root (fset (fset f 0 (.int .i64 n_0)) 1 (.int .i64 n_1)) h = s18_0 c k J n_0 n_1 h := by kernel_rfl
theorem w18 {c : Caller Prop FT} (hc : CallOk Go.Proofs.Tryd.prog (CP env) G (fun p => p) c) {k : KV} {n : Nat} {args : List AV} {h : H} (hg : f18 (r18 c k n) 0 (finit args) h) : SW Go.Proofs.Tryd.prog G (.func 18) args h k :=
  fn_ok mixed envOk hc q18 Go.Proofs.Tryd.func18 rfl (by kernel_rfl) (by kernel_rfl) k u18 (fun n => f18 (r18 c k n))
    (fun L f h hl => by
      match L, hl with
      | 0, hl => obtain ⟨_, _, hl0⟩ := asI_inv (show _ from hl); obtain ⟨_, _, hl1⟩ := asI_inv (show _ from hl0); exact hl1
      | _ + 1, hl => exact hl)
    (fun n p L hm f h hl => by
      simp only [u18, List.mem_cons, Prod.mk.injEq, List.not_mem_nil, or_false] at hm
      rcases hm with ⟨rfl, rfl⟩
      · have hl : f18 (r18 c k (n + 1)) 0 f h := hl
        obtain ⟨n_0, e_0, hl0⟩ := asI_inv hl
        obtain ⟨n_1, e_1, hl1⟩ := asI_inv hl0
        have hh := e18_0 c k (r18 c k n) f h n_0 n_1
        rw [fset_self e_0] at hh
        rw [fset_self e_1] at hh
        exact Eq.mpr hh hl1
    ) (by simp [u18]) hg

theorem e24_0 (c : Caller Prop FT) (k : KV) (J : J24) (f : FT) (h : H) (l_0 : Nat) (c_0 : Nat) (l_1 : Nat) (c_1 : Nat) : chunkA env c q24 u24 (f24 J) d24 (retA env Go.Proofs.Tryd.f24.results.toList k) .root (fset (fset f 0 (.str l_0 c_0)) 1 (.str l_1 c_1)) h = s24_0 c k J l_0 c_0 l_1 c_1 h := by kernel_rfl
theorem w24 {c : Caller Prop FT} (hc : CallOk Go.Proofs.Tryd.prog (CP env) G (fun p => p) c) {k : KV} {n : Nat} {args : List AV} {h : H} (hg : f24 (r24 c k n) 0 (finit args) h) : SW Go.Proofs.Tryd.prog G (.func 24) args h k :=
  fn_ok mixed envOk hc q24 Go.Proofs.Tryd.func24 rfl (by kernel_rfl) (by kernel_rfl) k u24 (fun n => f24 (r24 c k n))
    (fun L f h hl => by
      match L, hl with
      | 0, hl => obtain ⟨_, _, _, hl0⟩ := asS_inv (show _ from hl); obtain ⟨_, _, _, hl1⟩ := asS_inv (show _ from hl0); exact hl1
      | _ + 1, hl => exact hl)
    (fun n p L hm f h hl => by
      simp only [u24, List.mem_cons, Prod.mk.injEq, List.not_mem_nil, or_false] at hm
      rcases hm with ⟨rfl, rfl⟩
      · have hl : f24 (r24 c k (n + 1)) 0 f h := hl
        obtain ⟨l_0, c_0, e_0, hl0⟩ := asS_inv hl
        obtain ⟨l_1, c_1, e_1, hl1⟩ := asS_inv hl0
        have hh := e24_0 c k (r24 c k n) f h l_0 c_0 l_1 c_1
        rw [fset_self e_0] at hh
        rw [fset_self e_1] at hh
        exact Eq.mpr hh hl1
    ) (by simp [u24]) hg

theorem e28_0 (c : Caller Prop FT) (k : KV) (J : J28) (f : FT) (h : H) (l_0 : Nat) (c_0 : Nat) : chunkA env c q28 u28 (f28 J) d28 (retA env Go.Proofs.Tryd.f28.results.toList k) .root (fset f 0 (.str l_0 c_0)) h = s28_0 c k J l_0 c_0 h := by kernel_rfl
theorem e28_1 (c : Caller Prop FT) (k : KV) (J : J28) (f : FT) (h : H) (l_0 : Nat) (c_0 : Nat) (v_4 : AV) (l_5 : Nat) (c_5 : Nat) (n_6 : Int) : chunkA env c q28 u28 (f28 J) d28 (retA env Go.Proofs.Tryd.f28.results.toList k) (.l (.r (.l (.r (.r (.r .root)))))) (fset (fset (fset (fset f 0 (.str l_0 c_0)) 4 v_4) 5 (.str l_5 c_5)) 6 (.int .i64 n_6)) h = s28_1 c k J l_0 c_0 v_4 l_5 c_5 n_6 h := by kernel_rfl
theorem e28_2 (c : Caller Prop FT) (k : KV) (J : J28) (f : FT) (h : H) (l_0 : Nat) (c_0 : Nat) (v_4 : AV) (l_5 : Nat) (c_5 : Nat) (n_6 : Int) (n_7 : Int) : chunkA env c q28 u28 (f28 J) d28 (retA env Go.Proofs.Tryd.f28.results.toList k) (.r (.r (.l (.l (.r (.l (.l (.r (.l (.r (.r (.r .root)))))))))))) (fset (fset (fset (fset (fset f 0 (.str l_0 c_0)) 4 v_4) 5 (.str l_5 c_5)) 6 (.int .i64 n_6)) 7 (.int .u8 n_7)) h = s28_2 c k J l_0 c_0 v_4 l_5 c_5 n_6 n_7 h := by kernel_rfl
theorem e28_3 (c : Caller Prop FT) (k : KV) (J : J28) (f : FT) (h : H) (v_4 : AV) (l_5 : Nat) (c_5 : Nat) (n_8 : Int) : chunkA env c q28 u28 (f28 J) d28 (retA env Go.Proofs.Tryd.f28.results.toList k) (.l (.r (.l (.r (.r (.r (.r .root))))))) (fset (fset (fset f 4 v_4) 5 (.str l_5 c_5)) 8 (.int .i64 n_8)) h = s28_3 c k J v_4 l_5 c_5 n_8 h := by kernel_rfl
theorem w28 {c : Caller Prop FT} (hc : CallOk Go.Proofs.Tryd.prog (CP env) G (fun p => p) c) {k : KV} {n : Nat} {args : List AV} {h : H} (hg : f28 (r28 c k n) 0 (finit args) h) : SW Go.Proofs.Tryd.prog G (.func 28) args h k :=
  fn_ok mixed envOk hc q28 Go.Proofs.Tryd.func28 rfl (by kernel_rfl) (by kernel_rfl) k u28 (fun n => f28 (r28 c k n))
    (fun L f h hl => by
      match L, hl with
      | 0, hl => obtain ⟨_, _, _, hl0⟩ := asS_inv (show _ from hl); exact hl0
      | 1, hl => obtain ⟨_, _, _, hl0⟩ := asS_inv (show _ from hl); obtain ⟨_, _, _, hl1⟩ := asS_inv (show _ from hl0); obtain ⟨_, _, hl2⟩ := asI_inv (show _ from hl1); exact hl2
      | 2, hl => obtain ⟨_, _, _, hl0⟩ := asS_inv (show _ from hl); obtain ⟨_, _, _, hl1⟩ := asS_inv (show _ from hl0); obtain ⟨_, _, hl2⟩ := asI_inv (show _ from hl1); obtain ⟨_, _, hl3⟩ := asI_inv (show _ from hl2); exact hl3
      | 3, hl => obtain ⟨_, _, _, hl0⟩ := asS_inv (show _ from hl); obtain ⟨_, _, hl1⟩ := asI_inv (show _ from hl0); exact hl1
      | _ + 4, hl => exact hl)
    (fun n p L hm f h hl => by
      simp only [u28, List.mem_cons, Prod.mk.injEq, List.not_mem_nil, or_false] at hm
      rcases hm with ⟨rfl, rfl⟩ | ⟨rfl, rfl⟩ | ⟨rfl, rfl⟩ | ⟨rfl, rfl⟩
      · have hl : f28 (r28 c k (n + 1)) 0 f h := hl
        obtain ⟨l_0, c_0, e_0, hl0⟩ := asS_inv hl
        have hh := e28_0 c k (r28 c k n) f h l_0 c_0
        rw [fset_self e_0] at hh
        exact Eq.mpr hh hl0
      · have hl : f28 (r28 c k (n + 1)) 1 f h := hl
        obtain ⟨l_0, c_0, e_0, hl0⟩ := asS_inv hl
        obtain ⟨l_5, c_5, e_5, hl2⟩ := asS_inv hl0
        obtain ⟨n_6, e_6, hl3⟩ := asI_inv hl2
        have hh := e28_1 c k (r28 c k n) f h l_0 c_0 (f 4) l_5 c_5 n_6
        rw [fset_self e_0] at hh
        rw [fset_self (rfl : f 4 = f 4)] at hh
        rw [fset_self e_5] at hh
        rw [fset_self e_6] at hh
        exact Eq.mpr hh hl3
      · have hl : f28 (r28 c k (n + 1)) 2 f h := hl
        obtain ⟨l_0, c_0, e_0, hl0⟩ := asS_inv hl
        obtain ⟨l_5, c_5, e_5, hl2⟩ := asS_inv hl0
        obtain ⟨n_6, e_6, hl3⟩ := asI_inv hl2
        obtain ⟨n_7, e_7, hl4⟩ := asI_inv hl3
        have hh := e28_2 c k (r28 c k n) f h l_0 c_0 (f 4) l_5 c_5 n_6 n_7
        rw [fset_self e_0] at hh
        rw [fset_self (rfl : f 4 = f 4)] at hh
        rw [fset_self e_5] at hh
        rw [fset_self e_6] at hh
        rw [fset_self e_7] at hh
        exact Eq.mpr hh hl4
      · have hl : f28 (r28 c k (n + 1)) 3 f h := hl
        obtain ⟨l_5, c_5, e_5, hl1⟩ := asS_inv hl
        obtain ⟨n_8, e_8, hl2⟩ := asI_inv hl1
        have hh := e28_3 c k (r28 c k n) f h (f 4) l_5 c_5 n_8
        rw [fset_self (rfl : f 4 = f 4)] at hh
        rw [fset_self e_5] at hh
        rw [fset_self e_8] at hh
        exact Eq.mpr hh hl2
    ) (by simp [u28]) hg

theorem e33_0 (c : Caller Prop FT) (k : KV) (J : J33) (f : FT) (h : H) (l_0 : Nat) (c_0 : Nat) : chunkA env c q33 u33 (f33 J) d33 (retA env Go.Proofs.Tryd.f33.results.toList k) .root (fset f 0 (.str l_0 c_0)) h = s33_0 c k J l_0 c_0 h := by kernel_rfl
theorem e33_1 (c : Caller Prop FT) (k : KV) (J : J33) (f : FT) (h : H) (n_5 : Int) (n_6 : Int) (n_8 : Int) (v_38 : AV) : chunkA env c q33 u33 (f33 J) d33 (retA env Go.Proofs.Tryd.f33.results.toList k) (.l (.r (.l (.r (.r (.r (.r (.r (.r (.r .root)))))))))) (fset (fset (fset (fset f 5 (.int .i64 n_5)) 6 (.int .i64 n_6)) 8 (.int .i64 n_8)) 38 v_38) h = s33_1 c k J n_5 n_6 n_8 v_38 h := by kernel_rfl
theorem e33_2 (c : Caller Prop FT) (k : KV) (J : J33) (f : FT) (h : H) (l_0 : Nat) (c_0 : Nat) (n_5 : Int) (n_6 : Int) (n_7 : Int) : chunkA env c q33 u33 (f33 J) d33 (retA env Go.Proofs.Tryd.f33.results.toList k) (.r (.r (.r (.r (.r .root))))) (fset (fset (fset (fset f 0 (.str l_0 c_0)) 5 (.int .i64 n_5)) 6 (.int .i64 n_6)) 7 (.int .i64 n_7)) h = s33_2 c k J l_0 c_0 n_5 n_6 n_7 h := by kernel_rfl
theorem w33 {c : Caller Prop FT} (hc : CallOk Go.Proofs.Tryd.prog (CP env) G (fun p => p) c) {k : KV} {n : Nat} {args : List AV} {h : H} (hg : f33 (r33 c k n) 0 (finit args) h) : SW Go.Proofs.Tryd.prog G (.func 33) args h k :=
  fn_ok mixed envOk hc q33 Go.Proofs.Tryd.func33 rfl (by kernel_rfl) (by kernel_rfl) k u33 (fun n => f33 (r33 c k n))
    (fun L f h hl => by
      match L, hl with
      | 0, hl => obtain ⟨_, _, _, hl0⟩ := asS_inv (show _ from hl); exact hl0
      | 1, hl => obtain ⟨_, _, hl0⟩ := asI_inv (show _ from hl); obtain ⟨_, _, hl1⟩ := asI_inv (show _ from hl0); obtain ⟨_, _, hl2⟩ := asI_inv (show _ from hl1); exact hl2
      | 2, hl => obtain ⟨_, _, _, hl0⟩ := asS_inv (show _ from hl); obtain ⟨_, _, hl1⟩ := asI_inv (show _ from hl0); obtain ⟨_, _, hl2⟩ := asI_inv (show _ from hl1); obtain ⟨_, _, hl3⟩ := asI_inv (show _ from hl2); exact hl3
      | _ + 3, hl => exact hl)
    (fun n p L hm f h hl => by
      simp only [u33, List.mem_cons, Prod.mk.injEq, List.not_mem_nil, or_false] at hm
      rcases hm with ⟨rfl, rfl⟩ | ⟨rfl, rfl⟩ | ⟨rfl, rfl⟩
      · have hl : f33 (r33 c k (n + 1)) 0 f h := hl
        obtain ⟨l_0, c_0, e_0, hl0⟩ := asS_inv hl
        have hh := e33_0 c k (r33 c k n) f h l_0 c_0
        rw [fset_self e_0] at hh
        exact Eq.mpr hh hl0
      · have hl : f33 (r33 c k (n + 1)) 1 f h := hl
        obtain ⟨n_5, e_5, hl0⟩ := asI_inv hl
        obtain ⟨n_6, e_6, hl1⟩ := asI_inv hl0
        obtain ⟨n_8, e_8, hl2⟩ := asI_inv hl1
        have hh := e33_1 c k (r33 c k n) f h n_5 n_6 n_8 (f 38)
        rw [fset_self e_5] at hh
        rw [fset_self e_6] at hh
        rw [fset_self e_8] at hh
        rw [fset_self (rfl : f 38 = f 38)] at hh
        exact Eq.mpr hh hl2
      · have hl : f33 (r33 c k (n + 1)) 2 f h := hl
        obtain ⟨l_0, c_0, e_0, hl0⟩ := asS_inv hl
        obtain ⟨n_5, e_5, hl1⟩ := asI_inv hl0
        obtain ⟨n_6, e_6, hl2⟩ := asI_inv hl1
        obtain ⟨n_7, e_7, hl3⟩ := asI_inv hl2
        have hh := e33_2 c k (r33 c k n) f h l_0 c_0 n_5 n_6 n_7
        rw [fset_self e_0] at hh
        rw [fset_self e_5] at hh
        rw [fset_self e_6] at hh
        rw [fset_self e_7] at hh
        exact Eq.mpr hh hl3
    ) (by simp [u33]) hg

theorem e35_0 (c : Caller Prop FT) (k : KV) (J : J35) (f : FT) (h : H) (l_0 : Nat) (c_0 : Nat) (l_1 : Nat) (c_1 : Nat) : chunkA env c q35 u35 (f35 J) d35 (retA env Go.Proofs.Tryd.f35.results.toList k) .root (fset (fset f 0 (.str l_0 c_0)) 1 (.str l_1 c_1)) h = s35_0 c k J l_0 c_0 l_1 c_1 h := by kernel_rfl
theorem e35_1 (c : Caller Prop FT) (k : KV) (J : J35) (f : FT) (h : H) (l_0 : Nat) (c_0 : Nat) (l_6 : Nat) (c_6 : Nat) : chunkA env c q35 u35 (f35 J) d35 (retA env Go.Proofs.Tryd.f35.results.toList k) (.r (.r (.r (.r .root)))) (fset (fset f 0 (.str l_0 c_0)) 6 (.str l_6 c_6)) h = s35_1 c k J l_0 c_0 l_6 c_6 h := by kernel_rfl
theorem w35 {c : Caller Prop FT} (hc : CallOk Go.Proofs.Tryd.prog (CP env) G (fun p => p) c) {k : KV} {n : Nat} {args : List AV} {h : H} (hg : f35 (r35 c k n) 0 (finit args) h) : SW Go.Proofs.Tryd.prog G (.func 35) args h k :=
  fn_ok mixed envOk hc q35 Go.Proofs.Tryd.func35 rfl (by kernel_rfl) (by kernel_rfl) k u35 (fun n => f35 (r35 c k n))
    (fun L f h hl => by
      match L, hl with
      | 0, hl => obtain ⟨_, _, _, hl0⟩ := asS_inv (show _ from hl); obtain ⟨_, _, _, hl1⟩ := asS_inv (show _ from hl0); exact hl1
      | 1, hl => obtain ⟨_, _, _, hl0⟩ := asS_inv (show _ from hl); obtain ⟨_, _, _, hl1⟩ := asS_inv (show _ from hl0); exact hl1
      | _ + 2, hl => exact hl)
    (fun n p L hm f h hl => by
      simp only [u35, List.mem_cons, Prod.mk.injEq, List.not_mem_nil, or_false] at hm
      rcases hm with ⟨rfl, rfl⟩ | ⟨rfl, rfl⟩
      · have hl : f35 (r35 c k (n + 1)) 0 f h := hl
        obtain ⟨l_0, c_0, e_0, hl0⟩ := asS_inv hl
        obtain ⟨l_1, c_1, e_1, hl1⟩ := asS_inv hl0
        have hh := e35_0 c k (r35 c k n) f h l_0 c_0 l_1 c_1
        rw [fset_self e_0] at hh
        rw [fset_self e_1] at hh
        exact Eq.mpr hh hl1
      · have hl : f35 (r35 c k (n + 1)) 1 f h := hl
        obtain ⟨l_0, c_0, e_0, hl0⟩ := asS_inv hl
        obtain ⟨l_6, c_6, e_6, hl1⟩ := asS_inv hl0
        have hh := e35_1 c k (r35 c k n) f h l_0 c_0 l_6 c_6
        rw [fset_self e_0] at hh
        rw [fset_self e_6] at hh
        exact Eq.mpr hh hl1
    ) (by simp [u35]) hg

theorem e39_0 (c : Caller Prop FT) (k : KV) (J : J39) (f : FT) (h : H) (l_0 : Nat) (c_0 : Nat) (v_1 : AV) : chunkA env c q39 u39 (f39 J) d39 (retA env Go.Proofs.Tryd.f39.results.toList k) .root (fset (fset f 0 (.str l_0 c_0)) 1 v_1) h = s39_0 c k J l_0 c_0 v_1 h := by kernel_rfl
theorem e39_1 (c : Caller Prop FT) (k : KV) (J : J39) (f : FT) (h : H) (l_0 : Nat) (c_0 : Nat) (v_1 : AV) : chunkA env c q39 u39 (f39 J) d39 (retA env Go.Proofs.Tryd.f39.results.toList k) (.l (.l (.r .root))) (fset (fset f 0 (.str l_0 c_0)) 1 v_1) h = s39_1 c k J l_0 c_0 v_1 h := by kernel_rfl
theorem w39 {c : Caller Prop FT} (hc : CallOk Go.Proofs.Tryd.prog (CP env) G (fun p => p) c) {k : KV} {n : Nat} {args : List AV} {h : H} (hg : f39 (r39 c k n) 0 (finit args) h) : SW Go.Proofs.Tryd.prog G (.func 39) args h k :=
  fn_ok mixed envOk hc q39 Go.Proofs.Tryd.func39 rfl (by kernel_rfl) (by kernel_rfl) k u39 (fun n => f39 (r39 c k n))
    (fun L f h hl => by
      match L, hl with
      | 0, hl => obtain ⟨_, _, _, hl0⟩ := asS_inv (show _ from hl); exact hl0
      | 1, hl => obtain ⟨_, _, _, hl0⟩ := asS_inv (show _ from hl); exact hl0
      | _ + 2, hl => exact hl)
    (fun n p L hm f h hl => by
      simp only [u39, List.mem_cons, Prod.mk.injEq, List.not_mem_nil, or_false] at hm
      rcases hm with ⟨rfl, rfl⟩ | ⟨rfl, rfl⟩
      · have hl : f39 (r39 c k (n + 1)) 0 f h := hl
        obtain ⟨l_0, c_0, e_0, hl0⟩ := asS_inv hl
        have hh := e39_0 c k (r39 c k n) f h l_0 c_0 (f 1)
        rw [fset_self e_0] at hh
        rw [fset_self (rfl : f 1 = f 1)] at hh
        exact Eq.mpr hh hl0
      · have hl : f39 (r39 c k (n + 1)) 1 f h := hl
        obtain ⟨l_0, c_0, e_0, hl0⟩ := asS_inv hl
        have hh := e39_1 c k (r39 c k n) f h l_0 c_0 (f 1)
        rw [fset_self e_0] at hh
        rw [fset_self (rfl : f 1 = f 1)] at hh
        exact Eq.mpr hh hl0
    ) (by simp [u39]) hg

theorem e43_0 (c : Caller Prop FT) (k : KV) (J : J43) (f : FT) (h : H) (l_0 : Nat) (c_0 : Nat) (n_1 : Int) (n_2 : Int) : chunkA env c q43 u43 (f43 J) d43 (retA env Go.Proofs.Tryd.f43.results.toList k) .root (fset (fset (fset f 0 (.str l_0 c_0)) 1 (.int .i64 n_1)) 2 (.int .i64 n_2)) h = s43_0 c k J l_0 c_0 n_1 n_2 h := by kernel_rfl
theorem e43_1 (c : Caller Prop FT) (k : KV) (J : J43) (f : FT) (h : H) (n_1 : Int) (b_8 : Bool) (l_9 : Nat) (c_9 : Nat) (n_10 : Int) (n_11 : Int) (b_12 : Bool) (n_13 : Int) (v_99 : AV) (n_100 : Int) (n_101 : Int) : chunkA env c q43 u43 (f43 J) d43 (retA env Go.Proofs.Tryd.f43.results.toList k) (.l (.r (.l (.r (.r (.r (.r (.r (.r (.r (.r (.r (.r (.r .root)))))))))))))) (fset (fset (fset (fset (fset (fset (fset (fset (fset (fset f 1 (.int .i64 n_1)) 8 (.bool b_8)) 9 (.str l_9 c_9)) 10 (.int .u64 n_10)) 11 (.int .u64 n_11)) 12 (.bool b_12)) 13 (.int .u64 n_13)) 99 v_99) 100 (.int .i64 n_100)) 101 (.int .i64 n_101)) h = s43_1 c k J n_1 b_8 l_9 c_9 n_10 n_11 b_12 n_13 v_99 n_100 n_101 h := by kernel_rfl
theorem e43_2 (c : Caller Prop FT) (k : KV) (J : J43) (f : FT) (h : H) (n_1 : Int) (b_8 : Bool) (l_9 : Nat) (c_9 : Nat) (n_10 : Int) (n_11 : Int) (b_12 : Bool) (n_13 : Int) (n_16 : Int) (v_99 : AV) (n_100 : Int) (n_101 : Int) : chunkA env c q43 u43 (f43 J) d43 (retA env Go.Proofs.Tryd.f43.results.toList k) (.r (.r (.r (.l (.l (.r (.r (.l (.l (.r (.l (.r (.r (.r (.r (.r (.r (.r (.r (.r (.r (.r .root)))))))))))))))))))))) (fset (fset (fset (fset (fset (fset (fset (fset (fset (fset (fset f 1 (.int .i64 n_1)) 8 (.bool b_8)) 9 (.str l_9 c_9)) 10 (.int .u64 n_10)) 11 (.int .u64 n_11)) 12 (.bool b_12)) 13 (.int .u64 n_13)) 16 (.int .u8 n_16)) 99 v_99) 100 (.int .i64 n_100)) 101 (.int .i64 n_101)) h = s43_2 c k J n_1 b_8 l_9 c_9 n_10 n_11 b_12 n_13 n_16 v_99 n_100 n_101 h := by kernel_rfl
theorem e43_3 (c : Caller Prop FT) (k : KV) (J : J43) (f : FT) (h : H) (l_0 : Nat) (c_0 : Nat) (n_1 : Int) (n_2 : Int) (b_8 : Bool) (l_9 : Nat) (c_9 : Nat) (n_10 : Int) : chunkA env c q43 u43 (f43 J) d43 (retA env Go.Proofs.Tryd.f43.results.toList k) (.r (.r (.r (.r (.r (.r (.r (.r .root)))))))) (fset (fset (fset (fset (fset (fset f 0 (.str l_0 c_0)) 1 (.int .i64 n_1)) 2 (.int .i64 n_2)) 8 (.bool b_8)) 9 (.str l_9 c_9)) 10 (.int .u64 n_10)) h = s43_3 c k J l_0 c_0 n_1 n_2 b_8 l_9 c_9 n_10 h := by kernel_rfl
theorem e43_4 (c : Caller Prop FT) (k : KV) (J : J43) (f : FT) (h : H) (l_0 : Nat) (c_0 : Nat) (n_1 : Int) (n_2 : Int) (b_8 : Bool) (l_9 : Nat) (c_9 : Nat) : chunkA env c q43 u43 (f43 J) d43 (retA env Go.Proofs.Tryd.f43.results.toList k) (.r (.r (.r (.r (.r (.r .root)))))) (fset (fset (fset (fset (fset f 0 (.str l_0 c_0)) 1 (.int .i64 n_1)) 2 (.int .i64 n_2)) 8 (.bool b_8)) 9 (.str l_9 c_9)) h = s43_4 c k J l_0 c_0 n_1 n_2 b_8 l_9 c_9 h := by kernel_rfl
theorem e43_5 (c : Caller Prop FT) (k : KV) (J : J43) (f : FT) (h : H) (l_0 : Nat) (c_0 : Nat) (n_1 : Int) (n_2 : Int) (b_8 : Bool) (l_9 : Nat) (c_9 : Nat) : chunkA env c q43 u43 (f43 J) d43 (retA env Go.Proofs.Tryd.f43.results.toList k) (.r (.r (.r (.r (.r .root))))) (fset (fset (fset (fset (fset f 0 (.str l_0 c_0)) 1 (.int .i64 n_1)) 2 (.int .i64 n_2)) 8 (.bool b_8)) 9 (.str l_9 c_9)) h = s43_5 c k J l_0 c_0 n_1 n_2 b_8 l_9 c_9 h := by kernel_rfl
theorem w43 {c : Caller Prop FT} (hc : CallOk Go.Proofs.Tryd.prog (CP env) G (fun p => p) c) {k : KV} {n : Nat} {args : List AV} {h : H} (hg : f43 (r43 c k n) 0 (finit args) h) : SW Go.Proofs.Tryd.prog G (.func 43) args h k :=
  fn_ok mixed envOk hc q43 Go.Proofs.Tryd.func43 rfl (by kernel_rfl) (by kernel_rfl) k u43 (fun n => f43 (r43 c k n))
    (fun L f h hl => by
      match L, hl with
      | 0, hl => obtain ⟨_, _, _, hl0⟩ := asS_inv (show _ from hl); obtain ⟨_, _, hl1⟩ := asI_inv (show _ from hl0); obtain ⟨_, _, hl2⟩ := asI_inv (show _ from hl1); exact hl2
      | 1, hl => obtain ⟨_, _, hl0⟩ := asI_inv (show _ from hl); obtain ⟨_, _, hl1⟩ := asB_inv (show _ from hl0); obtain ⟨_, _, _, hl2⟩ := asS_inv (show _ from hl1); obtain ⟨_, _, hl3⟩ := asI_inv (show _ from hl2); obtain ⟨_, _, hl4⟩ := asI_inv (show _ from hl3); obtain ⟨_, _, hl5⟩ := asB_inv (show _ from hl4); obtain ⟨_, _, hl6⟩ := asI_inv (show _ from hl5); obtain ⟨_, _, hl7⟩ := asI_inv (show _ from hl6); obtain ⟨_, _, hl8⟩ := asI_inv (show _ from hl7); exact hl8
      | 2, hl => obtain ⟨_, _, hl0⟩ := asI_inv (show _ from hl); obtain ⟨_, _, hl1⟩ := asB_inv (show _ from hl0); obtain ⟨_, _, _, hl2⟩ := asS_inv (show _ from hl1); obtain ⟨_, _, hl3⟩ := asI_inv (show _ from hl2); obtain ⟨_, _, hl4⟩ := asI_inv (show _ from hl3); obtain ⟨_, _, hl5⟩ := asB_inv (show _ from hl4); obtain ⟨_, _, hl6⟩ := asI_inv (show _ from hl5); obtain ⟨_, _, hl7⟩ := asI_inv (show _ from hl6); obtain ⟨_, _, hl8⟩ := asI_inv (show _ from hl7); obtain ⟨_, _, hl9⟩ := asI_inv (show _ from hl8); exact hl9
      | 3, hl => obtain ⟨_, _, _, hl0⟩ := asS_inv (show _ from hl); obtain ⟨_, _, hl1⟩ := asI_inv (show _ from hl0); obtain ⟨_, _, hl2⟩ := asI_inv (show _ from hl1); obtain ⟨_, _, hl3⟩ := asB_inv (show _ from hl2); obtain ⟨_, _, _, hl4⟩ := asS_inv (show _ from hl3); obtain ⟨_, _, hl5⟩ := asI_inv (show _ from hl4); exact hl5
      | 4, hl => obtain ⟨_, _, _, hl0⟩ := asS_inv (show _ from hl); obtain ⟨_, _, hl1⟩ := asI_inv (show _ from hl0); obtain ⟨_, _, hl2⟩ := asI_inv (show _ from hl1); obtain ⟨_, _, hl3⟩ := asB_inv (show _ from hl2); obtain ⟨_, _, _, hl4⟩ := asS_inv (show _ from hl3); exact hl4
      | 5, hl => obtain ⟨_, _, _, hl0⟩ := asS_inv (show _ from hl); obtain ⟨_, _, hl1⟩ := asI_inv (show _ from hl0); obtain ⟨_, _, hl2⟩ := asI_inv (show _ from hl1); obtain ⟨_, _, hl3⟩ := asB_inv (show _ from hl2); obtain ⟨_, _, _, hl4⟩ := asS_inv (show _ from hl3); exact hl4
      | _ + 6, hl => exact hl)
    (fun n p L hm f h hl => by
      simp only [u43, List.mem_cons, Prod.mk.injEq, List.not_mem_nil, or_false] at hm
      rcases hm with ⟨rfl, rfl⟩ | ⟨rfl, rfl⟩ | ⟨rfl, rfl⟩ | ⟨rfl, rfl⟩ | ⟨rfl, rfl⟩ | ⟨rfl, rfl⟩
      · have hl : f43 (r43 c k (n + 1)) 0 f h := hl
        obtain ⟨l_0, c_0, e_0, hl0⟩ := asS_inv hl
        obtain ⟨n_1, e_1, hl1⟩ := asI_inv hl0
        obtain ⟨n_2, e_2, hl2⟩ := asI_inv hl1
        have hh := e43_0 c k (r43 c k n) f h l_0 c_0 n_1 n_2
        rw [fset_self e_0] at hh
        rw [fset_self e_1] at hh
        rw [fset_self e_2] at hh
        exact Eq.mpr hh hl2
      · have hl : f43 (r43 c k (n + 1)) 1 f h := hl
        obtain ⟨n_1, e_1, hl0⟩ := asI_inv hl
        obtain ⟨b_8, e_8, hl1⟩ := asB_inv hl0
        obtain ⟨l_9, c_9, e_9, hl2⟩ := asS_inv hl1
        obtain ⟨n_10, e_10, hl3⟩ := asI_inv hl2
        obtain ⟨n_11, e_11, hl4⟩ := asI_inv hl3
        obtain ⟨b_12, e_12, hl5⟩ := asB_inv hl4
        obtain ⟨n_13, e_13, hl6⟩ := asI_inv hl5
        obtain ⟨n_100, e_100, hl8⟩ := asI_inv hl6
        obtain ⟨n_101, e_101, hl9⟩ := asI_inv hl8
        have hh := e43_1 c k (r43 c k n) f h n_1 b_8 l_9 c_9 n_10 n_11 b_12 n_13 (f 99) n_100 n_101
        rw [fset_self e_1] at hh
        rw [fset_self e_8] at hh
        rw [fset_self e_9] at hh
        rw [fset_self e_10] at hh
        rw [fset_self e_11] at hh
        rw [fset_self e_12] at hh
        rw [fset_self e_13] at hh
        rw [fset_self (rfl : f 99 = f 99)] at hh
        rw [fset_self e_100] at hh
        rw [fset_self e_101] at hh
        exact Eq.mpr hh hl9
      · have hl : f43 (r43 c k (n + 1)) 2 f h := hl
        obtain ⟨n_1, e_1, hl0⟩ := asI_inv hl
        obtain ⟨b_8, e_8, hl1⟩ := asB_inv hl0
        obtain ⟨l_9, c_9, e_9, hl2⟩ := asS_inv hl1
        obtain ⟨n_10, e_10, hl3⟩ := asI_inv hl2
        obtain ⟨n_11, e_11, hl4⟩ := asI_inv hl3
        obtain ⟨b_12, e_12, hl5⟩ := asB_inv hl4
        obtain ⟨n_13, e_13, hl6⟩ := asI_inv hl5
        obtain ⟨n_16, e_16, hl7⟩ := asI_inv hl6
        obtain ⟨n_100, e_100, hl9⟩ := asI_inv hl7
        obtain ⟨n_101, e_101, hl10⟩ := asI_inv hl9
        have hh := e43_2 c k (r43 c k n) f h n_1 b_8 l_9 c_9 n_10 n_11 b_12 n_13 n_16 (f 99) n_100 n_101
        rw [fset_self e_1] at hh
        rw [fset_self e_8] at hh
        rw [fset_self e_9] at hh
        rw [fset_self e_10] at hh
        rw [fset_self e_11] at hh
        rw [fset_self e_12] at hh
        rw [fset_self e_13] at hh
        rw [fset_self e_16] at hh
        rw [fset_self (rfl : f 99 = f 99)] at hh
        rw [fset_self e_100] at hh
        rw [fset_self e_101] at hh
        exact Eq.mpr hh hl10
      · have hl : f43 (r43 c k (n + 1)) 3 f h := hl
        obtain ⟨l_0, c_0, e_0, hl0⟩ := asS_inv hl
        obtain ⟨n_1, e_1, hl1⟩ := asI_inv hl0
        obtain ⟨n_2, e_2, hl2⟩ := asI_inv hl1
        obtain ⟨b_8, e_8, hl3⟩ := asB_inv hl2
        obtain ⟨l_9, c_9, e_9, hl4⟩ := asS_inv hl3
        obtain ⟨n_10, e_10, hl5⟩ := asI_inv hl4
        have hh := e43_3 c k (r43 c k n) f h l_0 c_0 n_1 n_2 b_8 l_9 c_9 n_10
        rw [fset_self e_0] at hh
        rw [fset_self e_1] at hh
        rw [fset_self e_2] at hh
        rw [fset_self e_8] at hh
        rw [fset_self e_9] at hh
        rw [fset_self e_10] at hh
        exact Eq.mpr hh hl5
      · have hl : f43 (r43 c k (n + 1)) 4 f h := hl
        obtain ⟨l_0, c_0, e_0, hl0⟩ := asS_inv hl
        obtain ⟨n_1, e_1, hl1⟩ := asI_inv hl0
        obtain ⟨n_2, e_2, hl2⟩ := asI_inv hl1
        obtain ⟨b_8, e_8, hl3⟩ := asB_inv hl2
        obtain ⟨l_9, c_9, e_9, hl4⟩ := asS_inv hl3
        have hh := e43_4 c k (r43 c k n) f h l_0 c_0 n_1 n_2 b_8 l_9 c_9
        rw [fset_self e_0] at hh
        rw [fset_self e_1] at hh
        rw [fset_self e_2] at hh
        rw [fset_self e_8] at hh
        rw [fset_self e_9] at hh
        exact Eq.mpr hh hl4
      · have hl : f43 (r43 c k (n + 1)) 5 f h := hl
        obtain ⟨l_0, c_0, e_0, hl0⟩ := asS_inv hl
        obtain ⟨n_1, e_1, hl1⟩ := asI_inv hl0
        obtain ⟨n_2, e_2, hl2⟩ := asI_inv hl1
        obtain ⟨b_8, e_8, hl3⟩ := asB_inv hl2
        obtain ⟨l_9, c_9, e_9, hl4⟩ := asS_inv hl3
        have hh := e43_5 c k (r43 c k n) f h l_0 c_0 n_1 n_2 b_8 l_9 c_9
        rw [fset_self e_0] at hh
        rw [fset_self e_1] at hh
        rw [fset_self e_2] at hh
        rw [fset_self e_8] at hh
        rw [fset_self e_9] at hh
        exact Eq.mpr hh hl4
    ) (by simp [u43]) hg

theorem e51_0 (c : Caller Prop FT) (k : KV) (J : J51) (f : FT) (h : H) (v_0 : AV) (n_1 : Int) : chunkA env c q51 u51 (f51 J) d51 (retA env Go.Proofs.Tryd.f51.results.toList k) .root (fset (fset f 0 v_0) 1 (.int .u8 n_1)) h = s51_0 c k J v_0 n_1 h := by kernel_rfl
theorem w51 {c : Caller Prop FT} (hc : CallOk Go.Proofs.Tryd.prog (CP env) G (fun p => p) c) {k : KV} {n : Nat} {args : List AV} {h : H} (hg : f51 (r51 c k n) 0 (finit args) h) : SW Go.Proofs.Tryd.prog G (.func 51) args h k :=
  fn_ok mixed envOk hc q51 Go.Proofs.Tryd.func51 rfl (by kernel_rfl) (by kernel_rfl) k u51 (fun n => f51 (r51 c k n))
    (fun L f h hl => by
      match L, hl with
      | 0, hl => obtain ⟨_, _, hl0⟩ := asI_inv (show _ from hl); exact hl0
      | _ + 1, hl => exact hl)
    (fun n p L hm f h hl => by
      simp only [u51, List.mem_cons, Prod.mk.injEq, List.not_mem_nil, or_false] at hm
      rcases hm with ⟨rfl, rfl⟩
      · have hl : f51 (r51 c k (n + 1)) 0 f h := hl
        obtain ⟨n_1, e_1, hl1⟩ := asI_inv hl
        have hh := e51_0 c k (r51 c k n) f h (f 0) n_1
        rw [fset_self (rfl : f 0 = f 0)] at hh
        rw [fset_self e_1] at hh
        exact Eq.mpr hh hl1
    ) (by simp [u51]) hg

theorem e54_0 (c : Caller Prop FT) (k : KV) (J : J54) (f : FT) (h : H) (l_0 : Nat) (c_0 : Nat) (n_1 : Int) : chunkA env c q54 u54 (f54 J) d54 (retA env Go.Proofs.Tryd.f54.results.toList k) .root (fset (fset f 0 (.str l_0 c_0)) 1 (.int .u8 n_1)) h = s54_0 c k J l_0 c_0 n_1 h := by kernel_rfl
theorem e54_1 (c : Caller Prop FT) (k : KV) (J : J54) (f : FT) (h : H) (l_0 : Nat) (c_0 : Nat) (n_1 : Int) : chunkA env c q54 u54 (f54 J) d54 (retA env Go.Proofs.Tryd.f54.results.toList k) (.l (.l (.r .root))) (fset (fset f 0 (.str l_0 c_0)) 1 (.int .u8 n_1)) h = s54_1 c k J l_0 c_0 n_1 h := by kernel_rfl
theorem w54 {c : Caller Prop FT} (hc : CallOk Go.Proofs.Tryd.prog (CP env) G (fun p => p) c) {k : KV} {n : Nat} {args : List AV} {h : H} (hg : f54 (r54 c k n) 0 (finit args) h) : SW Go.Proofs.Tryd.prog G (.func 54) args h k :=
  fn_ok mixed envOk hc q54 Go.Proofs.Tryd.func54 rfl (by kernel_rfl) (by kernel_rfl) k u54 (fun n => f54 (r54 c k n))
    (fun L f h hl => by
      match L, hl with
      | 0, hl => obtain ⟨_, _, _, hl0⟩ := asS_inv (show _ from hl); obtain ⟨_, _, hl1⟩ := asI_inv (show _ from hl0); exact hl1
      | 1, hl => obtain ⟨_, _, _, hl0⟩ := asS_inv (show _ from hl); obtain ⟨_, _, hl1⟩ := asI_inv (show _ from hl0); exact hl1
      | _ + 2, hl => exact hl)
    (fun n p L hm f h hl => by
      simp only [u54, List.mem_cons, Prod.mk.injEq, List.not_mem_nil, or_false] at hm
      rcases hm with ⟨rfl, rfl⟩ | ⟨rfl, rfl⟩
      · have hl : f54 (r54 c k (n + 1)) 0 f h := hl
        obtain ⟨l_0, c_0, e_0, hl0⟩ := asS_inv hl
        obtain ⟨n_1, e_1, hl1⟩ := asI_inv hl0
        have hh := e54_0 c k (r54 c k n) f h l_0 c_0 n_1
        rw [fset_self e_0] at hh
        rw [fset_self e_1] at hh
        exact Eq.mpr hh hl1
      · have hl : f54 (r54 c k (n + 1)) 1 f h := hl
        obtain ⟨l_0, c_0, e_0, hl0⟩ := asS_inv hl
        obtain ⟨n_1, e_1, hl1⟩ := asI_inv hl0
        have hh := e54_1 c k (r54 c k n) f h l_0 c_0 n_1
        rw [fset_self e_0] at hh
        rw [fset_self e_1] at hh
        exact Eq.mpr hh hl1
    ) (by simp [u54]) hg

theorem e60_0 (c : Caller Prop FT) (k : KV) (J : J60) (f : FT) (h : H) (l_0 : Nat) (c_0 : Nat) (l_1 : Nat) (c_1 : Nat) : chunkA env c q60 u60 (f60 J) d60 (retA env Go.Proofs.Tryd.f60.results.toList k) .root (fset (fset f 0 (.str l_0 c_0)) 1 (.str l_1 c_1)) h = s60_0 c k J l_0 c_0 l_1 c_1 h := by kernel_rfl
theorem w60 {c : Caller Prop FT} (hc : CallOk Go.Proofs.Tryd.prog (CP env) G (fun p => p) c) {k : KV} {n : Nat} {args : List AV} {h : H} (hg : f60 (r60 c k n) 0 (finit args) h) : SW Go.Proofs.Tryd.prog G (.func 60) args h k :=
  fn_ok mixed envOk hc q60 Go.Proofs.Tryd.func60 rfl (by kernel_rfl) (by kernel_rfl) k u60 (fun n => f60 (r60 c k n))
    (fun L f h hl => by
      match L, hl with
      | 0, hl => obtain ⟨_, _, _, hl0⟩ := asS_inv (show _ from hl); obtain ⟨_, _, _, hl1⟩ := asS_inv (show _ from hl0); exact hl1
      | _ + 1, hl => exact hl)
    (fun n p L hm f h hl => by
      simp only [u60, List.mem_cons, Prod.mk.injEq, List.not_mem_nil, or_false] at hm
      rcases hm with ⟨rfl, rfl⟩
      · have hl : f60 (r60 c k (n + 1)) 0 f h := hl
        obtain ⟨l_0, c_0, e_0, hl0⟩ := asS_inv hl
        obtain ⟨l_1, c_1, e_1, hl1⟩ := asS_inv hl0
        have hh := e60_0 c k (r60 c k n) f h l_0 c_0 l_1 c_1
        rw [fset_self e_0] at hh
        rw [fset_self e_1] at hh
        exact Eq.mpr hh hl1
    ) (by simp [u60]) hg

theorem e79_0 (c : Caller Prop FT) (k : KV) (J : J79) (f : FT) (h : H) (v_0 : AV) (n_1 : Int) : chunkA env c q79 u79 (f79 J) d79 (retA env Go.Proofs.Tryd.f79.results.toList k) .root (fset (fset f 0 v_0) 1 (.int .i64 n_1)) h = s79_0 c k J v_0 n_1 h := by kernel_rfl
theorem w79 {c : Caller Prop FT} (hc : CallOk Go.Proofs.Tryd.prog (CP env) G (fun p => p) c) {k : KV} {n : Nat} {args : List AV} {h : H} (hg : f79 (r79 c k n) 0 (finit args) h) : SW Go.Proofs.Tryd.prog G (.func 79) args h k :=
  fn_ok mixed envOk hc q79 Go.Proofs.Tryd.func79 rfl (by kernel_rfl) (by kernel_rfl) k u79 (fun n => f79 (r79 c k n))
    (fun L f h hl => by
      match L, hl with
      | 0, hl => obtain ⟨_, _, hl0⟩ := asI_inv (show _ from hl); exact hl0
      | _ + 1, hl => exact hl)
    (fun n p L hm f h hl => by
      simp only [u79, List.mem_cons, Prod.mk.injEq, List.not_mem_nil, or_false] at hm
      rcases hm with ⟨rfl, rfl⟩
      · have hl : f79 (r79 c k (n + 1)) 0 f h := hl
        obtain ⟨n_1, e_1, hl1⟩ := asI_inv hl
        have hh := e79_0 c k (r79 c k n) f h (f 0) n_1
        rw [fset_self (rfl : f 0 = f 0)] at hh
        rw [fset_self e_1] at hh
        exact Eq.mpr hh hl1
    ) (by simp [u79]) hg

end Go.Den
namespace Go.Den
set_option maxRecDepth 100000
theorem e4_0 (c : Caller Prop FT) (k : KV) (J : J4) (f : FT) (h : H) (n_0 : Int) (n_1 : Int) : chunkA env c q4 u4 (f4 J) d4 (retA env Go.Proofs.Tryd.f4.results.toList k) .root (fset (fset f 0 (.int .u64 n_0)) 1 (.int .i64 n_1)) h = s4_0 c k J n_0 n_1 h := by kernel_rfl
theorem e4_1 (c : Caller Prop FT) (k : KV) (J : J4) (f : FT) (h : H) (n_0 : Int) (v_5 : AV) (n_6 : Int) (n_7 : Int) : chunkA env c q4 u4 (f4 J) d4 (retA env Go.Proofs.Tryd.f4.results.toList k) (.l (.r (.l (.r (.r (.r .root)))))) (fset (fset (fset (fset f 0 (.int .u64 n_0)) 5 v_5) 6 (.int .i64 n_6)) 7 (.int .i64 n_7)) h = s4_1 c k J n_0 v_5 n_6 n_7 h := by kernel_rfl
theorem e4_2 (c : Caller Prop FT) (k : KV) (J : J4) (f : FT) (h : H) (n_0 : Int) (v_5 : AV) (n_6 : Int) (n_7 : Int) (l_8 : Nat) (c_8 : Nat) (n_9 : Int) : chunkA env c q4 u4 (f4 J) d4 (retA env Go.Proofs.Tryd.f4.results.toList k) (.l (.r (.l (.r (.r (.l (.l (.r (.l (.l (.r (.l (.r (.r (.r .root))))))))))))))) (fset (fset (fset (fset (fset (fset f 0 (.int .u64 n_0)) 5 v_5) 6 (.int .i64 n_6)) 7 (.int .i64 n_7)) 8 (.str l_8 c_8)) 9 (.int .u64 n_9)) h = s4_2 c k J n_0 v_5 n_6 n_7 l_8 c_8 n_9 h := by kernel_rfl
theorem e4_3 (c : Caller Prop FT) (k : KV) (J : J4) (f : FT) (h : H) (n_0 : Int) (v_5 : AV) (n_6 : Int) (n_7 : Int) (l_8 : Nat) (c_8 : Nat) : chunkA env c q4 u4 (f4 J) d4 (retA env Go.Proofs.Tryd.f4.results.toList k) (.r (.l (.r (.r (.r (.l (.r (.l (.r (.r (.r (.l (.l (.r (.l (.l (.r (.l (.r (.r (.r .root))))))))))))))))))))) (fset (fset (fset (fset (fset f 0 (.int .u64 n_0)) 5 v_5) 6 (.int .i64 n_6)) 7 (.int .i64 n_7)) 8 (.str l_8 c_8)) h = s4_3 c k J n_0 v_5 n_6 n_7 l_8 c_8 h := by kernel_rfl
theorem e4_4 (c : Caller Prop FT) (k : KV) (J : J4) (f : FT) (h : H) (n_0 : Int) (v_5 : AV) (n_6 : Int) (n_7 : Int) (l_8 : Nat) (c_8 : Nat) : chunkA env c q4 u4 (f4 J) d4 (retA env Go.Proofs.Tryd.f4.results.toList k) (.r (.r (.r (.r (.l (.l (.r (.l (.l (.r (.l (.r (.r (.r .root)))))))))))))) (fset (fset (fset (fset (fset f 0 (.int .u64 n_0)) 5 v_5) 6 (.int .i64 n_6)) 7 (.int .i64 n_7)) 8 (.str l_8 c_8)) h = s4_4 c k J n_0 v_5 n_6 n_7 l_8 c_8 h := by kernel_rfl
theorem e4_5 (c : Caller Prop FT) (k : KV) (J : J4) (f : FT) (h : H) (n_0 : Int) (v_5 : AV) (n_6 : Int) (n_7 : Int) : chunkA env c q4 u4 (f4 J) d4 (retA env Go.Proofs.Tryd.f4.results.toList k) (.r (.r (.l (.l (.r (.l (.r (.r (.r .root))))))))) (fset (fset (fset (fset f 0 (.int .u64 n_0)) 5 v_5) 6 (.int .i64 n_6)) 7 (.int .i64 n_7)) h = s4_5 c k J n_0 v_5 n_6 n_7 h := by kernel_rfl
theorem e4_6 (c : Caller Prop FT) (k : KV) (J : J4) (f : FT) (h : H) (n_0 : Int) (v_5 : AV) (n_6 : Int) (n_7 : Int) (b_10 : Bool) (v_11 : AV) (b_12 : Bool) (b_14 : Bool) (b_16 : Bool) (b_18 : Bool) : chunkA env c q4 u4 (f4 J) d4 (retA env Go.Proofs.Tryd.f4.results.toList k) (.r (.r (.r (.r (.r (.r (.r (.r (.r (.l (.l (.r (.l (.l (.r (.l (.r (.r (.r .root))))))))))))))))))) (fset (fset (fset (fset (fset (fset (fset (fset (fset (fset f 0 (.int .u64 n_0)) 5 v_5) 6 (.int .i64 n_6)) 7 (.int .i64 n_7)) 10 (.bool b_10)) 11 v_11) 12 (.bool b_12)) 14 (.bool b_14)) 16 (.bool b_16)) 18 (.bool b_18)) h = s4_6 c k J n_0 v_5 n_6 n_7 b_10 v_11 b_12 b_14 b_16 b_18 h := by kernel_rfl
theorem w4 {c : Caller Prop FT} (hc : CallOk Go.Proofs.Tryd.prog (CP env) G (fun p => p) c) {k : KV} {n : Nat} {args : List AV} {h : H} (hg : f4 (r4 c k n) 0 (finit args) h) : SW Go.Proofs.Tryd.prog G (.func 4) args h k :=
  fn_ok mixed envOk hc q4 Go.Proofs.Tryd.func4 rfl (by kernel_rfl) (by kernel_rfl) k u4 (fun n => f4 (r4 c k n))
    (fun L f h hl => by
      match L, hl with
      | 0, hl => obtain ⟨_, _, hl0⟩ := asI_inv (show _ from hl); obtain ⟨_, _, hl1⟩ := asI_inv (show _ from hl0); exact hl1
      | 1, hl => obtain ⟨_, _, hl0⟩ := asI_inv (show _ from hl); obtain ⟨_, _, hl1⟩ := asI_inv (show _ from hl0); obtain ⟨_, _, hl2⟩ := asI_inv (show _ from hl1); exact hl2
      | 2, hl => obtain ⟨_, _, hl0⟩ := asI_inv (show _ from hl); obtain ⟨_, _, hl1⟩ := asI_inv (show _ from hl0); obtain ⟨_, _, hl2⟩ := asI_inv (show _ from hl1); obtain ⟨_, _, _, hl3⟩ := asS_inv (show _ from hl2); obtain ⟨_, _, hl4⟩ := asI_inv (show _ from hl3); exact hl4
      | 3, hl => obtain ⟨_, _, hl0⟩ := asI_inv (show _ from hl); obtain ⟨_, _, hl1⟩ := asI_inv (show _ from hl0); obtain ⟨_, _, hl2⟩ := asI_inv (show _ from hl1); obtain ⟨_, _, _, hl3⟩ := asS_inv (show _ from hl2); exact hl3
      | 4, hl => obtain ⟨_, _, hl0⟩ := asI_inv (show _ from hl); obtain ⟨_, _, hl1⟩ := asI_inv (show _ from hl0); obtain ⟨_, _, hl2⟩ := asI_inv (show _ from hl1); obtain ⟨_, _, _, hl3⟩ := asS_inv (show _ from hl2); exact hl3
      | 5, hl => obtain ⟨_, _, hl0⟩ := asI_inv (show _ from hl); obtain ⟨_, _, hl1⟩ := asI_inv (show _ from hl0); obtain ⟨_, _, hl2⟩ := asI_inv (show _ from hl1); exact hl2
      | 6, hl => obtain ⟨_, _, hl0⟩ := asI_inv (show _ from hl); obtain ⟨_, _, hl1⟩ := asI_inv (show _ from hl0); obtain ⟨_, _, hl2⟩ := asI_inv (show _ from hl1); obtain ⟨_, _, hl3⟩ := asB_inv (show _ from hl2); obtain ⟨_, _, hl4⟩ := asB_inv (show _ from hl3); obtain ⟨_, _, hl5⟩ := asB_inv (show _ from hl4); obtain ⟨_, _, hl6⟩ := asB_inv (show _ from hl5); obtain ⟨_, _, hl7⟩ := asB_inv (show _ from hl6); exact hl7
      | _ + 7, hl => exact hl)
    (fun n p L hm f h hl => by
      simp only [u4, List.mem_cons, Prod.mk.injEq, List.not_mem_nil, or_false] at hm
      rcases hm with ⟨rfl, rfl⟩ | ⟨rfl, rfl⟩ | ⟨rfl, rfl⟩ | ⟨rfl, rfl⟩ | ⟨rfl, rfl⟩ | ⟨rfl, rfl⟩ | ⟨rfl, rfl⟩
      · have hl : f4 (r4 c k (n + 1)) 0 f h := hl
        obtain ⟨n_0, e_0, hl0⟩ := asI_inv hl
        obtain ⟨n_1, e_1, hl1⟩ := asI_inv hl0
        have hh := e4_0 c k (r4 c k n) f h n_0 n_1
        rw [fset_self e_0] at hh
        rw [fset_self e_1] at hh
        exact Eq.mpr hh hl1
      · have hl : f4 (r4 c k (n + 1)) 1 f h := hl
        obtain ⟨n_0, e_0, hl0⟩ := asI_inv hl
        obtain ⟨n_6, e_6, hl2⟩ := asI_inv hl0
        obtain ⟨n_7, e_7, hl3⟩ := asI_inv hl2
        have hh := e4_1 c k (r4 c k n) f h n_0 (f 5) n_6 n_7
        rw [fset_self e_0] at hh
        rw [fset_self (rfl : f 5 = f 5)] at hh
        rw [fset_self e_6] at hh
        rw [fset_self e_7] at hh
        exact Eq.mpr hh hl3
      · have hl : f4 (r4 c k (n + 1)) 2 f h := hl
        obtain ⟨n_0, e_0, hl0⟩ := asI_inv hl
        obtain ⟨n_6, e_6, hl2⟩ := asI_inv hl0
        obtain ⟨n_7, e_7, hl3⟩ := asI_inv hl2
        obtain ⟨l_8, c_8, e_8, hl4⟩ := asS_inv hl3
        obtain ⟨n_9, e_9, hl5⟩ := asI_inv hl4
        have hh := e4_2 c k (r4 c k n) f h n_0 (f 5) n_6 n_7 l_8 c_8 n_9
        rw [fset_self e_0] at hh
        rw [fset_self (rfl : f 5 = f 5)] at hh
        rw [fset_self e_6] at hh
        rw [fset_self e_7] at hh
        rw [fset_self e_8] at hh
        rw [fset_self e_9] at hh
        exact Eq.mpr hh hl5
      · have hl : f4 (r4 c k (n + 1)) 3 f h := hl
        obtain ⟨n_0, e_0, hl0⟩ := asI_inv hl
        obtain ⟨n_6, e_6, hl2⟩ := asI_inv hl0
        obtain ⟨n_7, e_7, hl3⟩ := asI_inv hl2
        obtain ⟨l_8, c_8, e_8, hl4⟩ := asS_inv hl3
        have hh := e4_3 c k (r4 c k n) f h n_0 (f 5) n_6 n_7 l_8 c_8
        rw [fset_self e_0] at hh
        rw [fset_self (rfl : f 5 = f 5)] at hh
        rw [fset_self e_6] at hh
        rw [fset_self e_7] at hh
        rw [fset_self e_8] at hh
        exact Eq.mpr hh hl4
      · have hl : f4 (r4 c k (n + 1)) 4 f h := hl
        obtain ⟨n_0, e_0, hl0⟩ := asI_inv hl
        obtain ⟨n_6, e_6, hl2⟩ := asI_inv hl0
        obtain ⟨n_7, e_7, hl3⟩ := asI_inv hl2
        obtain ⟨l_8, c_8, e_8, hl4⟩ := asS_inv hl3
        have hh := e4_4 c k (r4 c k n) f h n_0 (f 5) n_6 n_7 l_8 c_8
        rw [fset_self e_0] at hh
        rw [fset_self (rfl : f 5 = f 5)] at hh
        rw [fset_self e_6] at hh
        rw [fset_self e_7] at hh
        rw [fset_self e_8] at hh
        exact Eq.mpr hh hl4
      · have hl : f4 (r4 c k (n + 1)) 5 f h := hl
        obtain ⟨n_0, e_0, hl0⟩ := asI_inv hl
        obtain ⟨n_6, e_6, hl2⟩ := asI_inv hl0
        obtain ⟨n_7, e_7, hl3⟩ := asI_inv hl2
        have hh := e4_5 c k (r4 c k n) f h n_0 (f 5) n_6 n_7
        rw [fset_self e_0] at hh
        rw [fset_self (rfl : f 5 = f 5)] at hh
        rw [fset_self e_6] at hh
        rw [fset_self e_7] at hh
        exact Eq.mpr hh hl3
      · have hl : f4 (r4 c k (n + 1)) 6 f h := hl
        obtain ⟨n_0, e_0, hl0⟩ := asI_inv hl
        obtain ⟨n_6, e_6, hl2⟩ := asI_inv hl0
        obtain ⟨n_7, e_7, hl3⟩ := asI_inv hl2
        obtain ⟨b_10, e_10, hl4⟩ := asB_inv hl3
        obtain ⟨b_12, e_12, hl6⟩ := asB_inv hl4
        obtain ⟨b_14, e_14, hl7⟩ := asB_inv hl6
        obtain ⟨b_16, e_16, hl8⟩ := asB_inv hl7
        obtain ⟨b_18, e_18, hl9⟩ := asB_inv hl8
        have hh := e4_6 c k (r4 c k n) f h n_0 (f 5) n_6 n_7 b_10 (f 11) b_12 b_14 b_16 b_18
        rw [fset_self e_0] at hh
        rw [fset_self (rfl : f 5 = f 5)] at hh
        rw [fset_self e_6] at hh
        rw [fset_self e_7] at hh
        rw [fset_self e_10] at hh
        rw [fset_self (rfl : f 11 = f 11)] at hh
        rw [fset_self e_12] at hh
        rw [fset_self e_14] at hh
        rw [fset_self e_16] at hh
        rw [fset_self e_18] at hh
        exact Eq.mpr hh hl9
    ) (by simp [u4]) hg

theorem e6_0 (c : Caller Prop FT) (k : KV) (J : J6) (f : FT) (h : H) (l_0 : Nat) (c_0 : Nat) (l_1 : Nat) (c_1 : Nat) (l_2 : Nat) (c_2 : Nat) (n_3 : Int) : chunkA env c q6 u6 (f6 J) d6 (retA env Go.Proofs.Tryd.f6.results.toList k) .root (fset (fset (fset (fset f 0 (.str l_0 c_0)) 1 (.str l_1 c_1)) 2 (.str l_2 c_2)) 3 (.int .i64 n_3)) h = s6_0 c k J l_0 c_0 l_1 c_1 l_2 c_2 n_3 h := by kernel_rfl
theorem e6_1 (c : Caller Prop FT) (k : KV) (J : J6) (f : FT) (h : H) (l_0 : Nat) (c_0 : Nat) (l_1 : Nat) (c_1 : Nat) (l_2 : Nat) (c_2 : Nat) (l_9 : Nat) (c_9 : Nat) (l_10 : Nat) (c_10 : Nat) (b_11 : Bool) (b_12 : Bool) (b_13 : Bool) : chunkA env c q6 u6 (f6 J) d6 (retA env Go.Proofs.Tryd.f6.results.toList k) (.r (.r (.r (.r (.r (.r (.r .root))))))) (fset (fset (fset (fset (fset (fset (fset (fset f 0 (.str l_0 c_0)) 1 (.str l_1 c_1)) 2 (.str l_2 c_2)) 9 (.str l_9 c_9)) 10 (.str l_10 c_10)) 11 (.bool b_11)) 12 (.bool b_12)) 13 (.bool b_13)) h = s6_1 c k J l_0 c_0 l_1 c_1 l_2 c_2 l_9 c_9 l_10 c_10 b_11 b_12 b_13 h := by kernel_rfl
theorem w6 {c : Caller Prop FT} (hc : CallOk Go.Proofs.Tryd.prog (CP env) G (fun p => p) c) {k : KV} {n : Nat} {args : List AV} {h : H} (hg : f6 (r6 c k n) 0 (finit args) h) : SW Go.Proofs.Tryd.prog G (.func 6) args h k :=
  fn_ok mixed envOk hc q6 Go.Proofs.Tryd.func6 rfl (by kernel_rfl) (by kernel_rfl) k u6 (fun n => f6 (r6 c k n))
    (fun L f h hl => by
      match L, hl with
      | 0, hl => obtain ⟨_, _, _, hl0⟩ := asS_inv (show _ from hl); obtain ⟨_, _, _, hl1⟩ := asS_inv (show _ from hl0); obtain ⟨_, _, _, hl2⟩ := asS_inv (show _ from hl1); obtain ⟨_, _, hl3⟩ := asI_inv (show _ from hl2); exact hl3
      | 1, hl => obtain ⟨_, _, _, hl0⟩ := asS_inv (show _ from hl); obtain ⟨_, _, _, hl1⟩ := asS_inv (show _ from hl0); obtain ⟨_, _, _, hl2⟩ := asS_inv (show _ from hl1); obtain ⟨_, _, _, hl3⟩ := asS_inv (show _ from hl2); obtain ⟨_, _, _, hl4⟩ := asS_inv (show _ from hl3); obtain ⟨_, _, hl5⟩ := asB_inv (show _ from hl4); obtain ⟨_, _, hl6⟩ := asB_inv (show _ from hl5); obtain ⟨_, _, hl7⟩ := asB_inv (show _ from hl6); exact hl7
      | _ + 2, hl => exact hl)
    (fun n p L hm f h hl => by
      simp only [u6, List.mem_cons, Prod.mk.injEq, List.not_mem_nil, or_false] at hm
      rcases hm with ⟨rfl, rfl⟩ | ⟨rfl, rfl⟩
      · have hl : f6 (r6 c k (n + 1)) 0 f h := hl
        obtain ⟨l_0, c_0, e_0, hl0⟩ := asS_inv hl
        obtain ⟨l_1, c_1, e_1, hl1⟩ := asS_inv hl0
        obtain ⟨l_2, c_2, e_2, hl2⟩ := asS_inv hl1
        obtain ⟨n_3, e_3, hl3⟩ := asI_inv hl2
        have hh := e6_0 c k (r6 c k n) f h l_0 c_0 l_1 c_1 l_2 c_2 n_3
        rw [fset_self e_0] at hh
        rw [fset_self e_1] at hh
        rw [fset_self e_2] at hh
        rw [fset_self e_3] at hh
        exact Eq.mpr hh hl3
      · have hl : f6 (r6 c k (n + 1)) 1 f h := hl
        obtain ⟨l_0, c_0, e_0, hl0⟩ := asS_inv hl
        obtain ⟨l_1, c_1, e_1, hl1⟩ := asS_inv hl0
        obtain ⟨l_2, c_2, e_2, hl2⟩ := asS_inv hl1
        obtain ⟨l_9, c_9, e_9, hl3⟩ := asS_inv hl2
        obtain ⟨l_10, c_10, e_10, hl4⟩ := asS_inv hl3
        obtain ⟨b_11, e_11, hl5⟩ := asB_inv hl4
        obtain ⟨b_12, e_12, hl6⟩ := asB_inv hl5
        obtain ⟨b_13, e_13, hl7⟩ := asB_inv hl6
        have hh := e6_1 c k (r6 c k n) f h l_0 c_0 l_1 c_1 l_2 c_2 l_9 c_9 l_10 c_10 b_11 b_12 b_13
        rw [fset_self e_0] at hh
        rw [fset_self e_1] at hh
        rw [fset_self e_2] at hh
        rw [fset_self e_9] at hh
        rw [fset_self e_10] at hh
        rw [fset_self e_11] at hh
        rw [fset_self e_12] at hh
        rw [fset_self e_13] at hh
        exact Eq.mpr hh hl7
    ) (by simp [u6]) hg

theorem e14_0 (c : Caller Prop FT) (k : KV) (J : J14) (f : FT) (h : H) (l_0 : Nat) (c_0 : Nat) : chunkA env c q14 u14 (f14 J) d14 (retA env Go.Proofs.Tryd.f14.results.toList k) .root (fset f 0 (.str l_0 c_0)) h = s14_0 c k J l_0 c_0 h := by kernel_rfl
theorem e14_1 (c : Caller Prop FT) (k : KV) (J : J14) (f : FT) (h : H) (n_5 : Int) (l_7 : Nat) (c_7 : Nat) (v_8 : AV) (n_9 : Int) : chunkA env c q14 u14 (f14 J) d14 (retA env Go.Proofs.Tryd.f14.results.toList k) (.l (.r (.l (.r (.r (.r (.r (.r .root)))))))) (fset (fset (fset (fset f 5 (.int .u8 n_5)) 7 (.str l_7 c_7)) 8 v_8) 9 (.int .i64 n_9)) h = s14_1 c k J n_5 l_7 c_7 v_8 n_9 h := by kernel_rfl
theorem e14_2 (c : Caller Prop FT) (k : KV) (J : J14) (f : FT) (h : H) (n_5 : Int) (l_7 : Nat) (c_7 : Nat) (v_8 : AV) (n_9 : Int) : chunkA env c q14 u14 (f14 J) d14 (retA env Go.Proofs.Tryd.f14.results.toList k) (.r (.r (.l (.l (.r (.l (.r (.r (.r (.r (.r .root))))))))))) (fset (fset (fset (fset f 5 (.int .u8 n_5)) 7 (.str l_7 c_7)) 8 v_8) 9 (.int .i64 n_9)) h = s14_2 c k J n_5 l_7 c_7 v_8 n_9 h := by kernel_rfl
theorem w14 {c : Caller Prop FT} (hc : CallOk Go.Proofs.Tryd.prog (CP env) G (fun p => p) c) {k : KV} {n : Nat} {args : List AV} {h : H} (hg : f14 (r14 c k n) 0 (finit args) h) : SW Go.Proofs.Tryd.prog G (.func 14) args h k :=
  fn_ok mixed envOk hc q14 Go.Proofs.Tryd.func14 rfl (by kernel_rfl) (by kernel_rfl) k u14 (fun n => f14 (r14 c k n))
    (fun L f h hl => by
      match L, hl with
      | 0, hl => obtain ⟨_, _, _, hl0⟩ := asS_inv (show _ from hl); exact hl0
      | 1, hl => obtain ⟨_, _, hl0⟩ := asI_inv (show _ from hl); obtain ⟨_, _, _, hl1⟩ := asS_inv (show _ from hl0); obtain ⟨_, _, hl2⟩ := asI_inv (show _ from hl1); exact hl2
      | 2, hl => obtain ⟨_, _, hl0⟩ := asI_inv (show _ from hl); obtain ⟨_, _, _, hl1⟩ := asS_inv (show _ from hl0); obtain ⟨_, _, hl2⟩ := asI_inv (show _ from hl1); exact hl2
      | _ + 3, hl => exact hl)
    (fun n p L hm f h hl => by
      simp only [u14, List.mem_cons, Prod.mk.injEq, List.not_mem_nil, or_false] at hm
      rcases hm with ⟨rfl, rfl⟩ | ⟨rfl, rfl⟩ | ⟨rfl, rfl⟩
      · have hl : f14 (r14 c k (n + 1)) 0 f h := hl
        obtain ⟨l_0, c_0, e_0, hl0⟩ := asS_inv hl
        have hh := e14_0 c k (r14 c k n) f h l_0 c_0
        rw [fset_self e_0] at hh
        exact Eq.mpr hh hl0
      · have hl : f14 (r14 c k (n + 1)) 1 f h := hl
        obtain ⟨n_5, e_5, hl0⟩ := asI_inv hl
        obtain ⟨l_7, c_7, e_7, hl1⟩ := asS_inv hl0
        obtain ⟨n_9, e_9, hl3⟩ := asI_inv hl1
        have hh := e14_1 c k (r14 c k n) f h n_5 l_7 c_7 (f 8) n_9
        rw [fset_self e_5] at hh
        rw [fset_self e_7] at hh
        rw [fset_self (rfl : f 8 = f 8)] at hh
        rw [fset_self e_9] at hh
        exact Eq.mpr hh hl3
      · have hl : f14 (r14 c k (n + 1)) 2 f h := hl
        obtain ⟨n_5, e_5, hl0⟩ := asI_inv hl
        obtain ⟨l_7, c_7, e_7, hl1⟩ := asS_inv hl0
        obtain ⟨n_9, e_9, hl3⟩ := asI_inv hl1
        have hh := e14_2 c k (r14 c k n) f h n_5 l_7 c_7 (f 8) n_9
        rw [fset_self e_5] at hh
        rw [fset_self e_7] at hh
        rw [fset_self (rfl : f 8 = f 8)] at hh
        rw [fset_self e_9] at hh
        exact Eq.mpr hh hl3
    ) (by simp [u14]) hg

theorem e17_0 (c : Caller Prop FT) (k : KV) (J : J17) (f : FT) (h : H) (l_0 : Nat) (c_0 : Nat) : chunkA env c q17 u17 (f17 J) d17 (retA env Go.Proofs.Tryd.f17.results.toList k) .root (fset f 0 (.str l_0 c_0)) h = s17_0 c k J l_0 c_0 h := by kernel_rfl
theorem e17_1 (c : Caller Prop FT) (k : KV) (J : J17) (f : FT) (h : H) (l_0 : Nat) (c_0 : Nat) (n_3 : Int) (n_6 : Int) (b_7 : Bool) (b_9 : Bool) : chunkA env c q17 u17 (f17 J) d17 (retA env Go.Proofs.Tryd.f17.results.toList k) (.r (.r (.r (.r (.r (.r (.r (.r (.r (.r .root)))))))))) (fset (fset (fset (fset (fset f 0 (.str l_0 c_0)) 3 (.int .i64 n_3)) 6 (.int .i64 n_6)) 7 (.bool b_7)) 9 (.bool b_9)) h = s17_1 c k J l_0 c_0 n_3 n_6 b_7 b_9 h := by kernel_rfl
theorem e17_2 (c : Caller Prop FT) (k : KV) (J : J17) (f : FT) (h : H) (l_0 : Nat) (c_0 : Nat) (n_3 : Int) (n_5 : Int) (n_6 : Int) (b_7 : Bool) : chunkA env c q17 u17 (f17 J) d17 (retA env Go.Proofs.Tryd.f17.results.toList k) (.r (.r (.r (.r (.r (.r (.r .root))))))) (fset (fset (fset (fset (fset f 0 (.str l_0 c_0)) 3 (.int .i64 n_3)) 5 (.int .i64 n_5)) 6 (.int .i64 n_6)) 7 (.bool b_7)) h = s17_2 c k J l_0 c_0 n_3 n_5 n_6 b_7 h := by kernel_rfl
theorem e17_3 (c : Caller Prop FT) (k : KV) (J : J17) (f : FT) (h : H) (l_0 : Nat) (c_0 : Nat) (n_3 : Int) (n_4 : Int) : chunkA env c q17 u17 (f17 J) d17 (retA env Go.Proofs.Tryd.f17.results.toList k) (.r (.r (.r .root))) (fset (fset (fset f 0 (.str l_0 c_0)) 3 (.int .i64 n_3)) 4 (.int .i64 n_4)) h = s17_3 c k J l_0 c_0 n_3 n_4 h := by kernel_rfl
theorem w17 {c : Caller Prop FT} (hc : CallOk Go.Proofs.Tryd.prog (CP env) G (fun p => p) c) {k : KV} {n : Nat} {args : List AV} {h : H} (hg : f17 (r17 c k n) 0 (finit args) h) : SW Go.Proofs.Tryd.prog G (.func 17) args h k :=
  fn_ok mixed envOk hc q17 Go.Proofs.Tryd.func17 rfl (by kernel_rfl) (by kernel_rfl) k u17 (fun n => f17 (r17 c k n))
    (fun L f h hl => by
      match L, hl with
      | 0, hl => obtain ⟨_, _, _, hl0⟩ := asS_inv (show _ from hl); exact hl0
      | 1, hl => obtain ⟨_, _, _, hl0⟩ := asS_inv (show _ from hl); obtain ⟨_, _, hl1⟩ := asI_inv (show _ from hl0); obtain ⟨_, _, hl2⟩ := asI_inv (show _ from hl1); obtain ⟨_, _, hl3⟩ := asB_inv (show _ from hl2); obtain ⟨_, _, hl4⟩ := asB_inv (show _ from hl3); exact hl4
      | 2, hl => obtain ⟨_, _, _, hl0⟩ := asS_inv (show _ from hl); obtain ⟨_, _, hl1⟩ := asI_inv (show _ from hl0); obtain ⟨_, _, hl2⟩ := asI_inv (show _ from hl1); obtain ⟨_, _, hl3⟩ := asI_inv (show _ from hl2); obtain ⟨_, _, hl4⟩ := asB_inv (show _ from hl3); exact hl4
      | 3, hl => obtain ⟨_, _, _, hl0⟩ := asS_inv (show _ from hl); obtain ⟨_, _, hl1⟩ := asI_inv (show _ from hl0); obtain ⟨_, _, hl2⟩ := asI_inv (show _ from hl1); exact hl2
      | _ + 4, hl => exact hl)
    (fun n p L hm f h hl => by
      simp only [u17, List.mem_cons, Prod.mk.injEq, List.not_mem_nil, or_false] at hm
      rcases hm with ⟨rfl, rfl⟩ | ⟨rfl, rfl⟩ | ⟨rfl, rfl⟩ | ⟨rfl, rfl⟩
      · have hl : f17 (r17 c k (n + 1)) 0 f h := hl
        obtain ⟨l_0, c_0, e_0, hl0⟩ := asS_inv hl
        have hh := e17_0 c k (r17 c k n) f h l_0 c_0
        rw [fset_self e_0] at hh
        exact Eq.mpr hh hl0
      · have hl : f17 (r17 c k (n + 1)) 1 f h := hl
        obtain ⟨l_0, c_0, e_0, hl0⟩ := asS_inv hl
        obtain ⟨n_3, e_3, hl1⟩ := asI_inv hl0
        obtain ⟨n_6, e_6, hl2⟩ := asI_inv hl1
        obtain ⟨b_7, e_7, hl3⟩ := asB_inv hl2
        obtain ⟨b_9, e_9, hl4⟩ := asB_inv hl3
        have hh := e17_1 c k (r17 c k n) f h l_0 c_0 n_3 n_6 b_7 b_9
        rw [fset_self e_0] at hh
        rw [fset_self e_3] at hh
        rw [fset_self e_6] at hh
        rw [fset_self e_7] at hh
        rw [fset_self e_9] at hh
        exact Eq.mpr hh hl4
      · have hl : f17 (r17 c k (n + 1)) 2 f h := hl
        obtain ⟨l_0, c_0, e_0, hl0⟩ := asS_inv hl
        obtain ⟨n_3, e_3, hl1⟩ := asI_inv hl0
        obtain ⟨n_5, e_5, hl2⟩ := asI_inv hl1
        obtain ⟨n_6, e_6, hl3⟩ := asI_inv hl2
        obtain ⟨b_7, e_7, hl4⟩ := asB_inv hl3
        have hh := e17_2 c k (r17 c k n) f h l_0 c_0 n_3 n_5 n_6 b_7
        rw [fset_self e_0] at hh
        rw [fset_self e_3] at hh
        rw [fset_self e_5] at hh
        rw [fset_self e_6] at hh
        rw [fset_self e_7] at hh
        exact Eq.mpr hh hl4
      · have hl : f17 (r17 c k (n + 1)) 3 f h := hl
        obtain ⟨l_0, c_0, e_0, hl0⟩ := asS_inv hl
        obtain ⟨n_3, e_3, hl1⟩ := asI_inv hl0
        obtain ⟨n_4, e_4, hl2⟩ := asI_inv hl1
        have hh := e17_3 c k (r17 c k n) f h l_0 c_0 n_3 n_4
        rw [fset_self e_0] at hh
        rw [fset_self e_3] at hh
        rw [fset_self e_4] at hh
        exact Eq.mpr hh hl2
    ) (by simp [u17]) hg

theorem e19_0 (c : Caller Prop FT) (k : KV) (J : J19) (f : FT) (h : H) (l_0 : Nat) (c_0 : Nat) : chunkA env c q19 u19 (f19 J) d19 (retA env Go.Proofs.Tryd.f19.results.toList k) .root (fset f 0 (.str l_0 c_0)) h = s19_0 c k J l_0 c_0 h := by kernel_rfl
theorem e19_1 (c : Caller Prop FT) (k : KV) (J : J19) (f : FT) (h : H) (l_0 : Nat) (c_0 : Nat) (n_3 : Int) : chunkA env c q19 u19 (f19 J) d19 (retA env Go.Proofs.Tryd.f19.results.toList k) (.l (.r (.l (.r .root)))) (fset (fset f 0 (.str l_0 c_0)) 3 (.int .i64 n_3)) h = s19_1 c k J l_0 c_0 n_3 h := by kernel_rfl
theorem w19 {c : Caller Prop FT} (hc : CallOk Go.Proofs.Tryd.prog (CP env) G (fun p => p) c) {k : KV} {n : Nat} {args : List AV} {h : H} (hg : f19 (r19 c k n) 0 (finit args) h) : SW Go.Proofs.Tryd.prog G (.func 19) args h k :=
  fn_ok mixed envOk hc q19 Go.Proofs.Tryd.func19 rfl (by kernel_rfl) (by kernel_rfl) k u19 (fun n => f19 (r19 c k n))
    (fun L f h hl => by
      match L, hl with
      | 0, hl => obtain ⟨_, _, _, hl0⟩ := asS_inv (show _ from hl); exact hl0
      | 1, hl => obtain ⟨_, _, _, hl0⟩ := asS_inv (show _ from hl); obtain ⟨_, _, hl1⟩ := asI_inv (show _ from hl0); exact hl1
      | _ + 2, hl => exact hl)
    (fun n p L hm f h hl => by
      simp only [u19, List.mem_cons, Prod.mk.injEq, List.not_mem_nil, or_false] at hm
      rcases hm with ⟨rfl, rfl⟩ | ⟨rfl, rfl⟩
      · have hl : f19 (r19 c k (n + 1)) 0 f h := hl
        obtain ⟨l_0, c_0, e_0, hl0⟩ := asS_inv hl
        have hh := e19_0 c k (r19 c k n) f h l_0 c_0
        rw [fset_self e_0] at hh
        exact Eq.mpr hh hl0
      · have hl : f19 (r19 c k (n + 1)) 1 f h := hl
        obtain ⟨l_0, c_0, e_0, hl0⟩ := asS_inv hl
        obtain ⟨n_3, e_3, hl1⟩ := asI_inv hl0
        have hh := e19_1 c k (r19 c k n) f h l_0 c_0 n_3
        rw [fset_self e_0] at hh
        rw [fset_self e_3] at hh
        exact Eq.mpr hh hl1
    ) (by simp [u19]) hg

theorem e23_0 (c : Caller Prop FT) (k : KV) (J : J23) (f : FT) (h : H) (l_0 : Nat) (c_0 : Nat) (l_1 : Nat) (c_1 : Nat) : chunkA env c q23 u23 (f23 J) d23 (retA env Go.Proofs.Tryd.f23.results.toList k) .root (fset (fset f 0 (.str l_0 c_0)) 1 (.str l_1 c_1)) h = s23_0 c k J l_0 c_0 l_1 c_1 h := by kernel_rfl
theorem w23 {c : Caller Prop FT} (hc : CallOk Go.Proofs.Tryd.prog (CP env) G (fun p => p) c) {k : KV} {n : Nat} {args : List AV} {h : H} (hg : f23 (r23 c k n) 0 (finit args) h) : SW Go.Proofs.Tryd.prog G (.func 23) args h k :=
  fn_ok mixed envOk hc q23 Go.Proofs.Tryd.func23 rfl (by kernel_rfl) (by kernel_rfl) k u23 (fun n => f23 (r23 c k n))
    (fun L f h hl => by
      match L, hl with
      | 0, hl => obtain ⟨_, _, _, hl0⟩ := asS_inv (show _ from hl); obtain ⟨_, _, _, hl1⟩ := asS_inv (show _ from hl0); exact hl1
      | _ + 1, hl => exact hl)
    (fun n p L hm f h hl => by
      simp only [u23, List.mem_cons, Prod.mk.injEq, List.not_mem_nil, or_false] at hm
      rcases hm with ⟨rfl, rfl⟩
      · have hl : f23 (r23 c k (n + 1)) 0 f h := hl
        obtain ⟨l_0, c_0, e_0, hl0⟩ := asS_inv hl
        obtain ⟨l_1, c_1, e_1, hl1⟩ := asS_inv hl0
        have hh := e23_0 c k (r23 c k n) f h l_0 c_0 l_1 c_1
        rw [fset_self e_0] at hh
        rw [fset_self e_1] at hh
        exact Eq.mpr hh hl1
    ) (by simp [u23]) hg

theorem e29_0 (c : Caller Prop FT) (k : KV) (J : J29) (f : FT) (h : H) (l_0 : Nat) (c_0 : Nat) : chunkA env c q29 u29 (f29 J) d29 (retA env Go.Proofs.Tryd.f29.results.toList k) .root (fset f 0 (.str l_0 c_0)) h = s29_0 c k J l_0 c_0 h := by kernel_rfl
theorem e29_1 (c : Caller Prop FT) (k : KV) (J : J29) (f : FT) (h : H) (l_0 : Nat) (c_0 : Nat) (v_8 : AV) (n_9 : Int) (n_10 : Int) : chunkA env c q29 u29 (f29 J) d29 (retA env Go.Proofs.Tryd.f29.results.toList k) (.l (.r (.l (.r .root)))) (fset (fset (fset (fset f 0 (.str l_0 c_0)) 8 v_8) 9 (.int .i64 n_9)) 10 (.int .i64 n_10)) h = s29_1 c k J l_0 c_0 v_8 n_9 n_10 h := by kernel_rfl
theorem w29 {c : Caller Prop FT} (hc : CallOk Go.Proofs.Tryd.prog (CP env) G (fun p => p) c) {k : KV} {n : Nat} {args : List AV} {h : H} (hg : f29 (r29 c k n) 0 (finit args) h) : SW Go.Proofs.Tryd.prog G (.func 29) args h k :=
  fn_ok mixed envOk hc q29 Go.Proofs.Tryd.func29 rfl (by kernel_rfl) (by kernel_rfl) k u29 (fun n => f29 (r29 c k n))
    (fun L f h hl => by
      match L, hl with
      | 0, hl => obtain ⟨_, _, _, hl0⟩ := asS_inv (show _ from hl); exact hl0
      | 1, hl => obtain ⟨_, _, _, hl0⟩ := asS_inv (show _ from hl); obtain ⟨_, _, hl1⟩ := asI_inv (show _ from hl0); obtain ⟨_, _, hl2⟩ := asI_inv (show _ from hl1); exact hl2
      | _ + 2, hl => exact hl)
    (fun n p L hm f h hl => by
      simp only [u29, List.mem_cons, Prod.mk.injEq, List.not_mem_nil, or_false] at hm
      rcases hm with ⟨rfl, rfl⟩ | ⟨rfl, rfl⟩
      · have hl : f29 (r29 c k (n + 1)) 0 f h := hl
        obtain ⟨l_0, c_0, e_0, hl0⟩ := asS_inv hl
        have hh := e29_0 c k (r29 c k n) f h l_0 c_0
        rw [fset_self e_0] at hh
        exact Eq.mpr hh hl0
      · have hl : f29 (r29 c k (n + 1)) 1 f h := hl
        obtain ⟨l_0, c_0, e_0, hl0⟩ := asS_inv hl
        obtain ⟨n_9, e_9, hl2⟩ := asI_inv hl0
        obtain ⟨n_10, e_10, hl3⟩ := asI_inv hl2
        have hh := e29_1 c k (r29 c k n) f h l_0 c_0 (f 8) n_9 n_10
        rw [fset_self e_0] at hh
        rw [fset_self (rfl : f 8 = f 8)] at hh
        rw [fset_self e_9] at hh
        rw [fset_self e_10] at hh
        exact Eq.mpr hh hl3
    ) (by simp [u29]) hg

theorem e37_0 (c : Caller Prop FT) (k : KV) (J : J37) (f : FT) (h : H) (l_0 : Nat) (c_0 : Nat) (n_1 : Int) : chunkA env c q37 u37 (f37 J) d37 (retA env Go.Proofs.Tryd.f37.results.toList k) .root (fset (fset f 0 (.str l_0 c_0)) 1 (.int .u8 n_1)) h = s37_0 c k J l_0 c_0 n_1 h := by kernel_rfl
theorem e37_1 (c : Caller Prop FT) (k : KV) (J : J37) (f : FT) (h : H) (l_0 : Nat) (c_0 : Nat) (n_1 : Int) : chunkA env c q37 u37 (f37 J) d37 (retA env Go.Proofs.Tryd.f37.results.toList k) (.l (.l (.r .root))) (fset (fset f 0 (.str l_0 c_0)) 1 (.int .u8 n_1)) h = s37_1 c k J l_0 c_0 n_1 h := by kernel_rfl
theorem w37 {c : Caller Prop FT} (hc : CallOk Go.Proofs.Tryd.prog (CP env) G (fun p => p) c) {k : KV} {n : Nat} {args : List AV} {h : H} (hg : f37 (r37 c k n) 0 (finit args) h) : SW Go.Proofs.Tryd.prog G (.func 37) args h k :=
  fn_ok mixed envOk hc q37 Go.Proofs.Tryd.func37 rfl (by kernel_rfl) (by kernel_rfl) k u37 (fun n => f37 (r37 c k n))
    (fun L f h hl => by
      match L, hl with
      | 0, hl => obtain ⟨_, _, _, hl0⟩ := asS_inv (show _ from hl); obtain ⟨_, _, hl1⟩ := asI_inv (show _ from hl0); exact hl1
      | 1, hl => obtain ⟨_, _, _, hl0⟩ := asS_inv (show _ from hl); obtain ⟨_, _, hl1⟩ := asI_inv (show _ from hl0); exact hl1
      | _ + 2, hl => exact hl)
    (fun n p L hm f h hl => by
      simp only [u37, List.mem_cons, Prod.mk.injEq, List.not_mem_nil, or_false] at hm
      rcases hm with ⟨rfl, rfl⟩ | ⟨rfl, rfl⟩
      · have hl : f37 (r37 c k (n + 1)) 0 f h := hl
        obtain ⟨l_0, c_0, e_0, hl0⟩ := asS_inv hl
        obtain ⟨n_1, e_1, hl1⟩ := asI_inv hl0
        have hh := e37_0 c k (r37 c k n) f h l_0 c_0 n_1
        rw [fset_self e_0] at hh
        rw [fset_self e_1] at hh
        exact Eq.mpr hh hl1
      · have hl : f37 (r37 c k (n + 1)) 1 f h := hl
        obtain ⟨l_0, c_0, e_0, hl0⟩ := asS_inv hl
        obtain ⟨n_1, e_1, hl1⟩ := asI_inv hl0
        have hh := e37_1 c k (r37 c k n) f h l_0 c_0 n_1
        rw [fset_self e_0] at hh
        rw [fset_self e_1] at hh
        exact Eq.mpr hh hl1
    ) (by simp [u37]) hg

theorem e65_0 (c : Caller Prop FT) (k : KV) (J : J65) (f : FT) (h : H) (l_0 : Nat) (c_0 : Nat) (n_1 : Int) : chunkA env c q65 u65 (f65 J) d65 (retA env Go.Proofs.Tryd.f65.results.toList k) .root (fset (fset f 0 (.str l_0 c_0)) 1 (.int .u8 n_1)) h = s65_0 c k J l_0 c_0 n_1 h := by kernel_rfl
theorem w65 {c : Caller Prop FT} (hc : CallOk Go.Proofs.Tryd.prog (CP env) G (fun p => p) c) {k : KV} {n : Nat} {args : List AV} {h : H} (hg : f65 (r65 c k n) 0 (finit args) h) : SW Go.Proofs.Tryd.prog G (.func 65) args h k :=
  fn_ok mixed envOk hc q65 Go.Proofs.Tryd.func65 rfl (by kernel_rfl) (by kernel_rfl) k u65 (fun n => f65 (r65 c k n))
    (fun L f h hl => by
      match L, hl with
      | 0, hl => obtain ⟨_, _, _, hl0⟩ := asS_inv (show _ from hl); obtain ⟨_, _, hl1⟩ := asI_inv (show _ from hl0); exact hl1
      | _ + 1, hl => exact hl)
    (fun n p L hm f h hl => by
      simp only [u65, List.mem_cons, Prod.mk.injEq, List.not_mem_nil, or_false] at hm
      rcases hm with ⟨rfl, rfl⟩
      · have hl : f65 (r65 c k (n + 1)) 0 f h := hl
        obtain ⟨l_0, c_0, e_0, hl0⟩ := asS_inv hl
        obtain ⟨n_1, e_1, hl1⟩ := asI_inv hl0
        have hh := e65_0 c k (r65 c k n) f h l_0 c_0 n_1
        rw [fset_self e_0] at hh
        rw [fset_self e_1] at hh
        exact Eq.mpr hh hl1
    ) (by simp [u65]) hg

end Go.Den
namespace Go.Den
set_option maxRecDepth 100000
theorem e7_0 (c : Caller Prop FT) (k : KV) (J : J7) (f : FT) (h : H) (v_0 : AV) (n_1 : Int) : chunkA env c q7 u7 (f7 J) d7 (retA env Go.Proofs.Tryd.f7.results.toList k) .root (fset (fset f 0 v_0) 1 (.int .i64 n_1)) h = s7_0 c k J v_0 n_1 h := by kernel_rfl
theorem e7_1 (c : Caller Prop FT) (k : KV) (J : J7) (f : FT) (h : H) (v_0 : AV) (n_1 : Int) (l_5 : Nat) (c_5 : Nat) (n_6 : Int) : chunkA env c q7 u7 (f7 J) d7 (retA env Go.Proofs.Tryd.f7.results.toList k) (.l (.r (.l (.r (.r (.r .root)))))) (fset (fset (fset (fset f 0 v_0) 1 (.int .i64 n_1)) 5 (.str l_5 c_5)) 6 (.int .i64 n_6)) h = s7_1 c k J v_0 n_1 l_5 c_5 n_6 h := by kernel_rfl
theorem e7_2 (c : Caller Prop FT) (k : KV) (J : J7) (f : FT) (h : H) (v_0 : AV) (l_7 : Nat) (c_7 : Nat) (v_8 : AV) (b_9 : Bool) (b_11 : Bool) (b_13 : Bool) (n_15 : Int) (n_16 : Int) : chunkA env c q7 u7 (f7 J) d7 (retA env Go.Proofs.Tryd.f7.results.toList k) (.l (.r (.l (.r (.l (.r (.l (.r (.r (.r (.r (.r (.r (.r (.r (.r (.r .root))))))))))))))))) (fset (fset (fset (fset (fset (fset (fset (fset f 0 v_0) 7 (.str l_7 c_7)) 8 v_8) 9 (.bool b_9)) 11 (.bool b_11)) 13 (.bool b_13)) 15 (.int .u32 n_15)) 16 (.int .i64 n_16)) h = s7_2 c k J v_0 l_7 c_7 v_8 b_9 b_11 b_13 n_15 n_16 h := by kernel_rfl
theorem e7_3 (c : Caller Prop FT) (k : KV) (J : J7) (f : FT) (h : H) (l_7 : Nat) (c_7 : Nat) (v_8 : AV) (b_9 : Bool) (b_11 : Bool) (b_13 : Bool) (n_14 : Int) : chunkA env c q7 u7 (f7 J) d7 (retA env Go.Proofs.Tryd.f7.results.toList k) (.r (.r (.r (.r (.r (.r (.r (.r (.r (.r (.r .root))))))))))) (fset (fset (fset (fset (fset (fset f 7 (.str l_7 c_7)) 8 v_8) 9 (.bool b_9)) 11 (.bool b_11)) 13 (.bool b_13)) 14 (.int .i64 n_14)) h = s7_3 c k J l_7 c_7 v_8 b_9 b_11 b_13 n_14 h := by kernel_rfl
theorem e7_4 (c : Caller Prop FT) (k : KV) (J : J7) (f : FT) (h : H) (v_0 : AV) (l_7 : Nat) (c_7 : Nat) (v_8 : AV) (b_9 : Bool) (b_11 : Bool) (b_13 : Bool) : chunkA env c q7 u7 (f7 J) d7 (retA env Go.Proofs.Tryd.f7.results.toList k) (.r (.r (.r (.r (.r (.r (.r (.r .root)))))))) (fset (fset (fset (fset (fset (fset f 0 v_0) 7 (.str l_7 c_7)) 8 v_8) 9 (.bool b_9)) 11 (.bool b_11)) 13 (.bool b_13)) h = s7_4 c k J v_0 l_7 c_7 v_8 b_9 b_11 b_13 h := by kernel_rfl
theorem w7 {c : Caller Prop FT} (hc : CallOk Go.Proofs.Tryd.prog (CP env) G (fun p => p) c) {k : KV} {n : Nat} {args : List AV} {h : H} (hg : f7 (r7 c k n) 0 (finit args) h) : SW Go.Proofs.Tryd.prog G (.func 7) args h k :=
  fn_ok mixed envOk hc q7 Go.Proofs.Tryd.func7 rfl (by kernel_rfl) (by kernel_rfl) k u7 (fun n => f7 (r7 c k n))
    (fun L f h hl => by
      match L, hl with
      | 0, hl => obtain ⟨_, _, hl0⟩ := asI_inv (show _ from hl); exact hl0
      | 1, hl => obtain ⟨_, _, hl0⟩ := asI_inv (show _ from hl); obtain ⟨_, _, _, hl1⟩ := asS_inv (show _ from hl0); obtain ⟨_, _, hl2⟩ := asI_inv (show _ from hl1); exact hl2
      | 2, hl => obtain ⟨_, _, _, hl0⟩ := asS_inv (show _ from hl); obtain ⟨_, _, hl1⟩ := asB_inv (show _ from hl0); obtain ⟨_, _, hl2⟩ := asB_inv (show _ from hl1); obtain ⟨_, _, hl3⟩ := asB_inv (show _ from hl2); obtain ⟨_, _, hl4⟩ := asI_inv (show _ from hl3); obtain ⟨_, _, hl5⟩ := asI_inv (show _ from hl4); exact hl5
      | 3, hl => obtain ⟨_, _, _, hl0⟩ := asS_inv (show _ from hl); obtain ⟨_, _, hl1⟩ := asB_inv (show _ from hl0); obtain ⟨_, _, hl2⟩ := asB_inv (show _ from hl1); obtain ⟨_, _, hl3⟩ := asB_inv (show _ from hl2); obtain ⟨_, _, hl4⟩ := asI_inv (show _ from hl3); exact hl4
      | 4, hl => obtain ⟨_, _, _, hl0⟩ := asS_inv (show _ from hl); obtain ⟨_, _, hl1⟩ := asB_inv (show _ from hl0); obtain ⟨_, _, hl2⟩ := asB_inv (show _ from hl1); obtain ⟨_, _, hl3⟩ := asB_inv (show _ from hl2); exact hl3
      | _ + 5, hl => exact hl)
    (fun n p L hm f h hl => by
      simp only [u7, List.mem_cons, Prod.mk.injEq, List.not_mem_nil, or_false] at hm
      rcases hm with ⟨rfl, rfl⟩ | ⟨rfl, rfl⟩ | ⟨rfl, rfl⟩ | ⟨rfl, rfl⟩ | ⟨rfl, rfl⟩
      · have hl : f7 (r7 c k (n + 1)) 0 f h := hl
        obtain ⟨n_1, e_1, hl1⟩ := asI_inv hl
        have hh := e7_0 c k (r7 c k n) f h (f 0) n_1
        rw [fset_self (rfl : f 0 = f 0)] at hh
        rw [fset_self e_1] at hh
        exact Eq.mpr hh hl1
      · have hl : f7 (r7 c k (n + 1)) 1 f h := hl
        obtain ⟨n_1, e_1, hl1⟩ := asI_inv hl
        obtain ⟨l_5, c_5, e_5, hl2⟩ := asS_inv hl1
        obtain ⟨n_6, e_6, hl3⟩ := asI_inv hl2
        have hh := e7_1 c k (r7 c k n) f h (f 0) n_1 l_5 c_5 n_6
        rw [fset_self (rfl : f 0 = f 0)] at hh
        rw [fset_self e_1] at hh
        rw [fset_self e_5] at hh
        rw [fset_self e_6] at hh
        exact Eq.mpr hh hl3
      · have hl : f7 (r7 c k (n + 1)) 2 f h := hl
        obtain ⟨l_7, c_7, e_7, hl1⟩ := asS_inv hl
        obtain ⟨b_9, e_9, hl3⟩ := asB_inv hl1
        obtain ⟨b_11, e_11, hl4⟩ := asB_inv hl3
        obtain ⟨b_13, e_13, hl5⟩ := asB_inv hl4
        obtain ⟨n_15, e_15, hl6⟩ := asI_inv hl5
        obtain ⟨n_16, e_16, hl7⟩ := asI_inv hl6
        have hh := e7_2 c k (r7 c k n) f h (f 0) l_7 c_7 (f 8) b_9 b_11 b_13 n_15 n_16
        rw [fset_self (rfl : f 0 = f 0)] at hh
        rw [fset_self e_7] at hh
        rw [fset_self (rfl : f 8 = f 8)] at hh
        rw [fset_self e_9] at hh
        rw [fset_self e_11] at hh
        rw [fset_self e_13] at hh
        rw [fset_self e_15] at hh
        rw [fset_self e_16] at hh
        exact Eq.mpr hh hl7
      · have hl : f7 (r7 c k (n + 1)) 3 f h := hl
        obtain ⟨l_7, c_7, e_7, hl0⟩ := asS_inv hl
        obtain ⟨b_9, e_9, hl2⟩ := asB_inv hl0
        obtain ⟨b_11, e_11, hl3⟩ := asB_inv hl2
        obtain ⟨b_13, e_13, hl4⟩ := asB_inv hl3
        obtain ⟨n_14, e_14, hl5⟩ := asI_inv hl4
        have hh := e7_3 c k (r7 c k n) f h l_7 c_7 (f 8) b_9 b_11 b_13 n_14
        rw [fset_self e_7] at hh
        rw [fset_self (rfl : f 8 = f 8)] at hh
        rw [fset_self e_9] at hh
        rw [fset_self e_11] at hh
        rw [fset_self e_13] at hh
        rw [fset_self e_14] at hh
        exact Eq.mpr hh hl5
      · have hl : f7 (r7 c k (n + 1)) 4 f h := hl
        obtain ⟨l_7, c_7, e_7, hl1⟩ := asS_inv hl
        obtain ⟨b_9, e_9, hl3⟩ := asB_inv hl1
        obtain ⟨b_11, e_11, hl4⟩ := asB_inv hl3
        obtain ⟨b_13, e_13, hl5⟩ := asB_inv hl4
        have hh := e7_4 c k (r7 c k n) f h (f 0) l_7 c_7 (f 8) b_9 b_11 b_13
        rw [fset_self (rfl : f 0 = f 0)] at hh
        rw [fset_self e_7] at hh
        rw [fset_self (rfl : f 8 = f 8)] at hh
        rw [fset_self e_9] at hh
        rw [fset_self e_11] at hh
        rw [fset_self e_13] at hh
        exact Eq.mpr hh hl5
    ) (by simp [u7]) hg

theorem e9_0 (c : Caller Prop FT) (k : KV) (J : J9) (f : FT) (h : H) (l_0 : Nat) (c_0 : Nat) : chunkA env c q9 u9 (f9 J) d9 (retA env Go.Proofs.Tryd.f9.results.toList k) .root (fset f 0 (.str l_0 c_0)) h = s9_0 c k J l_0 c_0 h := by kernel_rfl
theorem e9_1 (c : Caller Prop FT) (k : KV) (J : J9) (f : FT) (h : H) (v_2 : AV) (l_4 : Nat) (c_4 : Nat) (b_5 : Bool) (b_6 : Bool) (n_7 : Int) (l_8 : Nat) (c_8 : Nat) : chunkA env c q9 u9 (f9 J) d9 (retA env Go.Proofs.Tryd.f9.results.toList k) (.r (.r (.r (.r (.r .root))))) (fset (fset (fset (fset (fset (fset f 2 v_2) 4 (.str l_4 c_4)) 5 (.bool b_5)) 6 (.bool b_6)) 7 (.int .i64 n_7)) 8 (.str l_8 c_8)) h = s9_1 c k J v_2 l_4 c_4 b_5 b_6 n_7 l_8 c_8 h := by kernel_rfl
theorem w9 {c : Caller Prop FT} (hc : CallOk Go.Proofs.Tryd.prog (CP env) G (fun p => p) c) {k : KV} {n : Nat} {args : List AV} {h : H} (hg : f9 (r9 c k n) 0 (finit args) h) : SW Go.Proofs.Tryd.prog G (.func 9) args h k :=
  fn_ok mixed envOk hc q9 Go.Proofs.Tryd.func9 rfl (by kernel_rfl) (by kernel_rfl) k u9 (fun n => f9 (r9 c k n))
    (fun L f h hl => by
      match L, hl with
      | 0, hl => obtain ⟨_, _, _, hl0⟩ := asS_inv (show _ from hl); exact hl0
      | 1, hl => obtain ⟨_, _, _, hl0⟩ := asS_inv (show _ from hl); obtain ⟨_, _, hl1⟩ := asB_inv (show _ from hl0); obtain ⟨_, _, hl2⟩ := asB_inv (show _ from hl1); obtain ⟨_, _, hl3⟩ := asI_inv (show _ from hl2); obtain ⟨_, _, _, hl4⟩ := asS_inv (show _ from hl3); exact hl4
      | _ + 2, hl => exact hl)
    (fun n p L hm f h hl => by
      simp only [u9, List.mem_cons, Prod.mk.injEq, List.not_mem_nil, or_false] at hm
      rcases hm with ⟨rfl, rfl⟩ | ⟨rfl, rfl⟩
      · have hl : f9 (r9 c k (n + 1)) 0 f h := hl
        obtain ⟨l_0, c_0, e_0, hl0⟩ := asS_inv hl
        have hh := e9_0 c k (r9 c k n) f h l_0 c_0
        rw [fset_self e_0] at hh
        exact Eq.mpr hh hl0
      · have hl : f9 (r9 c k (n + 1)) 1 f h := hl
        obtain ⟨l_4, c_4, e_4, hl1⟩ := asS_inv hl
        obtain ⟨b_5, e_5, hl2⟩ := asB_inv hl1
        obtain ⟨b_6, e_6, hl3⟩ := asB_inv hl2
        obtain ⟨n_7, e_7, hl4⟩ := asI_inv hl3
        obtain ⟨l_8, c_8, e_8, hl5⟩ := asS_inv hl4
        have hh := e9_1 c k (r9 c k n) f h (f 2) l_4 c_4 b_5 b_6 n_7 l_8 c_8
        rw [fset_self (rfl : f 2 = f 2)] at hh
        rw [fset_self e_4] at hh
        rw [fset_self e_5] at hh
        rw [fset_self e_6] at hh
        rw [fset_self e_7] at hh
        rw [fset_self e_8] at hh
        exact Eq.mpr hh hl5
    ) (by simp [u9]) hg

theorem e10_0 (c : Caller Prop FT) (k : KV) (J : J10) (f : FT) (h : H) (l_0 : Nat) (c_0 : Nat) : chunkA env c q10 u10 (f10 J) d10 (retA env Go.Proofs.Tryd.f10.results.toList k) .root (fset f 0 (.str l_0 c_0)) h = s10_0 c k J l_0 c_0 h := by kernel_rfl
theorem e10_1 (c : Caller Prop FT) (k : KV) (J : J10) (f : FT) (h : H) (l_0 : Nat) (c_0 : Nat) (v_2 : AV) (n_4 : Int) (n_5 : Int) (n_6 : Int) (n_7 : Int) (n_8 : Int) : chunkA env c q10 u10 (f10 J) d10 (retA env Go.Proofs.Tryd.f10.results.toList k) (.l (.r (.l (.r (.r (.r (.r (.r (.r .root))))))))) (fset (fset (fset (fset (fset (fset (fset f 0 (.str l_0 c_0)) 2 v_2) 4 (.int .i64 n_4)) 5 (.int .i64 n_5)) 6 (.int .i64 n_6)) 7 (.int .u64 n_7)) 8 (.int .i64 n_8)) h = s10_1 c k J l_0 c_0 v_2 n_4 n_5 n_6 n_7 n_8 h := by kernel_rfl
theorem e10_2 (c : Caller Prop FT) (k : KV) (J : J10) (f : FT) (h : H) (l_0 : Nat) (c_0 : Nat) (v_2 : AV) (n_4 : Int) (n_5 : Int) : chunkA env c q10 u10 (f10 J) d10 (retA env Go.Proofs.Tryd.f10.results.toList k) (.r (.r (.r .root))) (fset (fset (fset (fset f 0 (.str l_0 c_0)) 2 v_2) 4 (.int .i64 n_4)) 5 (.int .i64 n_5)) h = s10_2 c k J l_0 c_0 v_2 n_4 n_5 h := by kernel_rfl
theorem w10 {c : Caller Prop FT} (hc : CallOk Go.Proofs.Tryd.prog (CP env) G (fun p => p) c) {k : KV} {n : Nat} {args : List AV} {h : H} (hg : f10 (r10 c k n) 0 (finit args) h) : SW Go.Proofs.Tryd.prog G (.func 10) args h k :=
  fn_ok mixed envOk hc q10 Go.Proofs.Tryd.func10 rfl (by kernel_rfl) (by kernel_rfl) k u10 (fun n => f10 (r10 c k n))
    (fun L f h hl => by
      match L, hl with
      | 0, hl => obtain ⟨_, _, _, hl0⟩ := asS_inv (show _ from hl); exact hl0
      | 1, hl => obtain ⟨_, _, _, hl0⟩ := asS_inv (show _ from hl); obtain ⟨_, _, hl1⟩ := asI_inv (show _ from hl0); obtain ⟨_, _, hl2⟩ := asI_inv (show _ from hl1); obtain ⟨_, _, hl3⟩ := asI_inv (show _ from hl2); obtain ⟨_, _, hl4⟩ := asI_inv (show _ from hl3); obtain ⟨_, _, hl5⟩ := asI_inv (show _ from hl4); exact hl5
      | 2, hl => obtain ⟨_, _, _, hl0⟩ := asS_inv (show _ from hl); obtain ⟨_, _, hl1⟩ := asI_inv (show _ from hl0); obtain ⟨_, _, hl2⟩ := asI_inv (show _ from hl1); exact hl2
      | _ + 3, hl => exact hl)
    (fun n p L hm f h hl => by
      simp only [u10, List.mem_cons, Prod.mk.injEq, List.not_mem_nil, or_false] at hm
      rcases hm with ⟨rfl, rfl⟩ | ⟨rfl, rfl⟩ | ⟨rfl, rfl⟩
      · have hl : f10 (r10 c k (n + 1)) 0 f h := hl
        obtain ⟨l_0, c_0, e_0, hl0⟩ := asS_inv hl
        have hh := e10_0 c k (r10 c k n) f h l_0 c_0
        rw [fset_self e_0] at hh
        exact Eq.mpr hh hl0
      · have hl : f10 (r10 c k (n + 1)) 1 f h := hl
        obtain ⟨l_0, c_0, e_0, hl0⟩ := asS_inv hl
        obtain ⟨n_4, e_4, hl2⟩ := asI_inv hl0
        obtain ⟨n_5, e_5, hl3⟩ := asI_inv hl2
        obtain ⟨n_6, e_6, hl4⟩ := asI_inv hl3
        obtain ⟨n_7, e_7, hl5⟩ := asI_inv hl4
        obtain ⟨n_8, e_8, hl6⟩ := asI_inv hl5
        have hh := e10_1 c k (r10 c k n) f h l_0 c_0 (f 2) n_4 n_5 n_6 n_7 n_8
        rw [fset_self e_0] at hh
        rw [fset_self (rfl : f 2 = f 2)] at hh
        rw [fset_self e_4] at hh
        rw [fset_self e_5] at hh
        rw [fset_self e_6] at hh
        rw [fset_self e_7] at hh
        rw [fset_self e_8] at hh
        exact Eq.mpr hh hl6
      · have hl : f10 (r10 c k (n + 1)) 2 f h := hl
        obtain ⟨l_0, c_0, e_0, hl0⟩ := asS_inv hl
        obtain ⟨n_4, e_4, hl2⟩ := asI_inv hl0
        obtain ⟨n_5, e_5, hl3⟩ := asI_inv hl2
        have hh := e10_2 c k (r10 c k n) f h l_0 c_0 (f 2) n_4 n_5
        rw [fset_self e_0] at hh
        rw [fset_self (rfl : f 2 = f 2)] at hh
        rw [fset_self e_4] at hh
        rw [fset_self e_5] at hh
        exact Eq.mpr hh hl3
    ) (by simp [u10]) hg

theorem e11_0 (c : Caller Prop FT) (k : KV) (J : J11) (f : FT) (h : H) (l_0 : Nat) (c_0 : Nat) : chunkA env c q11 u11 (f11 J) d11 (retA env Go.Proofs.Tryd.f11.results.toList k) .root (fset f 0 (.str l_0 c_0)) h = s11_0 c k J l_0 c_0 h := by kernel_rfl
theorem e11_1 (c : Caller Prop FT) (k : KV) (J : J11) (f : FT) (h : H) (v_2 : AV) (l_4 : Nat) (c_4 : Nat) (l_6 : Nat) (c_6 : Nat) (n_9 : Int) (n_52 : Int) (n_53 : Int) : chunkA env c q11 u11 (f11 J) d11 (retA env Go.Proofs.Tryd.f11.results.toList k) (.l (.r (.l (.r (.l (.r (.l (.r (.r (.r (.r (.r .root)))))))))))) (fset (fset (fset (fset (fset (fset f 2 v_2) 4 (.str l_4 c_4)) 6 (.str l_6 c_6)) 9 (.int .u32 n_9)) 52 (.int .i64 n_52)) 53 (.int .i64 n_53)) h = s11_1 c k J v_2 l_4 c_4 l_6 c_6 n_9 n_52 n_53 h := by kernel_rfl
theorem e11_2 (c : Caller Prop FT) (k : KV) (J : J11) (f : FT) (h : H) (v_2 : AV) (l_6 : Nat) (c_6 : Nat) (n_8 : Int) : chunkA env c q11 u11 (f11 J) d11 (retA env Go.Proofs.Tryd.f11.results.toList k) (.r (.r (.r (.r (.r (.r .root)))))) (fset (fset (fset f 2 v_2) 6 (.str l_6 c_6)) 8 (.int .i64 n_8)) h = s11_2 c k J v_2 l_6 c_6 n_8 h := by kernel_rfl
theorem w11 {c : Caller Prop FT} (hc : CallOk Go.Proofs.Tryd.prog (CP env) G (fun p => p) c) {k : KV} {n : Nat} {args : List AV} {h : H} (hg : f11 (r11 c k n) 0 (finit args) h) : SW Go.Proofs.Tryd.prog G (.func 11) args h k :=
  fn_ok mixed envOk hc q11 Go.Proofs.Tryd.func11 rfl (by kernel_rfl) (by kernel_rfl) k u11 (fun n => f11 (r11 c k n))
    (fun L f h hl => by
      match L, hl with
      | 0, hl => obtain ⟨_, _, _, hl0⟩ := asS_inv (show _ from hl); exact hl0
      | 1, hl => obtain ⟨_, _, _, hl0⟩ := asS_inv (show _ from hl); obtain ⟨_, _, _, hl1⟩ := asS_inv (show _ from hl0); obtain ⟨_, _, hl2⟩ := asI_inv (show _ from hl1); obtain ⟨_, _, hl3⟩ := asI_inv (show _ from hl2); obtain ⟨_, _, hl4⟩ := asI_inv (show _ from hl3); exact hl4
      | 2, hl => obtain ⟨_, _, _, hl0⟩ := asS_inv (show _ from hl); obtain ⟨_, _, hl1⟩ := asI_inv (show _ from hl0); exact hl1
      | _ + 3, hl => exact hl)
    (fun n p L hm f h hl => by
      simp only [u11, List.mem_cons, Prod.mk.injEq, List.not_mem_nil, or_false] at hm
      rcases hm with ⟨rfl, rfl⟩ | ⟨rfl, rfl⟩ | ⟨rfl, rfl⟩
      · have hl : f11 (r11 c k (n + 1)) 0 f h := hl
        obtain ⟨l_0, c_0, e_0, hl0⟩ := asS_inv hl
        have hh := e11_0 c k (r11 c k n) f h l_0 c_0
        rw [fset_self e_0] at hh
        exact Eq.mpr hh hl0
      · have hl : f11 (r11 c k (n + 1)) 1 f h := hl
        obtain ⟨l_4, c_4, e_4, hl1⟩ := asS_inv hl
        obtain ⟨l_6, c_6, e_6, hl2⟩ := asS_inv hl1
        obtain ⟨n_9, e_9, hl3⟩ := asI_inv hl2
        obtain ⟨n_52, e_52, hl4⟩ := asI_inv hl3
        obtain ⟨n_53, e_53, hl5⟩ := asI_inv hl4
        have hh := e11_1 c k (r11 c k n) f h (f 2) l_4 c_4 l_6 c_6 n_9 n_52 n_53
        rw [fset_self (rfl : f 2 = f 2)] at hh
        rw [fset_self e_4] at hh
        rw [fset_self e_6] at hh
        rw [fset_self e_9] at hh
        rw [fset_self e_52] at hh
        rw [fset_self e_53] at hh
        exact Eq.mpr hh hl5
      · have hl : f11 (r11 c k (n + 1)) 2 f h := hl
        obtain ⟨l_6, c_6, e_6, hl1⟩ := asS_inv hl
        obtain ⟨n_8, e_8, hl2⟩ := asI_inv hl1
        have hh := e11_2 c k (r11 c k n) f h (f 2) l_6 c_6 n_8
        rw [fset_self (rfl : f 2 = f 2)] at hh
        rw [fset_self e_6] at hh
        rw [fset_self e_8] at hh
        exact Eq.mpr hh hl2
    ) (by simp [u11]) hg

theorem e12_0 (c : Caller Prop FT) (k : KV) (J : J12) (f : FT) (h : H) (l_0 : Nat) (c_0 : Nat) : chunkA env c q12 u12 (f12 J) d12 (retA env Go.Proofs.Tryd.f12.results.toList k) .root (fset f 0 (.str l_0 c_0)) h = s12_0 c k J l_0 c_0 h := by kernel_rfl
theorem e12_1 (c : Caller Prop FT) (k : KV) (J : J12) (f : FT) (h : H) (v_2 : AV) (l_4 : Nat) (c_4 : Nat) (l_7 : Nat) (c_7 : Nat) (n_9 : Int) (n_10 : Int) : chunkA env c q12 u12 (f12 J) d12 (retA env Go.Proofs.Tryd.f12.results.toList k) (.l (.r (.l (.r (.r (.l (.r (.r (.r (.r (.r .root))))))))))) (fset (fset (fset (fset (fset f 2 v_2) 4 (.str l_4 c_4)) 7 (.str l_7 c_7)) 9 (.int .i64 n_9)) 10 (.int .i64 n_10)) h = s12_1 c k J v_2 l_4 c_4 l_7 c_7 n_9 n_10 h := by kernel_rfl
theorem e12_2 (c : Caller Prop FT) (k : KV) (J : J12) (f : FT) (h : H) (v_2 : AV) (l_4 : Nat) (c_4 : Nat) (n_9 : Int) : chunkA env c q12 u12 (f12 J) d12 (retA env Go.Proofs.Tryd.f12.results.toList k) (.r (.r (.r (.r (.r (.r .root)))))) (fset (fset (fset f 2 v_2) 4 (.str l_4 c_4)) 9 (.int .i64 n_9)) h = s12_2 c k J v_2 l_4 c_4 n_9 h := by kernel_rfl
theorem w12 {c : Caller Prop FT} (hc : CallOk Go.Proofs.Tryd.prog (CP env) G (fun p => p) c) {k : KV} {n : Nat} {args : List AV} {h : H} (hg : f12 (r12 c k n) 0 (finit args) h) : SW Go.Proofs.Tryd.prog G (.func 12) args h k :=
  fn_ok mixed envOk hc q12 Go.Proofs.Tryd.func12 rfl (by kernel_rfl) (by kernel_rfl) k u12 (fun n => f12 (r12 c k n))
    (fun L f h hl => by
      match L, hl with
      | 0, hl => obtain ⟨_, _, _, hl0⟩ := asS_inv (show _ from hl); exact hl0
      | 1, hl => obtain ⟨_, _, _, hl0⟩ := asS_inv (show _ from hl); obtain ⟨_, _, _, hl1⟩ := asS_inv (show _ from hl0); obtain ⟨_, _, hl2⟩ := asI_inv (show _ from hl1); obtain ⟨_, _, hl3⟩ := asI_inv (show _ from hl2); exact hl3
      | 2, hl => obtain ⟨_, _, _, hl0⟩ := asS_inv (show _ from hl); obtain ⟨_, _, hl1⟩ := asI_inv (show _ from hl0); exact hl1
      | _ + 3, hl => exact hl)
    (fun n p L hm f h hl => by
      simp only [u12, List.mem_cons, Prod.mk.injEq, List.not_mem_nil, or_false] at hm
      rcases hm with ⟨rfl, rfl⟩ | ⟨rfl, rfl⟩ | ⟨rfl, rfl⟩
      · have hl : f12 (r12 c k (n + 1)) 0 f h := hl
        obtain ⟨l_0, c_0, e_0, hl0⟩ := asS_inv hl
        have hh := e12_0 c k (r12 c k n) f h l_0 c_0
        rw [fset_self e_0] at hh
        exact Eq.mpr hh hl0
      · have hl : f12 (r12 c k (n + 1)) 1 f h := hl
        obtain ⟨l_4, c_4, e_4, hl1⟩ := asS_inv hl
        obtain ⟨l_7, c_7, e_7, hl2⟩ := asS_inv hl1
        obtain ⟨n_9, e_9, hl3⟩ := asI_inv hl2
        obtain ⟨n_10, e_10, hl4⟩ := asI_inv hl3
        have hh := e12_1 c k (r12 c k n) f h (f 2) l_4 c_4 l_7 c_7 n_9 n_10
        rw [fset_self (rfl : f 2 = f 2)] at hh
        rw [fset_self e_4] at hh
        rw [fset_self e_7] at hh
        rw [fset_self e_9] at hh
        rw [fset_self e_10] at hh
        exact Eq.mpr hh hl4
      · have hl : f12 (r12 c k (n + 1)) 2 f h := hl
        obtain ⟨l_4, c_4, e_4, hl1⟩ := asS_inv hl
        obtain ⟨n_9, e_9, hl2⟩ := asI_inv hl1
        have hh := e12_2 c k (r12 c k n) f h (f 2) l_4 c_4 n_9
        rw [fset_self (rfl : f 2 = f 2)] at hh
        rw [fset_self e_4] at hh
        rw [fset_self e_9] at hh
        exact Eq.mpr hh hl2
    ) (by simp [u12]) hg

theorem e20_0 (c : Caller Prop FT) (k : KV) (J : J20) (f : FT) (h : H) (l_0 : Nat) (c_0 : Nat) (l_1 : Nat) (c_1 : Nat) : chunkA env c q20 u20 (f20 J) d20 (retA env Go.Proofs.Tryd.f20.results.toList k) .root (fset (fset f 0 (.str l_0 c_0)) 1 (.str l_1 c_1)) h = s20_0 c k J l_0 c_0 l_1 c_1 h := by kernel_rfl
theorem w20 {c : Caller Prop FT} (hc : CallOk Go.Proofs.Tryd.prog (CP env) G (fun p => p) c) {k : KV} {n : Nat} {args : List AV} {h : H} (hg : f20 (r20 c k n) 0 (finit args) h) : SW Go.Proofs.Tryd.prog G (.func 20) args h k :=
  fn_ok mixed envOk hc q20 Go.Proofs.Tryd.func20 rfl (by kernel_rfl) (by kernel_rfl) k u20 (fun n => f20 (r20 c k n))
    (fun L f h hl => by
      match L, hl with
      | 0, hl => obtain ⟨_, _, _, hl0⟩ := asS_inv (show _ from hl); obtain ⟨_, _, _, hl1⟩ := asS_inv (show _ from hl0); exact hl1
      | _ + 1, hl => exact hl)
    (fun n p L hm f h hl => by
      simp only [u20, List.mem_cons, Prod.mk.injEq, List.not_mem_nil, or_false] at hm
      rcases hm with ⟨rfl, rfl⟩
      · have hl : f20 (r20 c k (n + 1)) 0 f h := hl
        obtain ⟨l_0, c_0, e_0, hl0⟩ := asS_inv hl
        obtain ⟨l_1, c_1, e_1, hl1⟩ := asS_inv hl0
        have hh := e20_0 c k (r20 c k n) f h l_0 c_0 l_1 c_1
        rw [fset_self e_0] at hh
        rw [fset_self e_1] at hh
        exact Eq.mpr hh hl1
    ) (by simp [u20]) hg

theorem e22_0 (c : Caller Prop FT) (k : KV) (J : J22) (f : FT) (h : H) (l_0 : Nat) (c_0 : Nat) : chunkA env c q22 u22 (f22 J) d22 (retA env Go.Proofs.Tryd.f22.results.toList k) .root (fset f 0 (.str l_0 c_0)) h = s22_0 c k J l_0 c_0 h := by kernel_rfl
theorem w22 {c : Caller Prop FT} (hc : CallOk Go.Proofs.Tryd.prog (CP env) G (fun p => p) c) {k : KV} {n : Nat} {args : List AV} {h : H} (hg : f22 (r22 c k n) 0 (finit args) h) : SW Go.Proofs.Tryd.prog G (.func 22) args h k :=
  fn_ok mixed envOk hc q22 Go.Proofs.Tryd.func22 rfl (by kernel_rfl) (by kernel_rfl) k u22 (fun n => f22 (r22 c k n))
    (fun L f h hl => by
      match L, hl with
      | 0, hl => obtain ⟨_, _, _, hl0⟩ := asS_inv (show _ from hl); exact hl0
      | _ + 1, hl => exact hl)
    (fun n p L hm f h hl => by
      simp only [u22, List.mem_cons, Prod.mk.injEq, List.not_mem_nil, or_false] at hm
      rcases hm with ⟨rfl, rfl⟩
      · have hl : f22 (r22 c k (n + 1)) 0 f h := hl
        obtain ⟨l_0, c_0, e_0, hl0⟩ := asS_inv hl
        have hh := e22_0 c k (r22 c k n) f h l_0 c_0
        rw [fset_self e_0] at hh
        exact Eq.mpr hh hl0
    ) (by simp [u22]) hg

theorem e25_0 (c : Caller Prop FT) (k : KV) (J : J25) (f : FT) (h : H) (l_0 : Nat) (c_0 : Nat) (n_1 : Int) (n_2 : Int) : chunkA env c q25 u25 (f25 J) d25 (retA env Go.Proofs.Tryd.f25.results.toList k) .root (fset (fset (fset f 0 (.str l_0 c_0)) 1 (.int .i64 n_1)) 2 (.int .i64 n_2)) h = s25_0 c k J l_0 c_0 n_1 n_2 h := by kernel_rfl
theorem w25 {c : Caller Prop FT} (hc : CallOk Go.Proofs.Tryd.prog (CP env) G (fun p => p) c) {k : KV} {n : Nat} {args : List AV} {h : H} (hg : f25 (r25 c k n) 0 (finit args) h) : SW Go.Proofs.Tryd.prog G (.func 25) args h k :=
  fn_ok mixed envOk hc q25 Go.Proofs.Tryd.func25 rfl (by kernel_rfl) (by kernel_rfl) k u25 (fun n => f25 (r25 c k n))
    (fun L f h hl => by
      match L, hl with
      | 0, hl => obtain ⟨_, _, _, hl0⟩ := asS_inv (show _ from hl); obtain ⟨_, _, hl1⟩ := asI_inv (show _ from hl0); obtain ⟨_, _, hl2⟩ := asI_inv (show _ from hl1); exact hl2
      | _ + 1, hl => exact hl)
    (fun n p L hm f h hl => by
      simp only [u25, List.mem_cons, Prod.mk.injEq, List.not_mem_nil, or_false] at hm
      rcases hm with ⟨rfl, rfl⟩
      · have hl : f25 (r25 c k (n + 1)) 0 f h := hl
        obtain ⟨l_0, c_0, e_0, hl0⟩ := asS_inv hl
        obtain ⟨n_1, e_1, hl1⟩ := asI_inv hl0
        obtain ⟨n_2, e_2, hl2⟩ := asI_inv hl1
        have hh := e25_0 c k (r25 c k n) f h l_0 c_0 n_1 n_2
        rw [fset_self e_0] at hh
        rw [fset_self e_1] at hh
        rw [fset_self e_2] at hh
        exact Eq.mpr hh hl2
    ) (by simp [u25]) hg

theorem e34_0 (c : Caller Prop FT) (k : KV) (J : J34) (f : FT) (h : H) (l_0 : Nat) (c_0 : Nat) : chunkA env c q34 u34 (f34 J) d34 (retA env Go.Proofs.Tryd.f34.results.toList k) .root (fset f 0 (.str l_0 c_0)) h = s34_0 c k J l_0 c_0 h := by kernel_rfl
theorem e34_1 (c : Caller Prop FT) (k : KV) (J : J34) (f : FT) (h : H) (l_0 : Nat) (c_0 : Nat) (n_4 : Int) : chunkA env c q34 u34 (f34 J) d34 (retA env Go.Proofs.Tryd.f34.results.toList k) (.l (.r (.l (.r .root)))) (fset (fset f 0 (.str l_0 c_0)) 4 (.int .i64 n_4)) h = s34_1 c k J l_0 c_0 n_4 h := by kernel_rfl
theorem e34_2 (c : Caller Prop FT) (k : KV) (J : J34) (f : FT) (h : H) (l_0 : Nat) (c_0 : Nat) (n_5 : Int) (n_6 : Int) (n_7 : Int) (n_8 : Int) (n_9 : Int) : chunkA env c q34 u34 (f34 J) d34 (retA env Go.Proofs.Tryd.f34.results.toList k) (.l (.r (.l (.r (.r (.r (.r (.r (.r (.r .root)))))))))) (fset (fset (fset (fset (fset (fset f 0 (.str l_0 c_0)) 5 (.int .i64 n_5)) 6 (.int .i64 n_6)) 7 (.int .i64 n_7)) 8 (.int .i64 n_8)) 9 (.int .i64 n_9)) h = s34_2 c k J l_0 c_0 n_5 n_6 n_7 n_8 n_9 h := by kernel_rfl
theorem e34_3 (c : Caller Prop FT) (k : KV) (J : J34) (f : FT) (h : H) (l_0 : Nat) (c_0 : Nat) (n_5 : Int) (n_6 : Int) (n_7 : Int) (n_8 : Int) : chunkA env c q34 u34 (f34 J) d34 (retA env Go.Proofs.Tryd.f34.results.toList k) (.r (.r (.r (.r (.r (.r .root)))))) (fset (fset (fset (fset (fset f 0 (.str l_0 c_0)) 5 (.int .i64 n_5)) 6 (.int .i64 n_6)) 7 (.int .i64 n_7)) 8 (.int .i64 n_8)) h = s34_3 c k J l_0 c_0 n_5 n_6 n_7 n_8 h := by kernel_rfl
theorem w34 {c : Caller Prop FT} (hc : CallOk Go.Proofs.Tryd.prog (CP env) G (fun p => p) c) {k : KV} {n : Nat} {args : List AV} {h : H} (hg : f34 (r34 c k n) 0 (finit args) h) : SW Go.Proofs.Tryd.prog G (.func 34) args h k :=
  fn_ok mixed envOk hc q34 Go.Proofs.Tryd.func34 rfl (by kernel_rfl) (by kernel_rfl) k u34 (fun n => f34 (r34 c k n))
    (fun L f h hl => by
      match L, hl with
      | 0, hl => obtain ⟨_, _, _, hl0⟩ := asS_inv (show _ from hl); exact hl0
      | 1, hl => obtain ⟨_, _, _, hl0⟩ := asS_inv (show _ from hl); obtain ⟨_, _, hl1⟩ := asI_inv (show _ from hl0); exact hl1
      | 2, hl => obtain ⟨_, _, _, hl0⟩ := asS_inv (show _ from hl); obtain ⟨_, _, hl1⟩ := asI_inv (show _ from hl0); obtain ⟨_, _, hl2⟩ := asI_inv (show _ from hl1); obtain ⟨_, _, hl3⟩ := asI_inv (show _ from hl2); obtain ⟨_, _, hl4⟩ := asI_inv (show _ from hl3); obtain ⟨_, _, hl5⟩ := asI_inv (show _ from hl4); exact hl5
      | 3, hl => obtain ⟨_, _, _, hl0⟩ := asS_inv (show _ from hl); obtain ⟨_, _, hl1⟩ := asI_inv (show _ from hl0); obtain ⟨_, _, hl2⟩ := asI_inv (show _ from hl1); obtain ⟨_, _, hl3⟩ := asI_inv (show _ from hl2); obtain ⟨_, _, hl4⟩ := asI_inv (show _ from hl3); exact hl4
      | _ + 4, hl => exact hl)
    (fun n p L hm f h hl => by
      simp only [u34, List.mem_cons, Prod.mk.injEq, List.not_mem_nil, or_false] at hm
      rcases hm with ⟨rfl, rfl⟩ | ⟨rfl, rfl⟩ | ⟨rfl, rfl⟩ | ⟨rfl, rfl⟩
      · have hl : f34 (r34 c k (n + 1)) 0 f h := hl
        obtain ⟨l_0, c_0, e_0, hl0⟩ := asS_inv hl
        have hh := e34_0 c k (r34 c k n) f h l_0 c_0
        rw [fset_self e_0] at hh
        exact Eq.mpr hh hl0
      · have hl : f34 (r34 c k (n + 1)) 1 f h := hl
        obtain ⟨l_0, c_0, e_0, hl0⟩ := asS_inv hl
        obtain ⟨n_4, e_4, hl1⟩ := asI_inv hl0
        have hh := e34_1 c k (r34 c k n) f h l_0 c_0 n_4
        rw [fset_self e_0] at hh
        rw [fset_self e_4] at hh
        exact Eq.mpr hh hl1
      · have hl : f34 (r34 c k (n + 1)) 2 f h := hl
        obtain ⟨l_0, c_0, e_0, hl0⟩ := asS_inv hl
        obtain ⟨n_5, e_5, hl1⟩ := asI_inv hl0
        obtain ⟨n_6, e_6, hl2⟩ := asI_inv hl1
        obtain ⟨n_7, e_7, hl3⟩ := asI_inv hl2
        obtain ⟨n_8, e_8, hl4⟩ := asI_inv hl3
        obtain ⟨n_9, e_9, hl5⟩ := asI_inv hl4
        have hh := e34_2 c k (r34 c k n) f h l_0 c_0 n_5 n_6 n_7 n_8 n_9
        rw [fset_self e_0] at hh
        rw [fset_self e_5] at hh
        rw [fset_self e_6] at hh
        rw [fset_self e_7] at hh
        rw [fset_self e_8] at hh
        rw [fset_self e_9] at hh
        exact Eq.mpr hh hl5
      · have hl : f34 (r34 c k (n + 1)) 3 f h := hl
        obtain ⟨l_0, c_0, e_0, hl0⟩ := asS_inv hl
        obtain ⟨n_5, e_5, hl1⟩ := asI_inv hl0
        obtain ⟨n_6, e_6, hl2⟩ := asI_inv hl1
        obtain ⟨n_7, e_7, hl3⟩ := asI_inv hl2
        obtain ⟨n_8, e_8, hl4⟩ := asI_inv hl3
        have hh := e34_3 c k (r34 c k n) f h l_0 c_0 n_5 n_6 n_7 n_8
        rw [fset_self e_0] at hh
        rw [fset_self e_5] at hh
        rw [fset_self e_6] at hh
        rw [fset_self e_7] at hh
        rw [fset_self e_8] at hh
        exact Eq.mpr hh hl4
    ) (by simp [u34]) hg

theorem e36_0 (c : Caller Prop FT) (k : KV) (J : J36) (f : FT) (h : H) (l_0 : Nat) (c_0 : Nat) (n_1 : Int) : chunkA env c q36 u36 (f36 J) d36 (retA env Go.Proofs.Tryd.f36.results.toList k) .root (fset (fset f 0 (.str l_0 c_0)) 1 (.int .i64 n_1)) h = s36_0 c k J l_0 c_0 n_1 h := by kernel_rfl
theorem e36_1 (c : Caller Prop FT) (k : KV) (J : J36) (f : FT) (h : H) (l_0 : Nat) (c_0 : Nat) (n_1 : Int) : chunkA env c q36 u36 (f36 J) d36 (retA env Go.Proofs.Tryd.f36.results.toList k) (.r (.r .root)) (fset (fset f 0 (.str l_0 c_0)) 1 (.int .i64 n_1)) h = s36_1 c k J l_0 c_0 n_1 h := by kernel_rfl
theorem w36 {c : Caller Prop FT} (hc : CallOk Go.Proofs.Tryd.prog (CP env) G (fun p => p) c) {k : KV} {n : Nat} {args : List AV} {h : H} (hg : f36 (r36 c k n) 0 (finit args) h) : SW Go.Proofs.Tryd.prog G (.func 36) args h k :=
  fn_ok mixed envOk hc q36 Go.Proofs.Tryd.func36 rfl (by kernel_rfl) (by kernel_rfl) k u36 (fun n => f36 (r36 c k n))
    (fun L f h hl => by
      match L, hl with
      | 0, hl => obtain ⟨_, _, _, hl0⟩ := asS_inv (show _ from hl); obtain ⟨_, _, hl1⟩ := asI_inv (show _ from hl0); exact hl1
      | 1, hl => obtain ⟨_, _, _, hl0⟩ := asS_inv (show _ from hl); obtain ⟨_, _, hl1⟩ := asI_inv (show _ from hl0); exact hl1
      | _ + 2, hl => exact hl)
    (fun n p L hm f h hl => by
      simp only [u36, List.mem_cons, Prod.mk.injEq, List.not_mem_nil, or_false] at hm
      rcases hm with ⟨rfl, rfl⟩ | ⟨rfl, rfl⟩
      · have hl : f36 (r36 c k (n + 1)) 0 f h := hl
        obtain ⟨l_0, c_0, e_0, hl0⟩ := asS_inv hl
        obtain ⟨n_1, e_1, hl1⟩ := asI_inv hl0
        have hh := e36_0 c k (r36 c k n) f h l_0 c_0 n_1
        rw [fset_self e_0] at hh
        rw [fset_self e_1] at hh
        exact Eq.mpr hh hl1
      · have hl : f36 (r36 c k (n + 1)) 1 f h := hl
        obtain ⟨l_0, c_0, e_0, hl0⟩ := asS_inv hl
        obtain ⟨n_1, e_1, hl1⟩ := asI_inv hl0
        have hh := e36_1 c k (r36 c k n) f h l_0 c_0 n_1
        rw [fset_self e_0] at hh
        rw [fset_self e_1] at hh
        exact Eq.mpr hh hl1
    ) (by simp [u36]) hg

theorem e45_0 (c : Caller Prop FT) (k : KV) (J : J45) (f : FT) (h : H) (l_0 : Nat) (c_0 : Nat) (l_1 : Nat) (c_1 : Nat) : chunkA env c q45 u45 (f45 J) d45 (retA env Go.Proofs.Tryd.f45.results.toList k) .root (fset (fset f 0 (.str l_0 c_0)) 1 (.str l_1 c_1)) h = s45_0 c k J l_0 c_0 l_1 c_1 h := by kernel_rfl
theorem w45 {c : Caller Prop FT} (hc : CallOk Go.Proofs.Tryd.prog (CP env) G (fun p => p) c) {k : KV} {n : Nat} {args : List AV} {h : H} (hg : f45 (r45 c k n) 0 (finit args) h) : SW Go.Proofs.Tryd.prog G (.func 45) args h k :=
  fn_ok mixed envOk hc q45 Go.Proofs.Tryd.func45 rfl (by kernel_rfl) (by kernel_rfl) k u45 (fun n => f45 (r45 c k n))
    (fun L f h hl => by
      match L, hl with
      | 0, hl => obtain ⟨_, _, _, hl0⟩ := asS_inv (show _ from hl); obtain ⟨_, _, _, hl1⟩ := asS_inv (show _ from hl0); exact hl1
      | _ + 1, hl => exact hl)
    (fun n p L hm f h hl => by
      simp only [u45, List.mem_cons, Prod.mk.injEq, List.not_mem_nil, or_false] at hm
      rcases hm with ⟨rfl, rfl⟩
      · have hl : f45 (r45 c k (n + 1)) 0 f h := hl
        obtain ⟨l_0, c_0, e_0, hl0⟩ := asS_inv hl
        obtain ⟨l_1, c_1, e_1, hl1⟩ := asS_inv hl0
        have hh := e45_0 c k (r45 c k n) f h l_0 c_0 l_1 c_1
        rw [fset_self e_0] at hh
        rw [fset_self e_1] at hh
        exact Eq.mpr hh hl1
    ) (by simp [u45]) hg

theorem e48_0 (c : Caller Prop FT) (k : KV) (J : J48) (f : FT) (h : H) (l_0 : Nat) (c_0 : Nat) (n_1 : Int) : chunkA env c q48 u48 (f48 J) d48 (retA env Go.Proofs.Tryd.f48.results.toList k) .root (fset (fset f 0 (.str l_0 c_0)) 1 (.int .u8 n_1)) h = s48_0 c k J l_0 c_0 n_1 h := by kernel_rfl
theorem w48 {c : Caller Prop FT} (hc : CallOk Go.Proofs.Tryd.prog (CP env) G (fun p => p) c) {k : KV} {n : Nat} {args : List AV} {h : H} (hg : f48 (r48 c k n) 0 (finit args) h) : SW Go.Proofs.Tryd.prog G (.func 48) args h k :=
  fn_ok mixed envOk hc q48 Go.Proofs.Tryd.func48 rfl (by kernel_rfl) (by kernel_rfl) k u48 (fun n => f48 (r48 c k n))
    (fun L f h hl => by
      match L, hl with
      | 0, hl => obtain ⟨_, _, _, hl0⟩ := asS_inv (show _ from hl); obtain ⟨_, _, hl1⟩ := asI_inv (show _ from hl0); exact hl1
      | _ + 1, hl => exact hl)
    (fun n p L hm f h hl => by
      simp only [u48, List.mem_cons, Prod.mk.injEq, List.not_mem_nil, or_false] at hm
      rcases hm with ⟨rfl, rfl⟩
      · have hl : f48 (r48 c k (n + 1)) 0 f h := hl
        obtain ⟨l_0, c_0, e_0, hl0⟩ := asS_inv hl
        obtain ⟨n_1, e_1, hl1⟩ := asI_inv hl0
        have hh := e48_0 c k (r48 c k n) f h l_0 c_0 n_1
        rw [fset_self e_0] at hh
        rw [fset_self e_1] at hh
        exact Eq.mpr hh hl1
    ) (by simp [u48]) hg

theorem e49_0 (c : Caller Prop FT) (k : KV) (J : J49) (f : FT) (h : H) (l_0 : Nat) (c_0 : Nat) : chunkA env c q49 u49 (f49 J) d49 (retA env Go.Proofs.Tryd.f49.results.toList k) .root (fset f 0 (.str l_0 c_0)) h = s49_0 c k J l_0 c_0 h := by kernel_rfl
theorem e49_1 (c : Caller Prop FT) (k : KV) (J : J49) (f : FT) (h : H) (l_0 : Nat) (c_0 : Nat) (b_3 : Bool) (b_4 : Bool) (n_5 : Int) : chunkA env c q49 u49 (f49 J) d49 (retA env Go.Proofs.Tryd.f49.results.toList k) (.l (.r (.l (.r (.r .root))))) (fset (fset (fset (fset f 0 (.str l_0 c_0)) 3 (.bool b_3)) 4 (.bool b_4)) 5 (.int .i64 n_5)) h = s49_1 c k J l_0 c_0 b_3 b_4 n_5 h := by kernel_rfl
theorem e49_2 (c : Caller Prop FT) (k : KV) (J : J49) (f : FT) (h : H) (l_0 : Nat) (c_0 : Nat) (v_7 : AV) (n_8 : Int) (n_9 : Int) : chunkA env c q49 u49 (f49 J) d49 (retA env Go.Proofs.Tryd.f49.results.toList k) (.l (.r (.l (.r (.r (.r (.r (.l (.r (.l (.r (.r (.r .root))))))))))))) (fset (fset (fset (fset f 0 (.str l_0 c_0)) 7 v_7) 8 (.int .i64 n_8)) 9 (.int .i64 n_9)) h = s49_2 c k J l_0 c_0 v_7 n_8 n_9 h := by kernel_rfl
theorem e49_3 (c : Caller Prop FT) (k : KV) (J : J49) (f : FT) (h : H) (l_0 : Nat) (c_0 : Nat) (v_7 : AV) (n_9 : Int) (n_10 : Int) : chunkA env c q49 u49 (f49 J) d49 (retA env Go.Proofs.Tryd.f49.results.toList k) (.r (.r (.l (.r (.r (.l (.l (.r (.l (.l (.r (.l (.r (.r (.r (.r (.l (.r (.l (.r (.r (.r .root)))))))))))))))))))))) (fset (fset (fset (fset f 0 (.str l_0 c_0)) 7 v_7) 9 (.int .i64 n_9)) 10 (.int .u8 n_10)) h = s49_3 c k J l_0 c_0 v_7 n_9 n_10 h := by kernel_rfl
theorem e49_4 (c : Caller Prop FT) (k : KV) (J : J49) (f : FT) (h : H) (l_0 : Nat) (c_0 : Nat) (v_7 : AV) (n_8 : Int) (n_9 : Int) : chunkA env c q49 u49 (f49 J) d49 (retA env Go.Proofs.Tryd.f49.results.toList k) (.r (.r (.l (.l (.r (.l (.r (.r (.r (.r (.l (.r (.l (.r (.r (.r .root)))))))))))))))) (fset (fset (fset (fset f 0 (.str l_0 c_0)) 7 v_7) 8 (.int .i64 n_8)) 9 (.int .i64 n_9)) h = s49_4 c k J l_0 c_0 v_7 n_8 n_9 h := by kernel_rfl
theorem e49_5 (c : Caller Prop FT) (k : KV) (J : J49) (f : FT) (h : H) (l_0 : Nat) (c_0 : Nat) (b_3 : Bool) (b_4 : Bool) : chunkA env c q49 u49 (f49 J) d49 (retA env Go.Proofs.Tryd.f49.results.toList k) (.r (.r (.r .root))) (fset (fset (fset f 0 (.str l_0 c_0)) 3 (.bool b_3)) 4 (.bool b_4)) h = s49_5 c k J l_0 c_0 b_3 b_4 h := by kernel_rfl
theorem w49 {c : Caller Prop FT} (hc : CallOk Go.Proofs.Tryd.prog (CP env) G (fun p => p) c) {k : KV} {n : Nat} {args : List AV} {h : H} (hg : f49 (r49 c k n) 0 (finit args) h) : SW Go.Proofs.Tryd.prog G (.func 49) args h k :=
  fn_ok mixed envOk hc q49 Go.Proofs.Tryd.func49 rfl (by kernel_rfl) (by kernel_rfl) k u49 (fun n => f49 (r49 c k n))
    (fun L f h hl => by
      match L, hl with
      | 0, hl => obtain ⟨_, _, _, hl0⟩ := asS_inv (show _ from hl); exact hl0
      | 1, hl => obtain ⟨_, _, _, hl0⟩ := asS_inv (show _ from hl); obtain ⟨_, _, hl1⟩ := asB_inv (show _ from hl0); obtain ⟨_, _, hl2⟩ := asB_inv (show _ from hl1); obtain ⟨_, _, hl3⟩ := asI_inv (show _ from hl2); exact hl3
      | 2, hl => obtain ⟨_, _, _, hl0⟩ := asS_inv (show _ from hl); obtain ⟨_, _, hl1⟩ := asI_inv (show _ from hl0); obtain ⟨_, _, hl2⟩ := asI_inv (show _ from hl1); exact hl2
      | 3, hl => obtain ⟨_, _, _, hl0⟩ := asS_inv (show _ from hl); obtain ⟨_, _, hl1⟩ := asI_inv (show _ from hl0); obtain ⟨_, _, hl2⟩ := asI_inv (show _ from hl1); exact hl2
      | 4, hl => obtain ⟨_, _, _, hl0⟩ := asS_inv (show _ from hl); obtain ⟨_, _, hl1⟩ := asI_inv (show _ from hl0); obtain ⟨_, _, hl2⟩ := asI_inv (show _ from hl1); exact hl2
      | 5, hl => obtain ⟨_, _, _, hl0⟩ := asS_inv (show _ from hl); obtain ⟨_, _, hl1⟩ := asB_inv (show _ from hl0); obtain ⟨_, _, hl2⟩ := asB_inv (show _ from hl1); exact hl2
      | _ + 6, hl => exact hl)
    (fun n p L hm f h hl => by
      simp only [u49, List.mem_cons, Prod.mk.injEq, List.not_mem_nil, or_false] at hm
      rcases hm with ⟨rfl, rfl⟩ | ⟨rfl, rfl⟩ | ⟨rfl, rfl⟩ | ⟨rfl, rfl⟩ | ⟨rfl, rfl⟩ | ⟨rfl, rfl⟩
      · have hl : f49 (r49 c k (n + 1)) 0 f h := hl
        obtain ⟨l_0, c_0, e_0, hl0⟩ := asS_inv hl
        have hh := e49_0 c k (r49 c k n) f h l_0 c_0
        rw [fset_self e_0] at hh
        exact Eq.mpr hh hl0
      · have hl : f49 (r49 c k (n + 1)) 1 f h := hl
        obtain ⟨l_0, c_0, e_0, hl0⟩ := asS_inv hl
        obtain ⟨b_3, e_3, hl1⟩ := asB_inv hl0
        obtain ⟨b_4, e_4, hl2⟩ := asB_inv hl1
        obtain ⟨n_5, e_5, hl3⟩ := asI_inv hl2
        have hh := e49_1 c k (r49 c k n) f h l_0 c_0 b_3 b_4 n_5
        rw [fset_self e_0] at hh
        rw [fset_self e_3] at hh
        rw [fset_self e_4] at hh
        rw [fset_self e_5] at hh
        exact Eq.mpr hh hl3
      · have hl : f49 (r49 c k (n + 1)) 2 f h := hl
        obtain ⟨l_0, c_0, e_0, hl0⟩ := asS_inv hl
        obtain ⟨n_8, e_8, hl2⟩ := asI_inv hl0
        obtain ⟨n_9, e_9, hl3⟩ := asI_inv hl2
        have hh := e49_2 c k (r49 c k n) f h l_0 c_0 (f 7) n_8 n_9
        rw [fset_self e_0] at hh
        rw [fset_self (rfl : f 7 = f 7)] at hh
        rw [fset_self e_8] at hh
        rw [fset_self e_9] at hh
        exact Eq.mpr hh hl3
      · have hl : f49 (r49 c k (n + 1)) 3 f h := hl
        obtain ⟨l_0, c_0, e_0, hl0⟩ := asS_inv hl
        obtain ⟨n_9, e_9, hl2⟩ := asI_inv hl0
        obtain ⟨n_10, e_10, hl3⟩ := asI_inv hl2
        have hh := e49_3 c k (r49 c k n) f h l_0 c_0 (f 7) n_9 n_10
        rw [fset_self e_0] at hh
        rw [fset_self (rfl : f 7 = f 7)] at hh
        rw [fset_self e_9] at hh
        rw [fset_self e_10] at hh
        exact Eq.mpr hh hl3
      · have hl : f49 (r49 c k (n + 1)) 4 f h := hl
        obtain ⟨l_0, c_0, e_0, hl0⟩ := asS_inv hl
        obtain ⟨n_8, e_8, hl2⟩ := asI_inv hl0
        obtain ⟨n_9, e_9, hl3⟩ := asI_inv hl2
        have hh := e49_4 c k (r49 c k n) f h l_0 c_0 (f 7) n_8 n_9
        rw [fset_self e_0] at hh
        rw [fset_self (rfl : f 7 = f 7)] at hh
        rw [fset_self e_8] at hh
        rw [fset_self e_9] at hh
        exact Eq.mpr hh hl3
      · have hl : f49 (r49 c k (n + 1)) 5 f h := hl
        obtain ⟨l_0, c_0, e_0, hl0⟩ := asS_inv hl
        obtain ⟨b_3, e_3, hl1⟩ := asB_inv hl0
        obtain ⟨b_4, e_4, hl2⟩ := asB_inv hl1
        have hh := e49_5 c k (r49 c k n) f h l_0 c_0 b_3 b_4
        rw [fset_self e_0] at hh
        rw [fset_self e_3] at hh
        rw [fset_self e_4] at hh
        exact Eq.mpr hh hl2
    ) (by simp [u49]) hg

theorem e55_0 (c : Caller Prop FT) (k : KV) (J : J55) (f : FT) (h : H) (l_0 : Nat) (c_0 : Nat) (v_1 : AV) : chunkA env c q55 u55 (f55 J) d55 (retA env Go.Proofs.Tryd.f55.results.toList k) .root (fset (fset f 0 (.str l_0 c_0)) 1 v_1) h = s55_0 c k J l_0 c_0 v_1 h := by kernel_rfl
theorem e55_1 (c : Caller Prop FT) (k : KV) (J : J55) (f : FT) (h : H) (l_0 : Nat) (c_0 : Nat) (v_1 : AV) : chunkA env c q55 u55 (f55 J) d55 (retA env Go.Proofs.Tryd.f55.results.toList k) (.l (.l (.r .root))) (fset (fset f 0 (.str l_0 c_0)) 1 v_1) h = s55_1 c k J l_0 c_0 v_1 h := by kernel_rfl
theorem w55 {c : Caller Prop FT} (hc : CallOk Go.Proofs.Tryd.prog (CP env) G (fun p => p) c) {k : KV} {n : Nat} {args : List AV} {h : H} (hg : f55 (r55 c k n) 0 (finit args) h) : SW Go.Proofs.Tryd.prog G (.func 55) args h k :=
  fn_ok mixed envOk hc q55 Go.Proofs.Tryd.func55 rfl (by kernel_rfl) (by kernel_rfl) k u55 (fun n => f55 (r55 c k n))
    (fun L f h hl => by
      match L, hl with
      | 0, hl => obtain ⟨_, _, _, hl0⟩ := asS_inv (show _ from hl); exact hl0
      | 1, hl => obtain ⟨_, _, _, hl0⟩ := asS_inv (show _ from hl); exact hl0
      | _ + 2, hl => exact hl)
    (fun n p L hm f h hl => by
      simp only [u55, List.mem_cons, Prod.mk.injEq, List.not_mem_nil, or_false] at hm
      rcases hm with ⟨rfl, rfl⟩ | ⟨rfl, rfl⟩
      · have hl : f55 (r55 c k (n + 1)) 0 f h := hl
        obtain ⟨l_0, c_0, e_0, hl0⟩ := asS_inv hl
        have hh := e55_0 c k (r55 c k n) f h l_0 c_0 (f 1)
        rw [fset_self e_0] at hh
        rw [fset_self (rfl : f 1 = f 1)] at hh
        exact Eq.mpr hh hl0
      · have hl : f55 (r55 c k (n + 1)) 1 f h := hl
        obtain ⟨l_0, c_0, e_0, hl0⟩ := asS_inv hl
        have hh := e55_1 c k (r55 c k n) f h l_0 c_0 (f 1)
        rw [fset_self e_0] at hh
        rw [fset_self (rfl : f 1 = f 1)] at hh
        exact Eq.mpr hh hl0
    ) (by simp [u55]) hg

theorem e57_0 (c : Caller Prop FT) (k : KV) (J : J57) (f : FT) (h : H) (n_0 : Int) : chunkA env c q57 u57 (f57 J) d57 (retA env Go.Proofs.Tryd.f57.results.toList k) .root (fset f 0 (.int .u8 n_0)) h = s57_0 c k J n_0 h := by kernel_rfl
theorem w57 {c : Caller Prop FT} (hc : CallOk Go.Proofs.Tryd.prog (CP env) G (fun p => p) c) {k : KV} {n : Nat} {args : List AV} {h : H} (hg : f57 (r57 c k n) 0 (finit args) h) : SW Go.Proofs.Tryd.prog G (.func 57) args h k :=
  fn_ok mixed envOk hc q57 Go.Proofs.Tryd.func57 rfl (by kernel_rfl) (by kernel_rfl) k u57 (fun n => f57 (r57 c k n))
    (fun L f h hl => by
      match L, hl with
      | 0, hl => obtain ⟨_, _, hl0⟩ := asI_inv (show _ from hl); exact hl0
      | _ + 1, hl => exact hl)
    (fun n p L hm f h hl => by
      simp only [u57, List.mem_cons, Prod.mk.injEq, List.not_mem_nil, or_false] at hm
      rcases hm with ⟨rfl, rfl⟩
      · have hl : f57 (r57 c k (n + 1)) 0 f h := hl
        obtain ⟨n_0, e_0, hl0⟩ := asI_inv hl
        have hh := e57_0 c k (r57 c k n) f h n_0
        rw [fset_self e_0] at hh
        exact Eq.mpr hh hl0
    ) (by simp [u57]) hg

end Go.Den
