/-
  A part of the proof: the pieces are what the program does.
-/
import Derived.Test.YtdpnnajfmkpfjaaGreatDoorRunA
import Derived.KernelRfl
namespace Go.Den
set_option maxRecDepth 100000
theorem e2_0 (c : Caller Prop FT) (k : KV) (J : J2) (f : FT) (h : H) : chunkA env c q2 u2 (f2 J) d2 (retA env Go.Proofs.Tryz.f2.results.toList k) .root f h = s2_0 c k J  h := by kernel_rfl
theorem w2 {c : Caller Prop FT} (hc : CallOk Go.Proofs.Tryz.prog (CP env) G (fun p => p) c) {k : KV} {n : Nat} {args : List AV} {h : H} (hg : f2 (r2 c k n) 0 (finit args) h) : SW Go.Proofs.Tryz.prog G (.func 2) args h k :=
  fn_ok mixed envOk hc q2 Go.Proofs.Tryz.func2 rfl (by kernel_rfl) (by kernel_rfl) k u2 (fun n => f2 (r2 c k n))
    (fun L f h hl => by
      match L, hl with
      | 0, hl => exact hl
      | _ + 1, hl => exact hl)
    (fun n p L hm f h hl => by
      simp only [u2, List.mem_cons, Prod.mk.injEq, List.not_mem_nil, or_false] at hm
      rcases hm with ⟨rfl, rfl⟩
      · have hl : f2 (r2 c k (n + 1)) 0 f h := hl
        have hh := e2_0 c k (r2 c k n) f h 
        exact Eq.mpr hh hl
    ) (by simp [u2]) hg

theorem e3_0 (c : Caller Prop FT) (k : KV) (J : J3) (f : FT) (h : H) (l_0 : Nat) (c_0 : Nat) (n_1 : Int) : chunkA env c q3 u3 (f3 J) d3 (retA env Go.Proofs.Tryz.f3.results.toList k) .root (fset (fset f 0 (.str l_0 c_0)) 1 (.int .i64 n_1)) h = s3_0 c k J l_0 c_0 n_1 h := by kernel_rfl
theorem e3_1 (c : Caller Prop FT) (k : KV) (J : J3) (f : FT) (h : H) (l_0 : Nat) (c_0 : Nat) (n_1 : Int) (n_5 : Int) : chunkA env c q3 u3 (f3 J) d3 (retA env Go.Proofs.Tryz.f3.results.toList k) (.l (.r (.l (.r (.r .root))))) (fset (fset (fset f 0 (.str l_0 c_0)) 1 (.int .i64 n_1)) 5 (.int .i64 n_5)) h = s3_1 c k J l_0 c_0 n_1 n_5 h := by kernel_rfl
theorem e3_2 (c : Caller Prop FT) (k : KV) (J : J3) (f : FT) (h : H) (l_0 : Nat) (c_0 : Nat) (n_1 : Int) (n_5 : Int) (b_100 : Bool) : chunkA env c q3 u3 (f3 J) d3 (retA env Go.Proofs.Tryz.f3.results.toList k) (.r (.r (.l (.l (.r (.l (.l (.r (.l (.r (.r .root))))))))))) (fset (fset (fset (fset f 0 (.str l_0 c_0)) 1 (.int .i64 n_1)) 5 (.int .i64 n_5)) 100 (.bool b_100)) h = s3_2 c k J l_0 c_0 n_1 n_5 b_100 h := by kernel_rfl
theorem e3_3 (c : Caller Prop FT) (k : KV) (J : J3) (f : FT) (h : H) (l_0 : Nat) (c_0 : Nat) (n_1 : Int) (v_7 : AV) (b_8 : Bool) (v_9 : AV) (b_10 : Bool) (b_12 : Bool) (b_14 : Bool) (n_15 : Int) (l_16 : Nat) (c_16 : Nat) (b_17 : Bool) (b_18 : Bool) : chunkA env c q3 u3 (f3 J) d3 (retA env Go.Proofs.Tryz.f3.results.toList k) (.r (.r (.r (.r (.r (.r (.r (.r .root)))))))) (fset (fset (fset (fset (fset (fset (fset (fset (fset (fset (fset (fset f 0 (.str l_0 c_0)) 1 (.int .i64 n_1)) 7 v_7) 8 (.bool b_8)) 9 v_9) 10 (.bool b_10)) 12 (.bool b_12)) 14 (.bool b_14)) 15 (.int .i64 n_15)) 16 (.str l_16 c_16)) 17 (.bool b_17)) 18 (.bool b_18)) h = s3_3 c k J l_0 c_0 n_1 v_7 b_8 v_9 b_10 b_12 b_14 n_15 l_16 c_16 b_17 b_18 h := by kernel_rfl
theorem w3 {c : Caller Prop FT} (hc : CallOk Go.Proofs.Tryz.prog (CP env) G (fun p => p) c) {k : KV} {n : Nat} {args : List AV} {h : H} (hg : f3 (r3 c k n) 0 (finit args) h) : SW Go.Proofs.Tryz.prog G (.func 3) args h k :=
  fn_ok mixed envOk hc q3 Go.Proofs.Tryz.func3 rfl (by kernel_rfl) (by kernel_rfl) k u3 (fun n => f3 (r3 c k n))
    (fun L f h hl => by
      match L, hl with
      | 0, hl => obtain ⟨_, _, _, hl0⟩ := asS_inv (show _ from hl); obtain ⟨_, _, hl1⟩ := asI_inv (show _ from hl0); exact hl1
      | 1, hl => obtain ⟨_, _, _, hl0⟩ := asS_inv (show _ from hl); obtain ⟨_, _, hl1⟩ := asI_inv (show _ from hl0); obtain ⟨_, _, hl2⟩ := asI_inv (show _ from hl1); exact hl2
      | 2, hl => obtain ⟨_, _, _, hl0⟩ := asS_inv (show _ from hl); obtain ⟨_, _, hl1⟩ := asI_inv (show _ from hl0); obtain ⟨_, _, hl2⟩ := asI_inv (show _ from hl1); obtain ⟨_, _, hl3⟩ := asB_inv (show _ from hl2); exact hl3
      | 3, hl => obtain ⟨_, _, _, hl0⟩ := asS_inv (show _ from hl); obtain ⟨_, _, hl1⟩ := asI_inv (show _ from hl0); obtain ⟨_, _, hl2⟩ := asB_inv (show _ from hl1); obtain ⟨_, _, hl3⟩ := asB_inv (show _ from hl2); obtain ⟨_, _, hl4⟩ := asB_inv (show _ from hl3); obtain ⟨_, _, hl5⟩ := asB_inv (show _ from hl4); obtain ⟨_, _, hl6⟩ := asI_inv (show _ from hl5); obtain ⟨_, _, _, hl7⟩ := asS_inv (show _ from hl6); obtain ⟨_, _, hl8⟩ := asB_inv (show _ from hl7); obtain ⟨_, _, hl9⟩ := asB_inv (show _ from hl8); exact hl9
      | _ + 4, hl => exact hl)
    (fun n p L hm f h hl => by
      simp only [u3, List.mem_cons, Prod.mk.injEq, List.not_mem_nil, or_false] at hm
      rcases hm with ⟨rfl, rfl⟩ | ⟨rfl, rfl⟩ | ⟨rfl, rfl⟩ | ⟨rfl, rfl⟩
      · have hl : f3 (r3 c k (n + 1)) 0 f h := hl
        obtain ⟨l_0, c_0, e_0, hl0⟩ := asS_inv hl
        obtain ⟨n_1, e_1, hl1⟩ := asI_inv hl0
        have hh := e3_0 c k (r3 c k n) f h l_0 c_0 n_1
        rw [fset_self e_0] at hh
        rw [fset_self e_1] at hh
        exact Eq.mpr hh hl1
      · have hl : f3 (r3 c k (n + 1)) 1 f h := hl
        obtain ⟨l_0, c_0, e_0, hl0⟩ := asS_inv hl
        obtain ⟨n_1, e_1, hl1⟩ := asI_inv hl0
        obtain ⟨n_5, e_5, hl2⟩ := asI_inv hl1
        have hh := e3_1 c k (r3 c k n) f h l_0 c_0 n_1 n_5
        rw [fset_self e_0] at hh
        rw [fset_self e_1] at hh
        rw [fset_self e_5] at hh
        exact Eq.mpr hh hl2
      · have hl : f3 (r3 c k (n + 1)) 2 f h := hl
        obtain ⟨l_0, c_0, e_0, hl0⟩ := asS_inv hl
        obtain ⟨n_1, e_1, hl1⟩ := asI_inv hl0
        obtain ⟨n_5, e_5, hl2⟩ := asI_inv hl1
        obtain ⟨b_100, e_100, hl3⟩ := asB_inv hl2
        have hh := e3_2 c k (r3 c k n) f h l_0 c_0 n_1 n_5 b_100
        rw [fset_self e_0] at hh
        rw [fset_self e_1] at hh
        rw [fset_self e_5] at hh
        rw [fset_self e_100] at hh
        exact Eq.mpr hh hl3
      · have hl : f3 (r3 c k (n + 1)) 3 f h := hl
        obtain ⟨l_0, c_0, e_0, hl0⟩ := asS_inv hl
        obtain ⟨n_1, e_1, hl1⟩ := asI_inv hl0
        obtain ⟨b_8, e_8, hl3⟩ := asB_inv hl1
        obtain ⟨b_10, e_10, hl5⟩ := asB_inv hl3
        obtain ⟨b_12, e_12, hl6⟩ := asB_inv hl5
        obtain ⟨b_14, e_14, hl7⟩ := asB_inv hl6
        obtain ⟨n_15, e_15, hl8⟩ := asI_inv hl7
        obtain ⟨l_16, c_16, e_16, hl9⟩ := asS_inv hl8
        obtain ⟨b_17, e_17, hl10⟩ := asB_inv hl9
        obtain ⟨b_18, e_18, hl11⟩ := asB_inv hl10
        have hh := e3_3 c k (r3 c k n) f h l_0 c_0 n_1 (f 7) b_8 (f 9) b_10 b_12 b_14 n_15 l_16 c_16 b_17 b_18
        rw [fset_self e_0] at hh
        rw [fset_self e_1] at hh
        rw [fset_self (rfl : f 7 = f 7)] at hh
        rw [fset_self e_8] at hh
        rw [fset_self (rfl : f 9 = f 9)] at hh
        rw [fset_self e_10] at hh
        rw [fset_self e_12] at hh
        rw [fset_self e_14] at hh
        rw [fset_self e_15] at hh
        rw [fset_self e_16] at hh
        rw [fset_self e_17] at hh
        rw [fset_self e_18] at hh
        exact Eq.mpr hh hl11
    ) (by simp [u3]) hg

theorem e4_0 (c : Caller Prop FT) (k : KV) (J : J4) (f : FT) (h : H) (v_0 : AV) (n_1 : Int) : chunkA env c q4 u4 (f4 J) d4 (retA env Go.Proofs.Tryz.f4.results.toList k) .root (fset (fset f 0 v_0) 1 (.int .i64 n_1)) h = s4_0 c k J v_0 n_1 h := by kernel_rfl
theorem e4_1 (c : Caller Prop FT) (k : KV) (J : J4) (f : FT) (h : H) (v_0 : AV) (n_1 : Int) (l_5 : Nat) (c_5 : Nat) (l_6 : Nat) (c_6 : Nat) (n_7 : Int) : chunkA env c q4 u4 (f4 J) d4 (retA env Go.Proofs.Tryz.f4.results.toList k) (.l (.r (.l (.r (.r (.r .root)))))) (fset (fset (fset (fset (fset f 0 v_0) 1 (.int .i64 n_1)) 5 (.str l_5 c_5)) 6 (.str l_6 c_6)) 7 (.int .i64 n_7)) h = s4_1 c k J v_0 n_1 l_5 c_5 l_6 c_6 n_7 h := by kernel_rfl
theorem e4_2 (c : Caller Prop FT) (k : KV) (J : J4) (f : FT) (h : H) (v_0 : AV) (n_1 : Int) (l_5 : Nat) (c_5 : Nat) (l_6 : Nat) (c_6 : Nat) (n_7 : Int) (n_8 : Int) : chunkA env c q4 u4 (f4 J) d4 (retA env Go.Proofs.Tryz.f4.results.toList k) (.l (.r (.l (.l (.l (.r (.l (.l (.r (.l (.r (.r (.r .root))))))))))))) (fset (fset (fset (fset (fset (fset f 0 v_0) 1 (.int .i64 n_1)) 5 (.str l_5 c_5)) 6 (.str l_6 c_6)) 7 (.int .i64 n_7)) 8 (.int .i64 n_8)) h = s4_2 c k J v_0 n_1 l_5 c_5 l_6 c_6 n_7 n_8 h := by kernel_rfl
theorem e4_3 (c : Caller Prop FT) (k : KV) (J : J4) (f : FT) (h : H) (v_0 : AV) (n_1 : Int) (l_5 : Nat) (c_5 : Nat) (l_6 : Nat) (c_6 : Nat) (n_7 : Int) : chunkA env c q4 u4 (f4 J) d4 (retA env Go.Proofs.Tryz.f4.results.toList k) (.r (.r (.r (.l (.l (.r (.l (.l (.r (.l (.r (.r (.r .root))))))))))))) (fset (fset (fset (fset (fset f 0 v_0) 1 (.int .i64 n_1)) 5 (.str l_5 c_5)) 6 (.str l_6 c_6)) 7 (.int .i64 n_7)) h = s4_3 c k J v_0 n_1 l_5 c_5 l_6 c_6 n_7 h := by kernel_rfl
theorem w4 {c : Caller Prop FT} (hc : CallOk Go.Proofs.Tryz.prog (CP env) G (fun p => p) c) {k : KV} {n : Nat} {args : List AV} {h : H} (hg : f4 (r4 c k n) 0 (finit args) h) : SW Go.Proofs.Tryz.prog G (.func 4) args h k :=
  fn_ok mixed envOk hc q4 Go.Proofs.Tryz.func4 rfl (by kernel_rfl) (by kernel_rfl) k u4 (fun n => f4 (r4 c k n))
    (fun L f h hl => by
      match L, hl with
      | 0, hl => obtain ⟨_, _, hl0⟩ := asI_inv (show _ from hl); exact hl0
      | 1, hl => obtain ⟨_, _, hl0⟩ := asI_inv (show _ from hl); obtain ⟨_, _, _, hl1⟩ := asS_inv (show _ from hl0); obtain ⟨_, _, _, hl2⟩ := asS_inv (show _ from hl1); obtain ⟨_, _, hl3⟩ := asI_inv (show _ from hl2); exact hl3
      | 2, hl => obtain ⟨_, _, hl0⟩ := asI_inv (show _ from hl); obtain ⟨_, _, _, hl1⟩ := asS_inv (show _ from hl0); obtain ⟨_, _, _, hl2⟩ := asS_inv (show _ from hl1); obtain ⟨_, _, hl3⟩ := asI_inv (show _ from hl2); obtain ⟨_, _, hl4⟩ := asI_inv (show _ from hl3); exact hl4
      | 3, hl => obtain ⟨_, _, hl0⟩ := asI_inv (show _ from hl); obtain ⟨_, _, _, hl1⟩ := asS_inv (show _ from hl0); obtain ⟨_, _, _, hl2⟩ := asS_inv (show _ from hl1); obtain ⟨_, _, hl3⟩ := asI_inv (show _ from hl2); exact hl3
      | _ + 4, hl => exact hl)
    (fun n p L hm f h hl => by
      simp only [u4, List.mem_cons, Prod.mk.injEq, List.not_mem_nil, or_false] at hm
      rcases hm with ⟨rfl, rfl⟩ | ⟨rfl, rfl⟩ | ⟨rfl, rfl⟩ | ⟨rfl, rfl⟩
      · have hl : f4 (r4 c k (n + 1)) 0 f h := hl
        obtain ⟨n_1, e_1, hl1⟩ := asI_inv hl
        have hh := e4_0 c k (r4 c k n) f h (f 0) n_1
        rw [fset_self (rfl : f 0 = f 0)] at hh
        rw [fset_self e_1] at hh
        exact Eq.mpr hh hl1
      · have hl : f4 (r4 c k (n + 1)) 1 f h := hl
        obtain ⟨n_1, e_1, hl1⟩ := asI_inv hl
        obtain ⟨l_5, c_5, e_5, hl2⟩ := asS_inv hl1
        obtain ⟨l_6, c_6, e_6, hl3⟩ := asS_inv hl2
        obtain ⟨n_7, e_7, hl4⟩ := asI_inv hl3
        have hh := e4_1 c k (r4 c k n) f h (f 0) n_1 l_5 c_5 l_6 c_6 n_7
        rw [fset_self (rfl : f 0 = f 0)] at hh
        rw [fset_self e_1] at hh
        rw [fset_self e_5] at hh
        rw [fset_self e_6] at hh
        rw [fset_self e_7] at hh
        exact Eq.mpr hh hl4
      · have hl : f4 (r4 c k (n + 1)) 2 f h := hl
        obtain ⟨n_1, e_1, hl1⟩ := asI_inv hl
        obtain ⟨l_5, c_5, e_5, hl2⟩ := asS_inv hl1
        obtain ⟨l_6, c_6, e_6, hl3⟩ := asS_inv hl2
        obtain ⟨n_7, e_7, hl4⟩ := asI_inv hl3
        obtain ⟨n_8, e_8, hl5⟩ := asI_inv hl4
        have hh := e4_2 c k (r4 c k n) f h (f 0) n_1 l_5 c_5 l_6 c_6 n_7 n_8
        rw [fset_self (rfl : f 0 = f 0)] at hh
        rw [fset_self e_1] at hh
        rw [fset_self e_5] at hh
        rw [fset_self e_6] at hh
        rw [fset_self e_7] at hh
        rw [fset_self e_8] at hh
        exact Eq.mpr hh hl5
      · have hl : f4 (r4 c k (n + 1)) 3 f h := hl
        obtain ⟨n_1, e_1, hl1⟩ := asI_inv hl
        obtain ⟨l_5, c_5, e_5, hl2⟩ := asS_inv hl1
        obtain ⟨l_6, c_6, e_6, hl3⟩ := asS_inv hl2
        obtain ⟨n_7, e_7, hl4⟩ := asI_inv hl3
        have hh := e4_3 c k (r4 c k n) f h (f 0) n_1 l_5 c_5 l_6 c_6 n_7
        rw [fset_self (rfl : f 0 = f 0)] at hh
        rw [fset_self e_1] at hh
        rw [fset_self e_5] at hh
        rw [fset_self e_6] at hh
        rw [fset_self e_7] at hh
        exact Eq.mpr hh hl4
    ) (by simp [u4]) hg

theorem e8_0 (c : Caller Prop FT) (k : KV) (J : J8) (f : FT) (h : H) (v_0 : AV) : chunkA env c q8 u8 (f8 J) d8 (retA env Go.Proofs.Tryz.f8.results.toList k) .root (fset f 0 v_0) h = s8_0 c k J v_0 h := by kernel_rfl
theorem e8_1 (c : Caller Prop FT) (k : KV) (J : J8) (f : FT) (h : H) : chunkA env c q8 u8 (f8 J) d8 (retA env Go.Proofs.Tryz.f8.results.toList k) (.lab (.r .root) 0) f h = s8_1 c k J  h := by kernel_rfl
theorem w8 {c : Caller Prop FT} (hc : CallOk Go.Proofs.Tryz.prog (CP env) G (fun p => p) c) {k : KV} {n : Nat} {args : List AV} {h : H} (hg : f8 (r8 c k n) 0 (finit args) h) : SW Go.Proofs.Tryz.prog G (.func 8) args h k :=
  fn_ok mixed envOk hc q8 Go.Proofs.Tryz.func8 rfl (by kernel_rfl) (by kernel_rfl) k u8 (fun n => f8 (r8 c k n))
    (fun L f h hl => by
      match L, hl with
      | 0, hl => exact hl
      | 1, hl => exact hl
      | _ + 2, hl => exact hl)
    (fun n p L hm f h hl => by
      simp only [u8, List.mem_cons, Prod.mk.injEq, List.not_mem_nil, or_false] at hm
      rcases hm with ⟨rfl, rfl⟩ | ⟨rfl, rfl⟩
      · have hl : f8 (r8 c k (n + 1)) 0 f h := hl
        have hh := e8_0 c k (r8 c k n) f h (f 0)
        rw [fset_self (rfl : f 0 = f 0)] at hh
        exact Eq.mpr hh hl
      · have hl : f8 (r8 c k (n + 1)) 1 f h := hl
        have hh := e8_1 c k (r8 c k n) f h 
        exact Eq.mpr hh hl
    ) (by simp [u8]) hg

theorem e9_0 (c : Caller Prop FT) (k : KV) (J : J9) (f : FT) (h : H) (n_0 : Int) : chunkA env c q9 u9 (f9 J) d9 (retA env Go.Proofs.Tryz.f9.results.toList k) .root (fset f 0 (.int .i64 n_0)) h = s9_0 c k J n_0 h := by kernel_rfl
theorem w9 {c : Caller Prop FT} (hc : CallOk Go.Proofs.Tryz.prog (CP env) G (fun p => p) c) {k : KV} {n : Nat} {args : List AV} {h : H} (hg : f9 (r9 c k n) 0 (finit args) h) : SW Go.Proofs.Tryz.prog G (.func 9) args h k :=
  fn_ok mixed envOk hc q9 Go.Proofs.Tryz.func9 rfl (by kernel_rfl) (by kernel_rfl) k u9 (fun n => f9 (r9 c k n))
    (fun L f h hl => by
      match L, hl with
      | 0, hl => obtain ⟨_, _, hl0⟩ := asI_inv (show _ from hl); exact hl0
      | _ + 1, hl => exact hl)
    (fun n p L hm f h hl => by
      simp only [u9, List.mem_cons, Prod.mk.injEq, List.not_mem_nil, or_false] at hm
      rcases hm with ⟨rfl, rfl⟩
      · have hl : f9 (r9 c k (n + 1)) 0 f h := hl
        obtain ⟨n_0, e_0, hl0⟩ := asI_inv hl
        have hh := e9_0 c k (r9 c k n) f h n_0
        rw [fset_self e_0] at hh
        exact Eq.mpr hh hl0
    ) (by simp [u9]) hg

theorem e10_0 (c : Caller Prop FT) (k : KV) (J : J10) (f : FT) (h : H) (n_0 : Int) (n_1 : Int) : chunkA env c q10 u10 (f10 J) d10 (retA env Go.Proofs.Tryz.f10.results.toList k) .root (fset (fset f 0 (.int .i64 n_0)) 1 (.int .i64 n_1)) h = s10_0 c k J n_0 n_1 h := by kernel_rfl
theorem w10 {c : Caller Prop FT} (hc : CallOk Go.Proofs.Tryz.prog (CP env) G (fun p => p) c) {k : KV} {n : Nat} {args : List AV} {h : H} (hg : f10 (r10 c k n) 0 (finit args) h) : SW Go.Proofs.Tryz.prog G (.func 10) args h k :=
  fn_ok mixed envOk hc q10 Go.Proofs.Tryz.func10 rfl (by kernel_rfl) (by kernel_rfl) k u10 (fun n => f10 (r10 c k n))
    (fun L f h hl => by
      match L, hl with
      | 0, hl => obtain ⟨_, _, hl0⟩ := asI_inv (show _ from hl); obtain ⟨_, _, hl1⟩ := asI_inv (show _ from hl0); exact hl1
      | _ + 1, hl => exact hl)
    (fun n p L hm f h hl => by
      simp only [u10, List.mem_cons, Prod.mk.injEq, List.not_mem_nil, or_false] at hm
      rcases hm with ⟨rfl, rfl⟩
      · have hl : f10 (r10 c k (n + 1)) 0 f h := hl
        obtain ⟨n_0, e_0, hl0⟩ := asI_inv hl
        obtain ⟨n_1, e_1, hl1⟩ := asI_inv hl0
        have hh := e10_0 c k (r10 c k n) f h n_0 n_1
        rw [fset_self e_0] at hh
        rw [fset_self e_1] at hh
        exact Eq.mpr hh hl1
    ) (by simp [u10]) hg

theorem e11_0 (c : Caller Prop FT) (k : KV) (J : J11) (f : FT) (h : H) (v_0 : AV) : chunkA env c q11 u11 (f11 J) d11 (retA env Go.Proofs.Tryz.f11.results.toList k) .root (fset f 0 v_0) h = s11_0 c k J v_0 h := by kernel_rfl
theorem w11 {c : Caller Prop FT} (hc : CallOk Go.Proofs.Tryz.prog (CP env) G (fun p => p) c) {k : KV} {n : Nat} {args : List AV} {h : H} (hg : f11 (r11 c k n) 0 (finit args) h) : SW Go.Proofs.Tryz.prog G (.func 11) args h k :=
  fn_ok mixed envOk hc q11 Go.Proofs.Tryz.func11 rfl (by kernel_rfl) (by kernel_rfl) k u11 (fun n => f11 (r11 c k n))
    (fun L f h hl => by
      match L, hl with
      | 0, hl => exact hl
      | _ + 1, hl => exact hl)
    (fun n p L hm f h hl => by
      simp only [u11, List.mem_cons, Prod.mk.injEq, List.not_mem_nil, or_false] at hm
      rcases hm with ⟨rfl, rfl⟩
      · have hl : f11 (r11 c k (n + 1)) 0 f h := hl
        have hh := e11_0 c k (r11 c k n) f h (f 0)
        rw [fset_self (rfl : f 0 = f 0)] at hh
        exact Eq.mpr hh hl
    ) (by simp [u11]) hg

theorem e13_0 (c : Caller Prop FT) (k : KV) (J : J13) (f : FT) (h : H) (v_0 : AV) (n_1 : Int) : chunkA env c q13 u13 (f13 J) d13 (retA env Go.Proofs.Tryz.f13.results.toList k) .root (fset (fset f 0 v_0) 1 (.int .u8 n_1)) h = s13_0 c k J v_0 n_1 h := by kernel_rfl
theorem w13 {c : Caller Prop FT} (hc : CallOk Go.Proofs.Tryz.prog (CP env) G (fun p => p) c) {k : KV} {n : Nat} {args : List AV} {h : H} (hg : f13 (r13 c k n) 0 (finit args) h) : SW Go.Proofs.Tryz.prog G (.func 13) args h k :=
  fn_ok mixed envOk hc q13 Go.Proofs.Tryz.func13 rfl (by kernel_rfl) (by kernel_rfl) k u13 (fun n => f13 (r13 c k n))
    (fun L f h hl => by
      match L, hl with
      | 0, hl => obtain ⟨_, _, hl0⟩ := asI_inv (show _ from hl); exact hl0
      | _ + 1, hl => exact hl)
    (fun n p L hm f h hl => by
      simp only [u13, List.mem_cons, Prod.mk.injEq, List.not_mem_nil, or_false] at hm
      rcases hm with ⟨rfl, rfl⟩
      · have hl : f13 (r13 c k (n + 1)) 0 f h := hl
        obtain ⟨n_1, e_1, hl1⟩ := asI_inv hl
        have hh := e13_0 c k (r13 c k n) f h (f 0) n_1
        rw [fset_self (rfl : f 0 = f 0)] at hh
        rw [fset_self e_1] at hh
        exact Eq.mpr hh hl1
    ) (by simp [u13]) hg

theorem e16_0 (c : Caller Prop FT) (k : KV) (J : J16) (f : FT) (h : H) (v_0 : AV) : chunkA env c q16 u16 (f16 J) d16 (retA env Go.Proofs.Tryz.f16.results.toList k) .root (fset f 0 v_0) h = s16_0 c k J v_0 h := by kernel_rfl
theorem w16 {c : Caller Prop FT} (hc : CallOk Go.Proofs.Tryz.prog (CP env) G (fun p => p) c) {k : KV} {n : Nat} {args : List AV} {h : H} (hg : f16 (r16 c k n) 0 (finit args) h) : SW Go.Proofs.Tryz.prog G (.func 16) args h k :=
  fn_ok mixed envOk hc q16 Go.Proofs.Tryz.func16 rfl (by kernel_rfl) (by kernel_rfl) k u16 (fun n => f16 (r16 c k n))
    (fun L f h hl => by
      match L, hl with
      | 0, hl => exact hl
      | _ + 1, hl => exact hl)
    (fun n p L hm f h hl => by
      simp only [u16, List.mem_cons, Prod.mk.injEq, List.not_mem_nil, or_false] at hm
      rcases hm with ⟨rfl, rfl⟩
      · have hl : f16 (r16 c k (n + 1)) 0 f h := hl
        have hh := e16_0 c k (r16 c k n) f h (f 0)
        rw [fset_self (rfl : f 0 = f 0)] at hh
        exact Eq.mpr hh hl
    ) (by simp [u16]) hg

theorem e17_0 (c : Caller Prop FT) (k : KV) (J : J17) (f : FT) (h : H) (l_0 : Nat) (c_0 : Nat) (l_1 : Nat) (c_1 : Nat) : chunkA env c q17 u17 (f17 J) d17 (retA env Go.Proofs.Tryz.f17.results.toList k) .root (fset (fset f 0 (.str l_0 c_0)) 1 (.str l_1 c_1)) h = s17_0 c k J l_0 c_0 l_1 c_1 h := by kernel_rfl
theorem e17_1 (c : Caller Prop FT) (k : KV) (J : J17) (f : FT) (h : H) (l_0 : Nat) (c_0 : Nat) (l_1 : Nat) (c_1 : Nat) (v_6 : AV) (v_7 : AV) (v_8 : AV) (v_9 : AV) (b_10 : Bool) (n_11 : Int) : chunkA env c q17 u17 (f17 J) d17 (retA env Go.Proofs.Tryz.f17.results.toList k) (.l (.r (.l (.r (.r (.r (.r (.r (.r .root))))))))) (fset (fset (fset (fset (fset (fset (fset (fset f 0 (.str l_0 c_0)) 1 (.str l_1 c_1)) 6 v_6) 7 v_7) 8 v_8) 9 v_9) 10 (.bool b_10)) 11 (.int .i64 n_11)) h = s17_1 c k J l_0 c_0 l_1 c_1 v_6 v_7 v_8 v_9 b_10 n_11 h := by kernel_rfl
theorem e17_2 (c : Caller Prop FT) (k : KV) (J : J17) (f : FT) (h : H) (l_0 : Nat) (c_0 : Nat) (l_1 : Nat) (c_1 : Nat) (v_6 : AV) (v_7 : AV) (v_8 : AV) (v_9 : AV) (n_15 : Int) : chunkA env c q17 u17 (f17 J) d17 (retA env Go.Proofs.Tryz.f17.results.toList k) (.r (.r (.r (.r (.r (.r (.r (.r (.l (.r (.l (.l (.r (.l (.r (.r (.r (.r (.r (.r .root)))))))))))))))))))) (fset (fset (fset (fset (fset (fset (fset f 0 (.str l_0 c_0)) 1 (.str l_1 c_1)) 6 v_6) 7 v_7) 8 v_8) 9 v_9) 15 (.int .i64 n_15)) h = s17_2 c k J l_0 c_0 l_1 c_1 v_6 v_7 v_8 v_9 n_15 h := by kernel_rfl
theorem e17_3 (c : Caller Prop FT) (k : KV) (J : J17) (f : FT) (h : H) (v_7 : AV) (v_8 : AV) : chunkA env c q17 u17 (f17 J) d17 (retA env Go.Proofs.Tryz.f17.results.toList k) (.r (.r (.r (.r (.r (.r (.r (.r .root)))))))) (fset (fset f 7 v_7) 8 v_8) h = s17_3 c k J v_7 v_8 h := by kernel_rfl
theorem e17_4 (c : Caller Prop FT) (k : KV) (J : J17) (f : FT) (h : H) (l_1 : Nat) (c_1 : Nat) (v_7 : AV) (v_8 : AV) (v_9 : AV) : chunkA env c q17 u17 (f17 J) d17 (retA env Go.Proofs.Tryz.f17.results.toList k) (.r (.l (.r (.l (.l (.r (.l (.r (.r (.r (.l (.r (.l (.l (.r (.l (.r (.r (.r (.r (.r (.r .root)))))))))))))))))))))) (fset (fset (fset (fset f 1 (.str l_1 c_1)) 7 v_7) 8 v_8) 9 v_9) h = s17_4 c k J l_1 c_1 v_7 v_8 v_9 h := by kernel_rfl
theorem e17_5 (c : Caller Prop FT) (k : KV) (J : J17) (f : FT) (h : H) (l_0 : Nat) (c_0 : Nat) (l_1 : Nat) (c_1 : Nat) (v_6 : AV) (v_7 : AV) (v_8 : AV) (v_9 : AV) (b_10 : Bool) (n_11 : Int) (n_14 : Int) (n_15 : Int) (b_16 : Bool) : chunkA env c q17 u17 (f17 J) d17 (retA env Go.Proofs.Tryz.f17.results.toList k) (.r (.r (.r (.r (.r (.l (.r (.l (.l (.r (.l (.r (.r (.r (.r (.r (.r .root))))))))))))))))) (fset (fset (fset (fset (fset (fset (fset (fset (fset (fset (fset f 0 (.str l_0 c_0)) 1 (.str l_1 c_1)) 6 v_6) 7 v_7) 8 v_8) 9 v_9) 10 (.bool b_10)) 11 (.int .i64 n_11)) 14 (.int .i64 n_14)) 15 (.int .i64 n_15)) 16 (.bool b_16)) h = s17_5 c k J l_0 c_0 l_1 c_1 v_6 v_7 v_8 v_9 b_10 n_11 n_14 n_15 b_16 h := by kernel_rfl
theorem w17 {c : Caller Prop FT} (hc : CallOk Go.Proofs.Tryz.prog (CP env) G (fun p => p) c) {k : KV} {n : Nat} {args : List AV} {h : H} (hg : f17 (r17 c k n) 0 (finit args) h) : SW Go.Proofs.Tryz.prog G (.func 17) args h k :=
  fn_ok mixed envOk hc q17 Go.Proofs.Tryz.func17 rfl (by kernel_rfl) (by kernel_rfl) k u17 (fun n => f17 (r17 c k n))
    (fun L f h hl => by
      match L, hl with
      | 0, hl => obtain ⟨_, _, _, hl0⟩ := asS_inv (show _ from hl); obtain ⟨_, _, _, hl1⟩ := asS_inv (show _ from hl0); exact hl1
      | 1, hl => obtain ⟨_, _, _, hl0⟩ := asS_inv (show _ from hl); obtain ⟨_, _, _, hl1⟩ := asS_inv (show _ from hl0); obtain ⟨_, _, hl2⟩ := asB_inv (show _ from hl1); obtain ⟨_, _, hl3⟩ := asI_inv (show _ from hl2); exact hl3
      | 2, hl => obtain ⟨_, _, _, hl0⟩ := asS_inv (show _ from hl); obtain ⟨_, _, _, hl1⟩ := asS_inv (show _ from hl0); obtain ⟨_, _, hl2⟩ := asI_inv (show _ from hl1); exact hl2
      | 3, hl => exact hl
      | 4, hl => obtain ⟨_, _, _, hl0⟩ := asS_inv (show _ from hl); exact hl0
      | 5, hl => obtain ⟨_, _, _, hl0⟩ := asS_inv (show _ from hl); obtain ⟨_, _, _, hl1⟩ := asS_inv (show _ from hl0); obtain ⟨_, _, hl2⟩ := asB_inv (show _ from hl1); obtain ⟨_, _, hl3⟩ := asI_inv (show _ from hl2); obtain ⟨_, _, hl4⟩ := asI_inv (show _ from hl3); obtain ⟨_, _, hl5⟩ := asI_inv (show _ from hl4); obtain ⟨_, _, hl6⟩ := asB_inv (show _ from hl5); exact hl6
      | _ + 6, hl => exact hl)
    (fun n p L hm f h hl => by
      simp only [u17, List.mem_cons, Prod.mk.injEq, List.not_mem_nil, or_false] at hm
      rcases hm with ⟨rfl, rfl⟩ | ⟨rfl, rfl⟩ | ⟨rfl, rfl⟩ | ⟨rfl, rfl⟩ | ⟨rfl, rfl⟩ | ⟨rfl, rfl⟩
      · have hl : f17 (r17 c k (n + 1)) 0 f h := hl
        obtain ⟨l_0, c_0, e_0, hl0⟩ := asS_inv hl
        obtain ⟨l_1, c_1, e_1, hl1⟩ := asS_inv hl0
        have hh := e17_0 c k (r17 c k n) f h l_0 c_0 l_1 c_1
        rw [fset_self e_0] at hh
        rw [fset_self e_1] at hh
        exact Eq.mpr hh hl1
      · have hl : f17 (r17 c k (n + 1)) 1 f h := hl
        obtain ⟨l_0, c_0, e_0, hl0⟩ := asS_inv hl
        obtain ⟨l_1, c_1, e_1, hl1⟩ := asS_inv hl0
        obtain ⟨b_10, e_10, hl6⟩ := asB_inv hl1
        obtain ⟨n_11, e_11, hl7⟩ := asI_inv hl6
        have hh := e17_1 c k (r17 c k n) f h l_0 c_0 l_1 c_1 (f 6) (f 7) (f 8) (f 9) b_10 n_11
        rw [fset_self e_0] at hh
        rw [fset_self e_1] at hh
        rw [fset_self (rfl : f 6 = f 6)] at hh
        rw [fset_self (rfl : f 7 = f 7)] at hh
        rw [fset_self (rfl : f 8 = f 8)] at hh
        rw [fset_self (rfl : f 9 = f 9)] at hh
        rw [fset_self e_10] at hh
        rw [fset_self e_11] at hh
        exact Eq.mpr hh hl7
      · have hl : f17 (r17 c k (n + 1)) 2 f h := hl
        obtain ⟨l_0, c_0, e_0, hl0⟩ := asS_inv hl
        obtain ⟨l_1, c_1, e_1, hl1⟩ := asS_inv hl0
        obtain ⟨n_15, e_15, hl6⟩ := asI_inv hl1
        have hh := e17_2 c k (r17 c k n) f h l_0 c_0 l_1 c_1 (f 6) (f 7) (f 8) (f 9) n_15
        rw [fset_self e_0] at hh
        rw [fset_self e_1] at hh
        rw [fset_self (rfl : f 6 = f 6)] at hh
        rw [fset_self (rfl : f 7 = f 7)] at hh
        rw [fset_self (rfl : f 8 = f 8)] at hh
        rw [fset_self (rfl : f 9 = f 9)] at hh
        rw [fset_self e_15] at hh
        exact Eq.mpr hh hl6
      · have hl : f17 (r17 c k (n + 1)) 3 f h := hl
        have hh := e17_3 c k (r17 c k n) f h (f 7) (f 8)
        rw [fset_self (rfl : f 7 = f 7)] at hh
        rw [fset_self (rfl : f 8 = f 8)] at hh
        exact Eq.mpr hh hl
      · have hl : f17 (r17 c k (n + 1)) 4 f h := hl
        obtain ⟨l_1, c_1, e_1, hl0⟩ := asS_inv hl
        have hh := e17_4 c k (r17 c k n) f h l_1 c_1 (f 7) (f 8) (f 9)
        rw [fset_self e_1] at hh
        rw [fset_self (rfl : f 7 = f 7)] at hh
        rw [fset_self (rfl : f 8 = f 8)] at hh
        rw [fset_self (rfl : f 9 = f 9)] at hh
        exact Eq.mpr hh hl0
      · have hl : f17 (r17 c k (n + 1)) 5 f h := hl
        obtain ⟨l_0, c_0, e_0, hl0⟩ := asS_inv hl
        obtain ⟨l_1, c_1, e_1, hl1⟩ := asS_inv hl0
        obtain ⟨b_10, e_10, hl6⟩ := asB_inv hl1
        obtain ⟨n_11, e_11, hl7⟩ := asI_inv hl6
        obtain ⟨n_14, e_14, hl8⟩ := asI_inv hl7
        obtain ⟨n_15, e_15, hl9⟩ := asI_inv hl8
        obtain ⟨b_16, e_16, hl10⟩ := asB_inv hl9
        have hh := e17_5 c k (r17 c k n) f h l_0 c_0 l_1 c_1 (f 6) (f 7) (f 8) (f 9) b_10 n_11 n_14 n_15 b_16
        rw [fset_self e_0] at hh
        rw [fset_self e_1] at hh
        rw [fset_self (rfl : f 6 = f 6)] at hh
        rw [fset_self (rfl : f 7 = f 7)] at hh
        rw [fset_self (rfl : f 8 = f 8)] at hh
        rw [fset_self (rfl : f 9 = f 9)] at hh
        rw [fset_self e_10] at hh
        rw [fset_self e_11] at hh
        rw [fset_self e_14] at hh
        rw [fset_self e_15] at hh
        rw [fset_self e_16] at hh
        exact Eq.mpr hh hl10
    ) (by simp [u17]) hg

theorem e22_0 (c : Caller Prop FT) (k : KV) (J : J22) (f : FT) (h : H) (l_0 : Nat) (c_0 : Nat) (l_1 : Nat) (c_1 : Nat) : chunkA env c q22 u22 (f22 J) d22 (retA env Go.Proofs.Tryz.f22.results.toList k) .root (fset (fset f 0 (.str l_0 c_0)) 1 (.str l_1 c_1)) h = s22_0 c k J l_0 c_0 l_1 c_1 h := by kernel_rfl
theorem w22 {c : Caller Prop FT} (hc : CallOk Go.Proofs.Tryz.prog (CP env) G (fun p => p) c) {k : KV} {n : Nat} {args : List AV} {h : H} (hg : f22 (r22 c k n) 0 (finit args) h) : SW Go.Proofs.Tryz.prog G (.func 22) args h k :=
  fn_ok mixed envOk hc q22 Go.Proofs.Tryz.func22 rfl (by kernel_rfl) (by kernel_rfl) k u22 (fun n => f22 (r22 c k n))
    (fun L f h hl => by
      match L, hl with
      | 0, hl => obtain ⟨_, _, _, hl0⟩ := asS_inv (show _ from hl); obtain ⟨_, _, _, hl1⟩ := asS_inv (show _ from hl0); exact hl1
      | _ + 1, hl => exact hl)
    (fun n p L hm f h hl => by
      simp only [u22, List.mem_cons, Prod.mk.injEq, List.not_mem_nil, or_false] at hm
      rcases hm with ⟨rfl, rfl⟩
      · have hl : f22 (r22 c k (n + 1)) 0 f h := hl
        obtain ⟨l_0, c_0, e_0, hl0⟩ := asS_inv hl
        obtain ⟨l_1, c_1, e_1, hl1⟩ := asS_inv hl0
        have hh := e22_0 c k (r22 c k n) f h l_0 c_0 l_1 c_1
        rw [fset_self e_0] at hh
        rw [fset_self e_1] at hh
        exact Eq.mpr hh hl1
    ) (by simp [u22]) hg

theorem e24_0 (c : Caller Prop FT) (k : KV) (J : J24) (f : FT) (h : H) (v_0 : AV) : chunkA env c q24 u24 (f24 J) d24 (retA env Go.Proofs.Tryz.f24.results.toList k) .root (fset f 0 v_0) h = s24_0 c k J v_0 h := by kernel_rfl
theorem w24 {c : Caller Prop FT} (hc : CallOk Go.Proofs.Tryz.prog (CP env) G (fun p => p) c) {k : KV} {n : Nat} {args : List AV} {h : H} (hg : f24 (r24 c k n) 0 (finit args) h) : SW Go.Proofs.Tryz.prog G (.func 24) args h k :=
  fn_ok mixed envOk hc q24 Go.Proofs.Tryz.func24 rfl (by kernel_rfl) (by kernel_rfl) k u24 (fun n => f24 (r24 c k n))
    (fun L f h hl => by
      match L, hl with
      | 0, hl => exact hl
      | _ + 1, hl => exact hl)
    (fun n p L hm f h hl => by
      simp only [u24, List.mem_cons, Prod.mk.injEq, List.not_mem_nil, or_false] at hm
      rcases hm with ⟨rfl, rfl⟩
      · have hl : f24 (r24 c k (n + 1)) 0 f h := hl
        have hh := e24_0 c k (r24 c k n) f h (f 0)
        rw [fset_self (rfl : f 0 = f 0)] at hh
        exact Eq.mpr hh hl
    ) (by simp [u24]) hg

theorem e25_0 (c : Caller Prop FT) (k : KV) (J : J25) (f : FT) (h : H) (l_0 : Nat) (c_0 : Nat) : chunkA env c q25 u25 (f25 J) d25 (retA env Go.Proofs.Tryz.f25.results.toList k) .root (fset f 0 (.str l_0 c_0)) h = s25_0 c k J l_0 c_0 h := by kernel_rfl
theorem w25 {c : Caller Prop FT} (hc : CallOk Go.Proofs.Tryz.prog (CP env) G (fun p => p) c) {k : KV} {n : Nat} {args : List AV} {h : H} (hg : f25 (r25 c k n) 0 (finit args) h) : SW Go.Proofs.Tryz.prog G (.func 25) args h k :=
  fn_ok mixed envOk hc q25 Go.Proofs.Tryz.func25 rfl (by kernel_rfl) (by kernel_rfl) k u25 (fun n => f25 (r25 c k n))
    (fun L f h hl => by
      match L, hl with
      | 0, hl => obtain ⟨_, _, _, hl0⟩ := asS_inv (show _ from hl); exact hl0
      | _ + 1, hl => exact hl)
    (fun n p L hm f h hl => by
      simp only [u25, List.mem_cons, Prod.mk.injEq, List.not_mem_nil, or_false] at hm
      rcases hm with ⟨rfl, rfl⟩
      · have hl : f25 (r25 c k (n + 1)) 0 f h := hl
        obtain ⟨l_0, c_0, e_0, hl0⟩ := asS_inv hl
        have hh := e25_0 c k (r25 c k n) f h l_0 c_0
        rw [fset_self e_0] at hh
        exact Eq.mpr hh hl0
    ) (by simp [u25]) hg

theorem e26_0 (c : Caller Prop FT) (k : KV) (J : J26) (f : FT) (h : H) (n_0 : Int) : chunkA env c q26 u26 (f26 J) d26 (retA env Go.Proofs.Tryz.f26.results.toList k) .root (fset f 0 (.int .u8 n_0)) h = s26_0 c k J n_0 h := by kernel_rfl
theorem w26 {c : Caller Prop FT} (hc : CallOk Go.Proofs.Tryz.prog (CP env) G (fun p => p) c) {k : KV} {n : Nat} {args : List AV} {h : H} (hg : f26 (r26 c k n) 0 (finit args) h) : SW Go.Proofs.Tryz.prog G (.func 26) args h k :=
  fn_ok mixed envOk hc q26 Go.Proofs.Tryz.func26 rfl (by kernel_rfl) (by kernel_rfl) k u26 (fun n => f26 (r26 c k n))
    (fun L f h hl => by
      match L, hl with
      | 0, hl => obtain ⟨_, _, hl0⟩ := asI_inv (show _ from hl); exact hl0
      | _ + 1, hl => exact hl)
    (fun n p L hm f h hl => by
      simp only [u26, List.mem_cons, Prod.mk.injEq, List.not_mem_nil, or_false] at hm
      rcases hm with ⟨rfl, rfl⟩
      · have hl : f26 (r26 c k (n + 1)) 0 f h := hl
        obtain ⟨n_0, e_0, hl0⟩ := asI_inv hl
        have hh := e26_0 c k (r26 c k n) f h n_0
        rw [fset_self e_0] at hh
        exact Eq.mpr hh hl0
    ) (by simp [u26]) hg

theorem e27_0 (c : Caller Prop FT) (k : KV) (J : J27) (f : FT) (h : H) (v_0 : AV) (n_1 : Int) : chunkA env c q27 u27 (f27 J) d27 (retA env Go.Proofs.Tryz.f27.results.toList k) .root (fset (fset f 0 v_0) 1 (.int .i64 n_1)) h = s27_0 c k J v_0 n_1 h := by kernel_rfl
theorem e27_1 (c : Caller Prop FT) (k : KV) (J : J27) (f : FT) (h : H) (v_0 : AV) (n_6 : Int) : chunkA env c q27 u27 (f27 J) d27 (retA env Go.Proofs.Tryz.f27.results.toList k) (.l (.l (.r (.l (.r (.l (.r (.r .root)))))))) (fset (fset f 0 v_0) 6 (.int .i64 n_6)) h = s27_1 c k J v_0 n_6 h := by kernel_rfl
theorem e27_2 (c : Caller Prop FT) (k : KV) (J : J27) (f : FT) (h : H) (v_0 : AV) (n_7 : Int) : chunkA env c q27 u27 (f27 J) d27 (retA env Go.Proofs.Tryz.f27.results.toList k) (.l (.r (.l (.r (.r (.r (.r .root))))))) (fset (fset f 0 v_0) 7 (.int .i64 n_7)) h = s27_2 c k J v_0 n_7 h := by kernel_rfl
theorem w27 {c : Caller Prop FT} (hc : CallOk Go.Proofs.Tryz.prog (CP env) G (fun p => p) c) {k : KV} {n : Nat} {args : List AV} {h : H} (hg : f27 (r27 c k n) 0 (finit args) h) : SW Go.Proofs.Tryz.prog G (.func 27) args h k :=
  fn_ok mixed envOk hc q27 Go.Proofs.Tryz.func27 rfl (by kernel_rfl) (by kernel_rfl) k u27 (fun n => f27 (r27 c k n))
    (fun L f h hl => by
      match L, hl with
      | 0, hl => obtain ⟨_, _, hl0⟩ := asI_inv (show _ from hl); exact hl0
      | 1, hl => obtain ⟨_, _, hl0⟩ := asI_inv (show _ from hl); exact hl0
      | 2, hl => obtain ⟨_, _, hl0⟩ := asI_inv (show _ from hl); exact hl0
      | _ + 3, hl => exact hl)
    (fun n p L hm f h hl => by
      simp only [u27, List.mem_cons, Prod.mk.injEq, List.not_mem_nil, or_false] at hm
      rcases hm with ⟨rfl, rfl⟩ | ⟨rfl, rfl⟩ | ⟨rfl, rfl⟩
      · have hl : f27 (r27 c k (n + 1)) 0 f h := hl
        obtain ⟨n_1, e_1, hl1⟩ := asI_inv hl
        have hh := e27_0 c k (r27 c k n) f h (f 0) n_1
        rw [fset_self (rfl : f 0 = f 0)] at hh
        rw [fset_self e_1] at hh
        exact Eq.mpr hh hl1
      · have hl : f27 (r27 c k (n + 1)) 1 f h := hl
        obtain ⟨n_6, e_6, hl1⟩ := asI_inv hl
        have hh := e27_1 c k (r27 c k n) f h (f 0) n_6
        rw [fset_self (rfl : f 0 = f 0)] at hh
        rw [fset_self e_6] at hh
        exact Eq.mpr hh hl1
      · have hl : f27 (r27 c k (n + 1)) 2 f h := hl
        obtain ⟨n_7, e_7, hl1⟩ := asI_inv hl
        have hh := e27_2 c k (r27 c k n) f h (f 0) n_7
        rw [fset_self (rfl : f 0 = f 0)] at hh
        rw [fset_self e_7] at hh
        exact Eq.mpr hh hl1
    ) (by simp [u27]) hg

theorem e28_0 (c : Caller Prop FT) (k : KV) (J : J28) (f : FT) (h : H) (v_0 : AV) (n_1 : Int) : chunkA env c q28 u28 (f28 J) d28 (retA env Go.Proofs.Tryz.f28.results.toList k) .root (fset (fset f 0 v_0) 1 (.int .i64 n_1)) h = s28_0 c k J v_0 n_1 h := by kernel_rfl
theorem e28_1 (c : Caller Prop FT) (k : KV) (J : J28) (f : FT) (h : H) (v_0 : AV) (n_9 : Int) : chunkA env c q28 u28 (f28 J) d28 (retA env Go.Proofs.Tryz.f28.results.toList k) (.l (.l (.r (.l (.r (.l (.r (.r (.r .root))))))))) (fset (fset f 0 v_0) 9 (.int .i64 n_9)) h = s28_1 c k J v_0 n_9 h := by kernel_rfl
theorem e28_2 (c : Caller Prop FT) (k : KV) (J : J28) (f : FT) (h : H) (v_0 : AV) (n_1 : Int) : chunkA env c q28 u28 (f28 J) d28 (retA env Go.Proofs.Tryz.f28.results.toList k) (.r (.r (.r .root))) (fset (fset f 0 v_0) 1 (.int .i64 n_1)) h = s28_2 c k J v_0 n_1 h := by kernel_rfl
theorem w28 {c : Caller Prop FT} (hc : CallOk Go.Proofs.Tryz.prog (CP env) G (fun p => p) c) {k : KV} {n : Nat} {args : List AV} {h : H} (hg : f28 (r28 c k n) 0 (finit args) h) : SW Go.Proofs.Tryz.prog G (.func 28) args h k :=
  fn_ok mixed envOk hc q28 Go.Proofs.Tryz.func28 rfl (by kernel_rfl) (by kernel_rfl) k u28 (fun n => f28 (r28 c k n))
    (fun L f h hl => by
      match L, hl with
      | 0, hl => obtain ⟨_, _, hl0⟩ := asI_inv (show _ from hl); exact hl0
      | 1, hl => obtain ⟨_, _, hl0⟩ := asI_inv (show _ from hl); exact hl0
      | 2, hl => obtain ⟨_, _, hl0⟩ := asI_inv (show _ from hl); exact hl0
      | _ + 3, hl => exact hl)
    (fun n p L hm f h hl => by
      simp only [u28, List.mem_cons, Prod.mk.injEq, List.not_mem_nil, or_false] at hm
      rcases hm with ⟨rfl, rfl⟩ | ⟨rfl, rfl⟩ | ⟨rfl, rfl⟩
      · have hl : f28 (r28 c k (n + 1)) 0 f h := hl
        obtain ⟨n_1, e_1, hl1⟩ := asI_inv hl
        have hh := e28_0 c k (r28 c k n) f h (f 0) n_1
        rw [fset_self (rfl : f 0 = f 0)] at hh
        rw [fset_self e_1] at hh
        exact Eq.mpr hh hl1
      · have hl : f28 (r28 c k (n + 1)) 1 f h := hl
        obtain ⟨n_9, e_9, hl1⟩ := asI_inv hl
        have hh := e28_1 c k (r28 c k n) f h (f 0) n_9
        rw [fset_self (rfl : f 0 = f 0)] at hh
        rw [fset_self e_9] at hh
        exact Eq.mpr hh hl1
      · have hl : f28 (r28 c k (n + 1)) 2 f h := hl
        obtain ⟨n_1, e_1, hl1⟩ := asI_inv hl
        have hh := e28_2 c k (r28 c k n) f h (f 0) n_1
        rw [fset_self (rfl : f 0 = f 0)] at hh
        rw [fset_self e_1] at hh
        exact Eq.mpr hh hl1
    ) (by simp [u28]) hg

theorem e29_0 (c : Caller Prop FT) (k : KV) (J : J29) (f : FT) (h : H) (v_0 : AV) : chunkA env c q29 u29 (f29 J) d29 (retA env Go.Proofs.Tryz.f29.results.toList k) .root (fset f 0 v_0) h = s29_0 c k J v_0 h := by kernel_rfl
theorem e29_1 (c : Caller Prop FT) (k : KV) (J : J29) (f : FT) (h : H) (v_0 : AV) (v_3 : AV) (n_4 : Int) : chunkA env c q29 u29 (f29 J) d29 (retA env Go.Proofs.Tryz.f29.results.toList k) (.l (.r (.l (.r (.r .root))))) (fset (fset (fset f 0 v_0) 3 v_3) 4 (.int .i64 n_4)) h = s29_1 c k J v_0 v_3 n_4 h := by kernel_rfl
theorem w29 {c : Caller Prop FT} (hc : CallOk Go.Proofs.Tryz.prog (CP env) G (fun p => p) c) {k : KV} {n : Nat} {args : List AV} {h : H} (hg : f29 (r29 c k n) 0 (finit args) h) : SW Go.Proofs.Tryz.prog G (.func 29) args h k :=
  fn_ok mixed envOk hc q29 Go.Proofs.Tryz.func29 rfl (by kernel_rfl) (by kernel_rfl) k u29 (fun n => f29 (r29 c k n))
    (fun L f h hl => by
      match L, hl with
      | 0, hl => exact hl
      | 1, hl => obtain ⟨_, _, hl0⟩ := asI_inv (show _ from hl); exact hl0
      | _ + 2, hl => exact hl)
    (fun n p L hm f h hl => by
      simp only [u29, List.mem_cons, Prod.mk.injEq, List.not_mem_nil, or_false] at hm
      rcases hm with ⟨rfl, rfl⟩ | ⟨rfl, rfl⟩
      · have hl : f29 (r29 c k (n + 1)) 0 f h := hl
        have hh := e29_0 c k (r29 c k n) f h (f 0)
        rw [fset_self (rfl : f 0 = f 0)] at hh
        exact Eq.mpr hh hl
      · have hl : f29 (r29 c k (n + 1)) 1 f h := hl
        obtain ⟨n_4, e_4, hl2⟩ := asI_inv hl
        have hh := e29_1 c k (r29 c k n) f h (f 0) (f 3) n_4
        rw [fset_self (rfl : f 0 = f 0)] at hh
        rw [fset_self (rfl : f 3 = f 3)] at hh
        rw [fset_self e_4] at hh
        exact Eq.mpr hh hl2
    ) (by simp [u29]) hg

theorem e30_0 (c : Caller Prop FT) (k : KV) (J : J30) (f : FT) (h : H) (l_0 : Nat) (c_0 : Nat) (l_1 : Nat) (c_1 : Nat) : chunkA env c q30 u30 (f30 J) d30 (retA env Go.Proofs.Tryz.f30.results.toList k) .root (fset (fset f 0 (.str l_0 c_0)) 1 (.str l_1 c_1)) h = s30_0 c k J l_0 c_0 l_1 c_1 h := by kernel_rfl
theorem w30 {c : Caller Prop FT} (hc : CallOk Go.Proofs.Tryz.prog (CP env) G (fun p => p) c) {k : KV} {n : Nat} {args : List AV} {h : H} (hg : f30 (r30 c k n) 0 (finit args) h) : SW Go.Proofs.Tryz.prog G (.func 30) args h k :=
  fn_ok mixed envOk hc q30 Go.Proofs.Tryz.func30 rfl (by kernel_rfl) (by kernel_rfl) k u30 (fun n => f30 (r30 c k n))
    (fun L f h hl => by
      match L, hl with
      | 0, hl => obtain ⟨_, _, _, hl0⟩ := asS_inv (show _ from hl); obtain ⟨_, _, _, hl1⟩ := asS_inv (show _ from hl0); exact hl1
      | _ + 1, hl => exact hl)
    (fun n p L hm f h hl => by
      simp only [u30, List.mem_cons, Prod.mk.injEq, List.not_mem_nil, or_false] at hm
      rcases hm with ⟨rfl, rfl⟩
      · have hl : f30 (r30 c k (n + 1)) 0 f h := hl
        obtain ⟨l_0, c_0, e_0, hl0⟩ := asS_inv hl
        obtain ⟨l_1, c_1, e_1, hl1⟩ := asS_inv hl0
        have hh := e30_0 c k (r30 c k n) f h l_0 c_0 l_1 c_1
        rw [fset_self e_0] at hh
        rw [fset_self e_1] at hh
        exact Eq.mpr hh hl1
    ) (by simp [u30]) hg

theorem e33_0 (c : Caller Prop FT) (k : KV) (J : J33) (f : FT) (h : H) (l_0 : Nat) (c_0 : Nat) : chunkA env c q33 u33 (f33 J) d33 (retA env Go.Proofs.Tryz.f33.results.toList k) .root (fset f 0 (.str l_0 c_0)) h = s33_0 c k J l_0 c_0 h := by kernel_rfl
theorem e33_1 (c : Caller Prop FT) (k : KV) (J : J33) (f : FT) (h : H) (l_0 : Nat) (c_0 : Nat) (v_8 : AV) (n_9 : Int) (n_10 : Int) : chunkA env c q33 u33 (f33 J) d33 (retA env Go.Proofs.Tryz.f33.results.toList k) (.l (.r (.l (.r .root)))) (fset (fset (fset (fset f 0 (.str l_0 c_0)) 8 v_8) 9 (.int .i64 n_9)) 10 (.int .i64 n_10)) h = s33_1 c k J l_0 c_0 v_8 n_9 n_10 h := by kernel_rfl
theorem w33 {c : Caller Prop FT} (hc : CallOk Go.Proofs.Tryz.prog (CP env) G (fun p => p) c) {k : KV} {n : Nat} {args : List AV} {h : H} (hg : f33 (r33 c k n) 0 (finit args) h) : SW Go.Proofs.Tryz.prog G (.func 33) args h k :=
  fn_ok mixed envOk hc q33 Go.Proofs.Tryz.func33 rfl (by kernel_rfl) (by kernel_rfl) k u33 (fun n => f33 (r33 c k n))
    (fun L f h hl => by
      match L, hl with
      | 0, hl => obtain ⟨_, _, _, hl0⟩ := asS_inv (show _ from hl); exact hl0
      | 1, hl => obtain ⟨_, _, _, hl0⟩ := asS_inv (show _ from hl); obtain ⟨_, _, hl1⟩ := asI_inv (show _ from hl0); obtain ⟨_, _, hl2⟩ := asI_inv (show _ from hl1); exact hl2
      | _ + 2, hl => exact hl)
    (fun n p L hm f h hl => by
      simp only [u33, List.mem_cons, Prod.mk.injEq, List.not_mem_nil, or_false] at hm
      rcases hm with ⟨rfl, rfl⟩ | ⟨rfl, rfl⟩
      · have hl : f33 (r33 c k (n + 1)) 0 f h := hl
        obtain ⟨l_0, c_0, e_0, hl0⟩ := asS_inv hl
        have hh := e33_0 c k (r33 c k n) f h l_0 c_0
        rw [fset_self e_0] at hh
        exact Eq.mpr hh hl0
      · have hl : f33 (r33 c k (n + 1)) 1 f h := hl
        obtain ⟨l_0, c_0, e_0, hl0⟩ := asS_inv hl
        obtain ⟨n_9, e_9, hl2⟩ := asI_inv hl0
        obtain ⟨n_10, e_10, hl3⟩ := asI_inv hl2
        have hh := e33_1 c k (r33 c k n) f h l_0 c_0 (f 8) n_9 n_10
        rw [fset_self e_0] at hh
        rw [fset_self (rfl : f 8 = f 8)] at hh
        rw [fset_self e_9] at hh
        rw [fset_self e_10] at hh
        exact Eq.mpr hh hl3
    ) (by simp [u33]) hg

theorem e34_0 (c : Caller Prop FT) (k : KV) (J : J34) (f : FT) (h : H) (l_0 : Nat) (c_0 : Nat) : chunkA env c q34 u34 (f34 J) d34 (retA env Go.Proofs.Tryz.f34.results.toList k) .root (fset f 0 (.str l_0 c_0)) h = s34_0 c k J l_0 c_0 h := by kernel_rfl
theorem e34_1 (c : Caller Prop FT) (k : KV) (J : J34) (f : FT) (h : H) (n_5 : Int) (n_6 : Int) (n_8 : Int) (v_38 : AV) : chunkA env c q34 u34 (f34 J) d34 (retA env Go.Proofs.Tryz.f34.results.toList k) (.l (.r (.l (.r (.r (.r (.r (.r (.r (.r .root)))))))))) (fset (fset (fset (fset f 5 (.int .i64 n_5)) 6 (.int .i64 n_6)) 8 (.int .i64 n_8)) 38 v_38) h = s34_1 c k J n_5 n_6 n_8 v_38 h := by kernel_rfl
theorem e34_2 (c : Caller Prop FT) (k : KV) (J : J34) (f : FT) (h : H) (l_0 : Nat) (c_0 : Nat) (n_5 : Int) (n_6 : Int) (n_7 : Int) : chunkA env c q34 u34 (f34 J) d34 (retA env Go.Proofs.Tryz.f34.results.toList k) (.r (.r (.r (.r (.r .root))))) (fset (fset (fset (fset f 0 (.str l_0 c_0)) 5 (.int .i64 n_5)) 6 (.int .i64 n_6)) 7 (.int .i64 n_7)) h = s34_2 c k J l_0 c_0 n_5 n_6 n_7 h := by kernel_rfl
theorem w34 {c : Caller Prop FT} (hc : CallOk Go.Proofs.Tryz.prog (CP env) G (fun p => p) c) {k : KV} {n : Nat} {args : List AV} {h : H} (hg : f34 (r34 c k n) 0 (finit args) h) : SW Go.Proofs.Tryz.prog G (.func 34) args h k :=
  fn_ok mixed envOk hc q34 Go.Proofs.Tryz.func34 rfl (by kernel_rfl) (by kernel_rfl) k u34 (fun n => f34 (r34 c k n))
    (fun L f h hl => by
      match L, hl with
      | 0, hl => obtain ⟨_, _, _, hl0⟩ := asS_inv (show _ from hl); exact hl0
      | 1, hl => obtain ⟨_, _, hl0⟩ := asI_inv (show _ from hl); obtain ⟨_, _, hl1⟩ := asI_inv (show _ from hl0); obtain ⟨_, _, hl2⟩ := asI_inv (show _ from hl1); exact hl2
      | 2, hl => obtain ⟨_, _, _, hl0⟩ := asS_inv (show _ from hl); obtain ⟨_, _, hl1⟩ := asI_inv (show _ from hl0); obtain ⟨_, _, hl2⟩ := asI_inv (show _ from hl1); obtain ⟨_, _, hl3⟩ := asI_inv (show _ from hl2); exact hl3
      | _ + 3, hl => exact hl)
    (fun n p L hm f h hl => by
      simp only [u34, List.mem_cons, Prod.mk.injEq, List.not_mem_nil, or_false] at hm
      rcases hm with ⟨rfl, rfl⟩ | ⟨rfl, rfl⟩ | ⟨rfl, rfl⟩
      · have hl : f34 (r34 c k (n + 1)) 0 f h := hl
        obtain ⟨l_0, c_0, e_0, hl0⟩ := asS_inv hl
        have hh := e34_0 c k (r34 c k n) f h l_0 c_0
        rw [fset_self e_0] at hh
        exact Eq.mpr hh hl0
      · have hl : f34 (r34 c k (n + 1)) 1 f h := hl
        obtain ⟨n_5, e_5, hl0⟩ := asI_inv hl
        obtain ⟨n_6, e_6, hl1⟩ := asI_inv hl0
        obtain ⟨n_8, e_8, hl2⟩ := asI_inv hl1
        have hh := e34_1 c k (r34 c k n) f h n_5 n_6 n_8 (f 38)
        rw [fset_self e_5] at hh
        rw [fset_self e_6] at hh
        rw [fset_self e_8] at hh
        rw [fset_self (rfl : f 38 = f 38)] at hh
        exact Eq.mpr hh hl2
      · have hl : f34 (r34 c k (n + 1)) 2 f h := hl
        obtain ⟨l_0, c_0, e_0, hl0⟩ := asS_inv hl
        obtain ⟨n_5, e_5, hl1⟩ := asI_inv hl0
        obtain ⟨n_6, e_6, hl2⟩ := asI_inv hl1
        obtain ⟨n_7, e_7, hl3⟩ := asI_inv hl2
        have hh := e34_2 c k (r34 c k n) f h l_0 c_0 n_5 n_6 n_7
        rw [fset_self e_0] at hh
        rw [fset_self e_5] at hh
        rw [fset_self e_6] at hh
        rw [fset_self e_7] at hh
        exact Eq.mpr hh hl3
    ) (by simp [u34]) hg

theorem e35_0 (c : Caller Prop FT) (k : KV) (J : J35) (f : FT) (h : H) (l_0 : Nat) (c_0 : Nat) (l_1 : Nat) (c_1 : Nat) : chunkA env c q35 u35 (f35 J) d35 (retA env Go.Proofs.Tryz.f35.results.toList k) .root (fset (fset f 0 (.str l_0 c_0)) 1 (.str l_1 c_1)) h = s35_0 c k J l_0 c_0 l_1 c_1 h := by kernel_rfl
theorem w35 {c : Caller Prop FT} (hc : CallOk Go.Proofs.Tryz.prog (CP env) G (fun p => p) c) {k : KV} {n : Nat} {args : List AV} {h : H} (hg : f35 (r35 c k n) 0 (finit args) h) : SW Go.Proofs.Tryz.prog G (.func 35) args h k :=
  fn_ok mixed envOk hc q35 Go.Proofs.Tryz.func35 rfl (by kernel_rfl) (by kernel_rfl) k u35 (fun n => f35 (r35 c k n))
    (fun L f h hl => by
      match L, hl with
      | 0, hl => obtain ⟨_, _, _, hl0⟩ := asS_inv (show _ from hl); obtain ⟨_, _, _, hl1⟩ := asS_inv (show _ from hl0); exact hl1
      | _ + 1, hl => exact hl)
    (fun n p L hm f h hl => by
      simp only [u35, List.mem_cons, Prod.mk.injEq, List.not_mem_nil, or_false] at hm
      rcases hm with ⟨rfl, rfl⟩
      · have hl : f35 (r35 c k (n + 1)) 0 f h := hl
        obtain ⟨l_0, c_0, e_0, hl0⟩ := asS_inv hl
        obtain ⟨l_1, c_1, e_1, hl1⟩ := asS_inv hl0
        have hh := e35_0 c k (r35 c k n) f h l_0 c_0 l_1 c_1
        rw [fset_self e_0] at hh
        rw [fset_self e_1] at hh
        exact Eq.mpr hh hl1
    ) (by simp [u35]) hg

theorem e40_0 (c : Caller Prop FT) (k : KV) (J : J40) (f : FT) (h : H) (v_0 : AV) (n_1 : Int) : chunkA env c q40 u40 (f40 J) d40 (retA env Go.Proofs.Tryz.f40.results.toList k) .root (fset (fset f 0 v_0) 1 (.int .i64 n_1)) h = s40_0 c k J v_0 n_1 h := by kernel_rfl
theorem w40 {c : Caller Prop FT} (hc : CallOk Go.Proofs.Tryz.prog (CP env) G (fun p => p) c) {k : KV} {n : Nat} {args : List AV} {h : H} (hg : f40 (r40 c k n) 0 (finit args) h) : SW Go.Proofs.Tryz.prog G (.func 40) args h k :=
  fn_ok mixed envOk hc q40 Go.Proofs.Tryz.func40 rfl (by kernel_rfl) (by kernel_rfl) k u40 (fun n => f40 (r40 c k n))
    (fun L f h hl => by
      match L, hl with
      | 0, hl => obtain ⟨_, _, hl0⟩ := asI_inv (show _ from hl); exact hl0
      | _ + 1, hl => exact hl)
    (fun n p L hm f h hl => by
      simp only [u40, List.mem_cons, Prod.mk.injEq, List.not_mem_nil, or_false] at hm
      rcases hm with ⟨rfl, rfl⟩
      · have hl : f40 (r40 c k (n + 1)) 0 f h := hl
        obtain ⟨n_1, e_1, hl1⟩ := asI_inv hl
        have hh := e40_0 c k (r40 c k n) f h (f 0) n_1
        rw [fset_self (rfl : f 0 = f 0)] at hh
        rw [fset_self e_1] at hh
        exact Eq.mpr hh hl1
    ) (by simp [u40]) hg

theorem e41_0 (c : Caller Prop FT) (k : KV) (J : J41) (f : FT) (h : H) (v_0 : AV) (n_1 : Int) : chunkA env c q41 u41 (f41 J) d41 (retA env Go.Proofs.Tryz.f41.results.toList k) .root (fset (fset f 0 v_0) 1 (.int .i64 n_1)) h = s41_0 c k J v_0 n_1 h := by kernel_rfl
theorem w41 {c : Caller Prop FT} (hc : CallOk Go.Proofs.Tryz.prog (CP env) G (fun p => p) c) {k : KV} {n : Nat} {args : List AV} {h : H} (hg : f41 (r41 c k n) 0 (finit args) h) : SW Go.Proofs.Tryz.prog G (.func 41) args h k :=
  fn_ok mixed envOk hc q41 Go.Proofs.Tryz.func41 rfl (by kernel_rfl) (by kernel_rfl) k u41 (fun n => f41 (r41 c k n))
    (fun L f h hl => by
      match L, hl with
      | 0, hl => obtain ⟨_, _, hl0⟩ := asI_inv (show _ from hl); exact hl0
      | _ + 1, hl => exact hl)
    (fun n p L hm f h hl => by
      simp only [u41, List.mem_cons, Prod.mk.injEq, List.not_mem_nil, or_false] at hm
      rcases hm with ⟨rfl, rfl⟩
      · have hl : f41 (r41 c k (n + 1)) 0 f h := hl
        obtain ⟨n_1, e_1, hl1⟩ := asI_inv hl
        have hh := e41_0 c k (r41 c k n) f h (f 0) n_1
        rw [fset_self (rfl : f 0 = f 0)] at hh
        rw [fset_self e_1] at hh
        exact Eq.mpr hh hl1
    ) (by simp [u41]) hg

theorem e42_0 (c : Caller Prop FT) (k : KV) (J : J42) (f : FT) (h : H) (v_0 : AV) (n_1 : Int) : chunkA env c q42 u42 (f42 J) d42 (retA env Go.Proofs.Tryz.f42.results.toList k) .root (fset (fset f 0 v_0) 1 (.int .i64 n_1)) h = s42_0 c k J v_0 n_1 h := by kernel_rfl
theorem e42_1 (c : Caller Prop FT) (k : KV) (J : J42) (f : FT) (h : H) (v_0 : AV) (n_5 : Int) (n_6 : Int) : chunkA env c q42 u42 (f42 J) d42 (retA env Go.Proofs.Tryz.f42.results.toList k) (.l (.r (.l (.r (.r .root))))) (fset (fset (fset f 0 v_0) 5 (.int .u8 n_5)) 6 (.int .i64 n_6)) h = s42_1 c k J v_0 n_5 n_6 h := by kernel_rfl
theorem e42_2 (c : Caller Prop FT) (k : KV) (J : J42) (f : FT) (h : H) (v_0 : AV) (n_5 : Int) (n_6 : Int) : chunkA env c q42 u42 (f42 J) d42 (retA env Go.Proofs.Tryz.f42.results.toList k) (.r (.r (.l (.l (.r (.l (.r (.r .root)))))))) (fset (fset (fset f 0 v_0) 5 (.int .u8 n_5)) 6 (.int .i64 n_6)) h = s42_2 c k J v_0 n_5 n_6 h := by kernel_rfl
theorem w42 {c : Caller Prop FT} (hc : CallOk Go.Proofs.Tryz.prog (CP env) G (fun p => p) c) {k : KV} {n : Nat} {args : List AV} {h : H} (hg : f42 (r42 c k n) 0 (finit args) h) : SW Go.Proofs.Tryz.prog G (.func 42) args h k :=
  fn_ok mixed envOk hc q42 Go.Proofs.Tryz.func42 rfl (by kernel_rfl) (by kernel_rfl) k u42 (fun n => f42 (r42 c k n))
    (fun L f h hl => by
      match L, hl with
      | 0, hl => obtain ⟨_, _, hl0⟩ := asI_inv (show _ from hl); exact hl0
      | 1, hl => obtain ⟨_, _, hl0⟩ := asI_inv (show _ from hl); obtain ⟨_, _, hl1⟩ := asI_inv (show _ from hl0); exact hl1
      | 2, hl => obtain ⟨_, _, hl0⟩ := asI_inv (show _ from hl); obtain ⟨_, _, hl1⟩ := asI_inv (show _ from hl0); exact hl1
      | _ + 3, hl => exact hl)
    (fun n p L hm f h hl => by
      simp only [u42, List.mem_cons, Prod.mk.injEq, List.not_mem_nil, or_false] at hm
      rcases hm with ⟨rfl, rfl⟩ | ⟨rfl, rfl⟩ | ⟨rfl, rfl⟩
      · have hl : f42 (r42 c k (n + 1)) 0 f h := hl
        obtain ⟨n_1, e_1, hl1⟩ := asI_inv hl
        have hh := e42_0 c k (r42 c k n) f h (f 0) n_1
        rw [fset_self (rfl : f 0 = f 0)] at hh
        rw [fset_self e_1] at hh
        exact Eq.mpr hh hl1
      · have hl : f42 (r42 c k (n + 1)) 1 f h := hl
        obtain ⟨n_5, e_5, hl1⟩ := asI_inv hl
        obtain ⟨n_6, e_6, hl2⟩ := asI_inv hl1
        have hh := e42_1 c k (r42 c k n) f h (f 0) n_5 n_6
        rw [fset_self (rfl : f 0 = f 0)] at hh
        rw [fset_self e_5] at hh
        rw [fset_self e_6] at hh
        exact Eq.mpr hh hl2
      · have hl : f42 (r42 c k (n + 1)) 2 f h := hl
        obtain ⟨n_5, e_5, hl1⟩ := asI_inv hl
        obtain ⟨n_6, e_6, hl2⟩ := asI_inv hl1
        have hh := e42_2 c k (r42 c k n) f h (f 0) n_5 n_6
        rw [fset_self (rfl : f 0 = f 0)] at hh
        rw [fset_self e_5] at hh
        rw [fset_self e_6] at hh
        exact Eq.mpr hh hl2
    ) (by simp [u42]) hg

theorem e44_0 (c : Caller Prop FT) (k : KV) (J : J44) (f : FT) (h : H) (n_0 : Int) : chunkA env c q44 u44 (f44 J) d44 (retA env Go.Proofs.Tryz.f44.results.toList k) .root (fset f 0 (.int .u8 n_0)) h = s44_0 c k J n_0 h := by kernel_rfl
theorem w44 {c : Caller Prop FT} (hc : CallOk Go.Proofs.Tryz.prog (CP env) G (fun p => p) c) {k : KV} {n : Nat} {args : List AV} {h : H} (hg : f44 (r44 c k n) 0 (finit args) h) : SW Go.Proofs.Tryz.prog G (.func 44) args h k :=
  fn_ok mixed envOk hc q44 Go.Proofs.Tryz.func44 rfl (by kernel_rfl) (by kernel_rfl) k u44 (fun n => f44 (r44 c k n))
    (fun L f h hl => by
      match L, hl with
      | 0, hl => obtain ⟨_, _, hl0⟩ := asI_inv (show _ from hl); exact hl0
      | _ + 1, hl => exact hl)
    (fun n p L hm f h hl => by
      simp only [u44, List.mem_cons, Prod.mk.injEq, List.not_mem_nil, or_false] at hm
      rcases hm with ⟨rfl, rfl⟩
      · have hl : f44 (r44 c k (n + 1)) 0 f h := hl
        obtain ⟨n_0, e_0, hl0⟩ := asI_inv hl
        have hh := e44_0 c k (r44 c k n) f h n_0
        rw [fset_self e_0] at hh
        exact Eq.mpr hh hl0
    ) (by simp [u44]) hg

theorem e45_0 (c : Caller Prop FT) (k : KV) (J : J45) (f : FT) (h : H) (v_0 : AV) (n_1 : Int) : chunkA env c q45 u45 (f45 J) d45 (retA env Go.Proofs.Tryz.f45.results.toList k) .root (fset (fset f 0 v_0) 1 (.int .i64 n_1)) h = s45_0 c k J v_0 n_1 h := by kernel_rfl
theorem e45_1 (c : Caller Prop FT) (k : KV) (J : J45) (f : FT) (h : H) (v_0 : AV) (n_5 : Int) : chunkA env c q45 u45 (f45 J) d45 (retA env Go.Proofs.Tryz.f45.results.toList k) (.l (.r (.r (.r .root)))) (fset (fset f 0 v_0) 5 (.int .i64 n_5)) h = s45_1 c k J v_0 n_5 h := by kernel_rfl
theorem w45 {c : Caller Prop FT} (hc : CallOk Go.Proofs.Tryz.prog (CP env) G (fun p => p) c) {k : KV} {n : Nat} {args : List AV} {h : H} (hg : f45 (r45 c k n) 0 (finit args) h) : SW Go.Proofs.Tryz.prog G (.func 45) args h k :=
  fn_ok mixed envOk hc q45 Go.Proofs.Tryz.func45 rfl (by kernel_rfl) (by kernel_rfl) k u45 (fun n => f45 (r45 c k n))
    (fun L f h hl => by
      match L, hl with
      | 0, hl => obtain ⟨_, _, hl0⟩ := asI_inv (show _ from hl); exact hl0
      | 1, hl => obtain ⟨_, _, hl0⟩ := asI_inv (show _ from hl); exact hl0
      | _ + 2, hl => exact hl)
    (fun n p L hm f h hl => by
      simp only [u45, List.mem_cons, Prod.mk.injEq, List.not_mem_nil, or_false] at hm
      rcases hm with ⟨rfl, rfl⟩ | ⟨rfl, rfl⟩
      · have hl : f45 (r45 c k (n + 1)) 0 f h := hl
        obtain ⟨n_1, e_1, hl1⟩ := asI_inv hl
        have hh := e45_0 c k (r45 c k n) f h (f 0) n_1
        rw [fset_self (rfl : f 0 = f 0)] at hh
        rw [fset_self e_1] at hh
        exact Eq.mpr hh hl1
      · have hl : f45 (r45 c k (n + 1)) 1 f h := hl
        obtain ⟨n_5, e_5, hl1⟩ := asI_inv hl
        have hh := e45_1 c k (r45 c k n) f h (f 0) n_5
        rw [fset_self (rfl : f 0 = f 0)] at hh
        rw [fset_self e_5] at hh
        exact Eq.mpr hh hl1
    ) (by simp [u45]) hg

theorem e46_0 (c : Caller Prop FT) (k : KV) (J : J46) (f : FT) (h : H) (v_0 : AV) (n_1 : Int) : chunkA env c q46 u46 (f46 J) d46 (retA env Go.Proofs.Tryz.f46.results.toList k) .root (fset (fset f 0 v_0) 1 (.int .i64 n_1)) h = s46_0 c k J v_0 n_1 h := by kernel_rfl
theorem e46_1 (c : Caller Prop FT) (k : KV) (J : J46) (f : FT) (h : H) (v_0 : AV) (n_1 : Int) (v_5 : AV) (n_6 : Int) : chunkA env c q46 u46 (f46 J) d46 (retA env Go.Proofs.Tryz.f46.results.toList k) (.l (.r (.l (.r (.r .root))))) (fset (fset (fset (fset f 0 v_0) 1 (.int .i64 n_1)) 5 v_5) 6 (.int .i64 n_6)) h = s46_1 c k J v_0 n_1 v_5 n_6 h := by kernel_rfl
theorem e46_2 (c : Caller Prop FT) (k : KV) (J : J46) (f : FT) (h : H) (v_0 : AV) (n_1 : Int) (v_5 : AV) (n_6 : Int) (n_7 : Int) : chunkA env c q46 u46 (f46 J) d46 (retA env Go.Proofs.Tryz.f46.results.toList k) (.l (.l (.r (.l (.l (.r (.l (.l (.r (.l (.r (.r .root)))))))))))) (fset (fset (fset (fset (fset f 0 v_0) 1 (.int .i64 n_1)) 5 v_5) 6 (.int .i64 n_6)) 7 (.int .i64 n_7)) h = s46_2 c k J v_0 n_1 v_5 n_6 n_7 h := by kernel_rfl
theorem w46 {c : Caller Prop FT} (hc : CallOk Go.Proofs.Tryz.prog (CP env) G (fun p => p) c) {k : KV} {n : Nat} {args : List AV} {h : H} (hg : f46 (r46 c k n) 0 (finit args) h) : SW Go.Proofs.Tryz.prog G (.func 46) args h k :=
  fn_ok mixed envOk hc q46 Go.Proofs.Tryz.func46 rfl (by kernel_rfl) (by kernel_rfl) k u46 (fun n => f46 (r46 c k n))
    (fun L f h hl => by
      match L, hl with
      | 0, hl => obtain ⟨_, _, hl0⟩ := asI_inv (show _ from hl); exact hl0
      | 1, hl => obtain ⟨_, _, hl0⟩ := asI_inv (show _ from hl); obtain ⟨_, _, hl1⟩ := asI_inv (show _ from hl0); exact hl1
      | 2, hl => obtain ⟨_, _, hl0⟩ := asI_inv (show _ from hl); obtain ⟨_, _, hl1⟩ := asI_inv (show _ from hl0); obtain ⟨_, _, hl2⟩ := asI_inv (show _ from hl1); exact hl2
      | _ + 3, hl => exact hl)
    (fun n p L hm f h hl => by
      simp only [u46, List.mem_cons, Prod.mk.injEq, List.not_mem_nil, or_false] at hm
      rcases hm with ⟨rfl, rfl⟩ | ⟨rfl, rfl⟩ | ⟨rfl, rfl⟩
      · have hl : f46 (r46 c k (n + 1)) 0 f h := hl
        obtain ⟨n_1, e_1, hl1⟩ := asI_inv hl
        have hh := e46_0 c k (r46 c k n) f h (f 0) n_1
        rw [fset_self (rfl : f 0 = f 0)] at hh
        rw [fset_self e_1] at hh
        exact Eq.mpr hh hl1
      · have hl : f46 (r46 c k (n + 1)) 1 f h := hl
        obtain ⟨n_1, e_1, hl1⟩ := asI_inv hl
        obtain ⟨n_6, e_6, hl3⟩ := asI_inv hl1
        have hh := e46_1 c k (r46 c k n) f h (f 0) n_1 (f 5) n_6
        rw [fset_self (rfl : f 0 = f 0)] at hh
        rw [fset_self e_1] at hh
        rw [fset_self (rfl : f 5 = f 5)] at hh
        rw [fset_self e_6] at hh
        exact Eq.mpr hh hl3
      · have hl : f46 (r46 c k (n + 1)) 2 f h := hl
        obtain ⟨n_1, e_1, hl1⟩ := asI_inv hl
        obtain ⟨n_6, e_6, hl3⟩ := asI_inv hl1
        obtain ⟨n_7, e_7, hl4⟩ := asI_inv hl3
        have hh := e46_2 c k (r46 c k n) f h (f 0) n_1 (f 5) n_6 n_7
        rw [fset_self (rfl : f 0 = f 0)] at hh
        rw [fset_self e_1] at hh
        rw [fset_self (rfl : f 5 = f 5)] at hh
        rw [fset_self e_6] at hh
        rw [fset_self e_7] at hh
        exact Eq.mpr hh hl4
    ) (by simp [u46]) hg

theorem e48_0 (c : Caller Prop FT) (k : KV) (J : J48) (f : FT) (h : H) (l_0 : Nat) (c_0 : Nat) (n_1 : Int) : chunkA env c q48 u48 (f48 J) d48 (retA env Go.Proofs.Tryz.f48.results.toList k) .root (fset (fset f 0 (.str l_0 c_0)) 1 (.int .u8 n_1)) h = s48_0 c k J l_0 c_0 n_1 h := by kernel_rfl
theorem e48_1 (c : Caller Prop FT) (k : KV) (J : J48) (f : FT) (h : H) (l_0 : Nat) (c_0 : Nat) (n_1 : Int) : chunkA env c q48 u48 (f48 J) d48 (retA env Go.Proofs.Tryz.f48.results.toList k) (.l (.l (.r .root))) (fset (fset f 0 (.str l_0 c_0)) 1 (.int .u8 n_1)) h = s48_1 c k J l_0 c_0 n_1 h := by kernel_rfl
theorem w48 {c : Caller Prop FT} (hc : CallOk Go.Proofs.Tryz.prog (CP env) G (fun p => p) c) {k : KV} {n : Nat} {args : List AV} {h : H} (hg : f48 (r48 c k n) 0 (finit args) h) : SW Go.Proofs.Tryz.prog G (.func 48) args h k :=
  fn_ok mixed envOk hc q48 Go.Proofs.Tryz.func48 rfl (by kernel_rfl) (by kernel_rfl) k u48 (fun n => f48 (r48 c k n))
    (fun L f h hl => by
      match L, hl with
      | 0, hl => obtain ⟨_, _, _, hl0⟩ := asS_inv (show _ from hl); obtain ⟨_, _, hl1⟩ := asI_inv (show _ from hl0); exact hl1
      | 1, hl => obtain ⟨_, _, _, hl0⟩ := asS_inv (show _ from hl); obtain ⟨_, _, hl1⟩ := asI_inv (show _ from hl0); exact hl1
      | _ + 2, hl => exact hl)
    (fun n p L hm f h hl => by
      simp only [u48, List.mem_cons, Prod.mk.injEq, List.not_mem_nil, or_false] at hm
      rcases hm with ⟨rfl, rfl⟩ | ⟨rfl, rfl⟩
      · have hl : f48 (r48 c k (n + 1)) 0 f h := hl
        obtain ⟨l_0, c_0, e_0, hl0⟩ := asS_inv hl
        obtain ⟨n_1, e_1, hl1⟩ := asI_inv hl0
        have hh := e48_0 c k (r48 c k n) f h l_0 c_0 n_1
        rw [fset_self e_0] at hh
        rw [fset_self e_1] at hh
        exact Eq.mpr hh hl1
      · have hl : f48 (r48 c k (n + 1)) 1 f h := hl
        obtain ⟨l_0, c_0, e_0, hl0⟩ := asS_inv hl
        obtain ⟨n_1, e_1, hl1⟩ := asI_inv hl0
        have hh := e48_1 c k (r48 c k n) f h l_0 c_0 n_1
        rw [fset_self e_0] at hh
        rw [fset_self e_1] at hh
        exact Eq.mpr hh hl1
    ) (by simp [u48]) hg

theorem e51_0 (c : Caller Prop FT) (k : KV) (J : J51) (f : FT) (h : H) (l_0 : Nat) (c_0 : Nat) (v_1 : AV) : chunkA env c q51 u51 (f51 J) d51 (retA env Go.Proofs.Tryz.f51.results.toList k) .root (fset (fset f 0 (.str l_0 c_0)) 1 v_1) h = s51_0 c k J l_0 c_0 v_1 h := by kernel_rfl
theorem e51_1 (c : Caller Prop FT) (k : KV) (J : J51) (f : FT) (h : H) (l_0 : Nat) (c_0 : Nat) (v_1 : AV) : chunkA env c q51 u51 (f51 J) d51 (retA env Go.Proofs.Tryz.f51.results.toList k) (.l (.l (.r .root))) (fset (fset f 0 (.str l_0 c_0)) 1 v_1) h = s51_1 c k J l_0 c_0 v_1 h := by kernel_rfl
theorem w51 {c : Caller Prop FT} (hc : CallOk Go.Proofs.Tryz.prog (CP env) G (fun p => p) c) {k : KV} {n : Nat} {args : List AV} {h : H} (hg : f51 (r51 c k n) 0 (finit args) h) : SW Go.Proofs.Tryz.prog G (.func 51) args h k :=
  fn_ok mixed envOk hc q51 Go.Proofs.Tryz.func51 rfl (by kernel_rfl) (by kernel_rfl) k u51 (fun n => f51 (r51 c k n))
    (fun L f h hl => by
      match L, hl with
      | 0, hl => obtain ⟨_, _, _, hl0⟩ := asS_inv (show _ from hl); exact hl0
      | 1, hl => obtain ⟨_, _, _, hl0⟩ := asS_inv (show _ from hl); exact hl0
      | _ + 2, hl => exact hl)
    (fun n p L hm f h hl => by
      simp only [u51, List.mem_cons, Prod.mk.injEq, List.not_mem_nil, or_false] at hm
      rcases hm with ⟨rfl, rfl⟩ | ⟨rfl, rfl⟩
      · have hl : f51 (r51 c k (n + 1)) 0 f h := hl
        obtain ⟨l_0, c_0, e_0, hl0⟩ := asS_inv hl
        have hh := e51_0 c k (r51 c k n) f h l_0 c_0 (f 1)
        rw [fset_self e_0] at hh
        rw [fset_self (rfl : f 1 = f 1)] at hh
        exact Eq.mpr hh hl0
      · have hl : f51 (r51 c k (n + 1)) 1 f h := hl
        obtain ⟨l_0, c_0, e_0, hl0⟩ := asS_inv hl
        have hh := e51_1 c k (r51 c k n) f h l_0 c_0 (f 1)
        rw [fset_self e_0] at hh
        rw [fset_self (rfl : f 1 = f 1)] at hh
        exact Eq.mpr hh hl0
    ) (by simp [u51]) hg

theorem e56_0 (c : Caller Prop FT) (k : KV) (J : J56) (f : FT) (h : H) (l_0 : Nat) (c_0 : Nat) (n_1 : Int) : chunkA env c q56 u56 (f56 J) d56 (retA env Go.Proofs.Tryz.f56.results.toList k) .root (fset (fset f 0 (.str l_0 c_0)) 1 (.int .u8 n_1)) h = s56_0 c k J l_0 c_0 n_1 h := by kernel_rfl
theorem w56 {c : Caller Prop FT} (hc : CallOk Go.Proofs.Tryz.prog (CP env) G (fun p => p) c) {k : KV} {n : Nat} {args : List AV} {h : H} (hg : f56 (r56 c k n) 0 (finit args) h) : SW Go.Proofs.Tryz.prog G (.func 56) args h k :=
  fn_ok mixed envOk hc q56 Go.Proofs.Tryz.func56 rfl (by kernel_rfl) (by kernel_rfl) k u56 (fun n => f56 (r56 c k n))
    (fun L f h hl => by
      match L, hl with
      | 0, hl => obtain ⟨_, _, _, hl0⟩ := asS_inv (show _ from hl); obtain ⟨_, _, hl1⟩ := asI_inv (show _ from hl0); exact hl1
      | _ + 1, hl => exact hl)
    (fun n p L hm f h hl => by
      simp only [u56, List.mem_cons, Prod.mk.injEq, List.not_mem_nil, or_false] at hm
      rcases hm with ⟨rfl, rfl⟩
      · have hl : f56 (r56 c k (n + 1)) 0 f h := hl
        obtain ⟨l_0, c_0, e_0, hl0⟩ := asS_inv hl
        obtain ⟨n_1, e_1, hl1⟩ := asI_inv hl0
        have hh := e56_0 c k (r56 c k n) f h l_0 c_0 n_1
        rw [fset_self e_0] at hh
        rw [fset_self e_1] at hh
        exact Eq.mpr hh hl1
    ) (by simp [u56]) hg

theorem e57_0 (c : Caller Prop FT) (k : KV) (J : J57) (f : FT) (h : H) (l_0 : Nat) (c_0 : Nat) (l_1 : Nat) (c_1 : Nat) : chunkA env c q57 u57 (f57 J) d57 (retA env Go.Proofs.Tryz.f57.results.toList k) .root (fset (fset f 0 (.str l_0 c_0)) 1 (.str l_1 c_1)) h = s57_0 c k J l_0 c_0 l_1 c_1 h := by kernel_rfl
theorem w57 {c : Caller Prop FT} (hc : CallOk Go.Proofs.Tryz.prog (CP env) G (fun p => p) c) {k : KV} {n : Nat} {args : List AV} {h : H} (hg : f57 (r57 c k n) 0 (finit args) h) : SW Go.Proofs.Tryz.prog G (.func 57) args h k :=
  fn_ok mixed envOk hc q57 Go.Proofs.Tryz.func57 rfl (by kernel_rfl) (by kernel_rfl) k u57 (fun n => f57 (r57 c k n))
    (fun L f h hl => by
      match L, hl with
      | 0, hl => obtain ⟨_, _, _, hl0⟩ := asS_inv (show _ from hl); obtain ⟨_, _, _, hl1⟩ := asS_inv (show _ from hl0); exact hl1
      | _ + 1, hl => exact hl)
    (fun n p L hm f h hl => by
      simp only [u57, List.mem_cons, Prod.mk.injEq, List.not_mem_nil, or_false] at hm
      rcases hm with ⟨rfl, rfl⟩
      · have hl : f57 (r57 c k (n + 1)) 0 f h := hl
        obtain ⟨l_0, c_0, e_0, hl0⟩ := asS_inv hl
        obtain ⟨l_1, c_1, e_1, hl1⟩ := asS_inv hl0
        have hh := e57_0 c k (r57 c k n) f h l_0 c_0 l_1 c_1
        rw [fset_self e_0] at hh
        rw [fset_self e_1] at hh
        exact Eq.mpr hh hl1
    ) (by simp [u57]) hg

theorem e58_0 (c : Caller Prop FT) (k : KV) (J : J58) (f : FT) (h : H) (l_0 : Nat) (c_0 : Nat) : chunkA env c q58 u58 (f58 J) d58 (retA env Go.Proofs.Tryz.f58.results.toList k) .root (fset f 0 (.str l_0 c_0)) h = s58_0 c k J l_0 c_0 h := by kernel_rfl
theorem e58_1 (c : Caller Prop FT) (k : KV) (J : J58) (f : FT) (h : H) (l_0 : Nat) (c_0 : Nat) (b_3 : Bool) (b_4 : Bool) (n_5 : Int) : chunkA env c q58 u58 (f58 J) d58 (retA env Go.Proofs.Tryz.f58.results.toList k) (.l (.r (.l (.r (.r .root))))) (fset (fset (fset (fset f 0 (.str l_0 c_0)) 3 (.bool b_3)) 4 (.bool b_4)) 5 (.int .i64 n_5)) h = s58_1 c k J l_0 c_0 b_3 b_4 n_5 h := by kernel_rfl
theorem e58_2 (c : Caller Prop FT) (k : KV) (J : J58) (f : FT) (h : H) (l_0 : Nat) (c_0 : Nat) (v_7 : AV) (n_8 : Int) (n_9 : Int) : chunkA env c q58 u58 (f58 J) d58 (retA env Go.Proofs.Tryz.f58.results.toList k) (.l (.r (.l (.r (.r (.r (.r (.l (.r (.l (.r (.r (.r .root))))))))))))) (fset (fset (fset (fset f 0 (.str l_0 c_0)) 7 v_7) 8 (.int .i64 n_8)) 9 (.int .i64 n_9)) h = s58_2 c k J l_0 c_0 v_7 n_8 n_9 h := by kernel_rfl
theorem e58_3 (c : Caller Prop FT) (k : KV) (J : J58) (f : FT) (h : H) (l_0 : Nat) (c_0 : Nat) (v_7 : AV) (n_9 : Int) (n_10 : Int) : chunkA env c q58 u58 (f58 J) d58 (retA env Go.Proofs.Tryz.f58.results.toList k) (.r (.r (.l (.r (.r (.l (.l (.r (.l (.l (.r (.l (.r (.r (.r (.r (.l (.r (.l (.r (.r (.r .root)))))))))))))))))))))) (fset (fset (fset (fset f 0 (.str l_0 c_0)) 7 v_7) 9 (.int .i64 n_9)) 10 (.int .u8 n_10)) h = s58_3 c k J l_0 c_0 v_7 n_9 n_10 h := by kernel_rfl
theorem e58_4 (c : Caller Prop FT) (k : KV) (J : J58) (f : FT) (h : H) (l_0 : Nat) (c_0 : Nat) (v_7 : AV) (n_8 : Int) (n_9 : Int) : chunkA env c q58 u58 (f58 J) d58 (retA env Go.Proofs.Tryz.f58.results.toList k) (.r (.r (.l (.l (.r (.l (.r (.r (.r (.r (.l (.r (.l (.r (.r (.r .root)))))))))))))))) (fset (fset (fset (fset f 0 (.str l_0 c_0)) 7 v_7) 8 (.int .i64 n_8)) 9 (.int .i64 n_9)) h = s58_4 c k J l_0 c_0 v_7 n_8 n_9 h := by kernel_rfl
theorem e58_5 (c : Caller Prop FT) (k : KV) (J : J58) (f : FT) (h : H) (l_0 : Nat) (c_0 : Nat) (b_3 : Bool) (b_4 : Bool) : chunkA env c q58 u58 (f58 J) d58 (retA env Go.Proofs.Tryz.f58.results.toList k) (.r (.r (.r .root))) (fset (fset (fset f 0 (.str l_0 c_0)) 3 (.bool b_3)) 4 (.bool b_4)) h = s58_5 c k J l_0 c_0 b_3 b_4 h := by kernel_rfl
theorem w58 {c : Caller Prop FT} (hc : CallOk Go.Proofs.Tryz.prog (CP env) G (fun p => p) c) {k : KV} {n : Nat} {args : List AV} {h : H} (hg : f58 (r58 c k n) 0 (finit args) h) : SW Go.Proofs.Tryz.prog G (.func 58) args h k :=
  fn_ok mixed envOk hc q58 Go.Proofs.Tryz.func58 rfl (by kernel_rfl) (by kernel_rfl) k u58 (fun n => f58 (r58 c k n))
    (fun L f h hl => by
      match L, hl with
      | 0, hl => obtain ⟨_, _, _, hl0⟩ := asS_inv (show _ from hl); exact hl0
      | 1, hl => obtain ⟨_, _, _, hl0⟩ := asS_inv (show _ from hl); obtain ⟨_, _, hl1⟩ := asB_inv (show _ from hl0); obtain ⟨_, _, hl2⟩ := asB_inv (show _ from hl1); obtain ⟨_, _, hl3⟩ := asI_inv (show _ from hl2); exact hl3
      | 2, hl => obtain ⟨_, _, _, hl0⟩ := asS_inv (show _ from hl); obtain ⟨_, _, hl1⟩ := asI_inv (show _ from hl0); obtain ⟨_, _, hl2⟩ := asI_inv (show _ from hl1); exact hl2
      | 3, hl => obtain ⟨_, _, _, hl0⟩ := asS_inv (show _ from hl); obtain ⟨_, _, hl1⟩ := asI_inv (show _ from hl0); obtain ⟨_, _, hl2⟩ := asI_inv (show _ from hl1); exact hl2
      | 4, hl => obtain ⟨_, _, _, hl0⟩ := asS_inv (show _ from hl); obtain ⟨_, _, hl1⟩ := asI_inv (show _ from hl0); obtain ⟨_, _, hl2⟩ := asI_inv (show _ from hl1); exact hl2
      | 5, hl => obtain ⟨_, _, _, hl0⟩ := asS_inv (show _ from hl); obtain ⟨_, _, hl1⟩ := asB_inv (show _ from hl0); obtain ⟨_, _, hl2⟩ := asB_inv (show _ from hl1); exact hl2
      | _ + 6, hl => exact hl)
    (fun n p L hm f h hl => by
      simp only [u58, List.mem_cons, Prod.mk.injEq, List.not_mem_nil, or_false] at hm
      rcases hm with ⟨rfl, rfl⟩ | ⟨rfl, rfl⟩ | ⟨rfl, rfl⟩ | ⟨rfl, rfl⟩ | ⟨rfl, rfl⟩ | ⟨rfl, rfl⟩
      · have hl : f58 (r58 c k (n + 1)) 0 f h := hl
        obtain ⟨l_0, c_0, e_0, hl0⟩ := asS_inv hl
        have hh := e58_0 c k (r58 c k n) f h l_0 c_0
        rw [fset_self e_0] at hh
        exact Eq.mpr hh hl0
      · have hl : f58 (r58 c k (n + 1)) 1 f h := hl
        obtain ⟨l_0, c_0, e_0, hl0⟩ := asS_inv hl
        obtain ⟨b_3, e_3, hl1⟩ := asB_inv hl0
        obtain ⟨b_4, e_4, hl2⟩ := asB_inv hl1
        obtain ⟨n_5, e_5, hl3⟩ := asI_inv hl2
        have hh := e58_1 c k (r58 c k n) f h l_0 c_0 b_3 b_4 n_5
        rw [fset_self e_0] at hh
        rw [fset_self e_3] at hh
        rw [fset_self e_4] at hh
        rw [fset_self e_5] at hh
        exact Eq.mpr hh hl3
      · have hl : f58 (r58 c k (n + 1)) 2 f h := hl
        obtain ⟨l_0, c_0, e_0, hl0⟩ := asS_inv hl
        obtain ⟨n_8, e_8, hl2⟩ := asI_inv hl0
        obtain ⟨n_9, e_9, hl3⟩ := asI_inv hl2
        have hh := e58_2 c k (r58 c k n) f h l_0 c_0 (f 7) n_8 n_9
        rw [fset_self e_0] at hh
        rw [fset_self (rfl : f 7 = f 7)] at hh
        rw [fset_self e_8] at hh
        rw [fset_self e_9] at hh
        exact Eq.mpr hh hl3
      · have hl : f58 (r58 c k (n + 1)) 3 f h := hl
        obtain ⟨l_0, c_0, e_0, hl0⟩ := asS_inv hl
        obtain ⟨n_9, e_9, hl2⟩ := asI_inv hl0
        obtain ⟨n_10, e_10, hl3⟩ := asI_inv hl2
        have hh := e58_3 c k (r58 c k n) f h l_0 c_0 (f 7) n_9 n_10
        rw [fset_self e_0] at hh
        rw [fset_self (rfl : f 7 = f 7)] at hh
        rw [fset_self e_9] at hh
        rw [fset_self e_10] at hh
        exact Eq.mpr hh hl3
      · have hl : f58 (r58 c k (n + 1)) 4 f h := hl
        obtain ⟨l_0, c_0, e_0, hl0⟩ := asS_inv hl
        obtain ⟨n_8, e_8, hl2⟩ := asI_inv hl0
        obtain ⟨n_9, e_9, hl3⟩ := asI_inv hl2
        have hh := e58_4 c k (r58 c k n) f h l_0 c_0 (f 7) n_8 n_9
        rw [fset_self e_0] at hh
        rw [fset_self (rfl : f 7 = f 7)] at hh
        rw [fset_self e_8] at hh
        rw [fset_self e_9] at hh
        exact Eq.mpr hh hl3
      · have hl : f58 (r58 c k (n + 1)) 5 f h := hl
        obtain ⟨l_0, c_0, e_0, hl0⟩ := asS_inv hl
        obtain ⟨b_3, e_3, hl1⟩ := asB_inv hl0
        obtain ⟨b_4, e_4, hl2⟩ := asB_inv hl1
        have hh := e58_5 c k (r58 c k n) f h l_0 c_0 b_3 b_4
        rw [fset_self e_0] at hh
        rw [fset_self e_3] at hh
        rw [fset_self e_4] at hh
        exact Eq.mpr hh hl2
    ) (by simp [u58]) hg

theorem e67_0 (c : Caller Prop FT) (k : KV) (J : J67) (f : FT) (h : H) (l_0 : Nat) (c_0 : Nat) (n_1 : Int) (n_2 : Int) : chunkA env c q67 u67 (f67 J) d67 (retA env Go.Proofs.Tryz.f67.results.toList k) .root (fset (fset (fset f 0 (.str l_0 c_0)) 1 (.int .i64 n_1)) 2 (.int .i64 n_2)) h = s67_0 c k J l_0 c_0 n_1 n_2 h := by kernel_rfl
theorem e67_1 (c : Caller Prop FT) (k : KV) (J : J67) (f : FT) (h : H) (n_11 : Int) : chunkA env c q67 u67 (f67 J) d67 (retA env Go.Proofs.Tryz.f67.results.toList k) (.r (.r (.r (.r (.r (.r (.r (.r (.r (.r (.r (.r (.r .root))))))))))))) (fset f 11 (.int .i64 n_11)) h = s67_1 c k J n_11 h := by kernel_rfl
theorem e67_2 (c : Caller Prop FT) (k : KV) (J : J67) (f : FT) (h : H) (n_2 : Int) (b_8 : Bool) (n_9 : Int) : chunkA env c q67 u67 (f67 J) d67 (retA env Go.Proofs.Tryz.f67.results.toList k) (.r (.r (.r (.r (.r (.r (.r (.r .root)))))))) (fset (fset (fset f 2 (.int .i64 n_2)) 8 (.bool b_8)) 9 (.int .u64 n_9)) h = s67_2 c k J n_2 b_8 n_9 h := by kernel_rfl
theorem e67_3 (c : Caller Prop FT) (k : KV) (J : J67) (f : FT) (h : H) (l_0 : Nat) (c_0 : Nat) (n_1 : Int) (n_2 : Int) (b_8 : Bool) : chunkA env c q67 u67 (f67 J) d67 (retA env Go.Proofs.Tryz.f67.results.toList k) (.r (.r (.r (.r .root)))) (fset (fset (fset (fset f 0 (.str l_0 c_0)) 1 (.int .i64 n_1)) 2 (.int .i64 n_2)) 8 (.bool b_8)) h = s67_3 c k J l_0 c_0 n_1 n_2 b_8 h := by kernel_rfl
theorem w67 {c : Caller Prop FT} (hc : CallOk Go.Proofs.Tryz.prog (CP env) G (fun p => p) c) {k : KV} {n : Nat} {args : List AV} {h : H} (hg : f67 (r67 c k n) 0 (finit args) h) : SW Go.Proofs.Tryz.prog G (.func 67) args h k :=
  fn_ok mixed envOk hc q67 Go.Proofs.Tryz.func67 rfl (by kernel_rfl) (by kernel_rfl) k u67 (fun n => f67 (r67 c k n))
    (fun L f h hl => by
      match L, hl with
      | 0, hl => obtain ⟨_, _, _, hl0⟩ := asS_inv (show _ from hl); obtain ⟨_, _, hl1⟩ := asI_inv (show _ from hl0); obtain ⟨_, _, hl2⟩ := asI_inv (show _ from hl1); exact hl2
      | 1, hl => obtain ⟨_, _, hl0⟩ := asI_inv (show _ from hl); exact hl0
      | 2, hl => obtain ⟨_, _, hl0⟩ := asI_inv (show _ from hl); obtain ⟨_, _, hl1⟩ := asB_inv (show _ from hl0); obtain ⟨_, _, hl2⟩ := asI_inv (show _ from hl1); exact hl2
      | 3, hl => obtain ⟨_, _, _, hl0⟩ := asS_inv (show _ from hl); obtain ⟨_, _, hl1⟩ := asI_inv (show _ from hl0); obtain ⟨_, _, hl2⟩ := asI_inv (show _ from hl1); obtain ⟨_, _, hl3⟩ := asB_inv (show _ from hl2); exact hl3
      | _ + 4, hl => exact hl)
    (fun n p L hm f h hl => by
      simp only [u67, List.mem_cons, Prod.mk.injEq, List.not_mem_nil, or_false] at hm
      rcases hm with ⟨rfl, rfl⟩ | ⟨rfl, rfl⟩ | ⟨rfl, rfl⟩ | ⟨rfl, rfl⟩
      · have hl : f67 (r67 c k (n + 1)) 0 f h := hl
        obtain ⟨l_0, c_0, e_0, hl0⟩ := asS_inv hl
        obtain ⟨n_1, e_1, hl1⟩ := asI_inv hl0
        obtain ⟨n_2, e_2, hl2⟩ := asI_inv hl1
        have hh := e67_0 c k (r67 c k n) f h l_0 c_0 n_1 n_2
        rw [fset_self e_0] at hh
        rw [fset_self e_1] at hh
        rw [fset_self e_2] at hh
        exact Eq.mpr hh hl2
      · have hl : f67 (r67 c k (n + 1)) 1 f h := hl
        obtain ⟨n_11, e_11, hl0⟩ := asI_inv hl
        have hh := e67_1 c k (r67 c k n) f h n_11
        rw [fset_self e_11] at hh
        exact Eq.mpr hh hl0
      · have hl : f67 (r67 c k (n + 1)) 2 f h := hl
        obtain ⟨n_2, e_2, hl0⟩ := asI_inv hl
        obtain ⟨b_8, e_8, hl1⟩ := asB_inv hl0
        obtain ⟨n_9, e_9, hl2⟩ := asI_inv hl1
        have hh := e67_2 c k (r67 c k n) f h n_2 b_8 n_9
        rw [fset_self e_2] at hh
        rw [fset_self e_8] at hh
        rw [fset_self e_9] at hh
        exact Eq.mpr hh hl2
      · have hl : f67 (r67 c k (n + 1)) 3 f h := hl
        obtain ⟨l_0, c_0, e_0, hl0⟩ := asS_inv hl
        obtain ⟨n_1, e_1, hl1⟩ := asI_inv hl0
        obtain ⟨n_2, e_2, hl2⟩ := asI_inv hl1
        obtain ⟨b_8, e_8, hl3⟩ := asB_inv hl2
        have hh := e67_3 c k (r67 c k n) f h l_0 c_0 n_1 n_2 b_8
        rw [fset_self e_0] at hh
        rw [fset_self e_1] at hh
        rw [fset_self e_2] at hh
        rw [fset_self e_8] at hh
        exact Eq.mpr hh hl3
    ) (by simp [u67]) hg

theorem e68_0 (c : Caller Prop FT) (k : KV) (J : J68) (f : FT) (h : H) (l_0 : Nat) (c_0 : Nat) (l_1 : Nat) (c_1 : Nat) : chunkA env c q68 u68 (f68 J) d68 (retA env Go.Proofs.Tryz.f68.results.toList k) .root (fset (fset f 0 (.str l_0 c_0)) 1 (.str l_1 c_1)) h = s68_0 c k J l_0 c_0 l_1 c_1 h := by kernel_rfl
theorem w68 {c : Caller Prop FT} (hc : CallOk Go.Proofs.Tryz.prog (CP env) G (fun p => p) c) {k : KV} {n : Nat} {args : List AV} {h : H} (hg : f68 (r68 c k n) 0 (finit args) h) : SW Go.Proofs.Tryz.prog G (.func 68) args h k :=
  fn_ok mixed envOk hc q68 Go.Proofs.Tryz.func68 rfl (by kernel_rfl) (by kernel_rfl) k u68 (fun n => f68 (r68 c k n))
    (fun L f h hl => by
      match L, hl with
      | 0, hl => obtain ⟨_, _, _, hl0⟩ := asS_inv (show _ from hl); obtain ⟨_, _, _, hl1⟩ := asS_inv (show _ from hl0); exact hl1
      | _ + 1, hl => exact hl)
    (fun n p L hm f h hl => by
      simp only [u68, List.mem_cons, Prod.mk.injEq, List.not_mem_nil, or_false] at hm
      rcases hm with ⟨rfl, rfl⟩
      · have hl : f68 (r68 c k (n + 1)) 0 f h := hl
        obtain ⟨l_0, c_0, e_0, hl0⟩ := asS_inv hl
        obtain ⟨l_1, c_1, e_1, hl1⟩ := asS_inv hl0
        have hh := e68_0 c k (r68 c k n) f h l_0 c_0 l_1 c_1
        rw [fset_self e_0] at hh
        rw [fset_self e_1] at hh
        exact Eq.mpr hh hl1
    ) (by simp [u68]) hg

theorem e82_0 (c : Caller Prop FT) (k : KV) (J : J82) (f : FT) (h : H) (l_0 : Nat) (c_0 : Nat) (n_1 : Int) (n_2 : Int) : chunkA env c q82 u82 (f82 J) d82 (retA env Go.Proofs.Tryz.f82.results.toList k) .root (fset (fset (fset f 0 (.str l_0 c_0)) 1 (.int .i64 n_1)) 2 (.int .i64 n_2)) h = s82_0 c k J l_0 c_0 n_1 n_2 h := by kernel_rfl
theorem e82_1 (c : Caller Prop FT) (k : KV) (J : J82) (f : FT) (h : H) (n_1 : Int) (b_8 : Bool) (l_9 : Nat) (c_9 : Nat) (n_10 : Int) (n_11 : Int) (b_12 : Bool) (n_13 : Int) (v_99 : AV) (n_100 : Int) (n_101 : Int) : chunkA env c q82 u82 (f82 J) d82 (retA env Go.Proofs.Tryz.f82.results.toList k) (.l (.r (.l (.r (.r (.r (.r (.r (.r (.r (.r (.r (.r (.r .root)))))))))))))) (fset (fset (fset (fset (fset (fset (fset (fset (fset (fset f 1 (.int .i64 n_1)) 8 (.bool b_8)) 9 (.str l_9 c_9)) 10 (.int .u64 n_10)) 11 (.int .u64 n_11)) 12 (.bool b_12)) 13 (.int .u64 n_13)) 99 v_99) 100 (.int .i64 n_100)) 101 (.int .i64 n_101)) h = s82_1 c k J n_1 b_8 l_9 c_9 n_10 n_11 b_12 n_13 v_99 n_100 n_101 h := by kernel_rfl
theorem e82_2 (c : Caller Prop FT) (k : KV) (J : J82) (f : FT) (h : H) (n_1 : Int) (b_8 : Bool) (l_9 : Nat) (c_9 : Nat) (n_10 : Int) (n_11 : Int) (b_12 : Bool) (n_13 : Int) (n_16 : Int) (v_99 : AV) (n_100 : Int) (n_101 : Int) : chunkA env c q82 u82 (f82 J) d82 (retA env Go.Proofs.Tryz.f82.results.toList k) (.r (.r (.r (.l (.l (.r (.r (.l (.l (.r (.l (.r (.r (.r (.r (.r (.r (.r (.r (.r (.r (.r .root)))))))))))))))))))))) (fset (fset (fset (fset (fset (fset (fset (fset (fset (fset (fset f 1 (.int .i64 n_1)) 8 (.bool b_8)) 9 (.str l_9 c_9)) 10 (.int .u64 n_10)) 11 (.int .u64 n_11)) 12 (.bool b_12)) 13 (.int .u64 n_13)) 16 (.int .u8 n_16)) 99 v_99) 100 (.int .i64 n_100)) 101 (.int .i64 n_101)) h = s82_2 c k J n_1 b_8 l_9 c_9 n_10 n_11 b_12 n_13 n_16 v_99 n_100 n_101 h := by kernel_rfl
theorem e82_3 (c : Caller Prop FT) (k : KV) (J : J82) (f : FT) (h : H) (l_0 : Nat) (c_0 : Nat) (n_1 : Int) (n_2 : Int) (b_8 : Bool) (l_9 : Nat) (c_9 : Nat) (n_10 : Int) : chunkA env c q82 u82 (f82 J) d82 (retA env Go.Proofs.Tryz.f82.results.toList k) (.r (.r (.r (.r (.r (.r (.r (.r .root)))))))) (fset (fset (fset (fset (fset (fset f 0 (.str l_0 c_0)) 1 (.int .i64 n_1)) 2 (.int .i64 n_2)) 8 (.bool b_8)) 9 (.str l_9 c_9)) 10 (.int .u64 n_10)) h = s82_3 c k J l_0 c_0 n_1 n_2 b_8 l_9 c_9 n_10 h := by kernel_rfl
theorem e82_4 (c : Caller Prop FT) (k : KV) (J : J82) (f : FT) (h : H) (l_0 : Nat) (c_0 : Nat) (n_1 : Int) (n_2 : Int) (b_8 : Bool) (l_9 : Nat) (c_9 : Nat) : chunkA env c q82 u82 (f82 J) d82 (retA env Go.Proofs.Tryz.f82.results.toList k) (.r (.r (.r (.r (.r (.r .root)))))) (fset (fset (fset (fset (fset f 0 (.str l_0 c_0)) 1 (.int .i64 n_1)) 2 (.int .i64 n_2)) 8 (.bool b_8)) 9 (.str l_9 c_9)) h = s82_4 c k J l_0 c_0 n_1 n_2 b_8 l_9 c_9 h := by kernel_rfl
theorem e82_5 (c : Caller Prop FT) (k : KV) (J : J82) (f : FT) (h : H) (l_0 : Nat) (c_0 : Nat) (n_1 : Int) (n_2 : Int) (b_8 : Bool) (l_9 : Nat) (c_9 : Nat) : chunkA env c q82 u82 (f82 J) d82 (retA env Go.Proofs.Tryz.f82.results.toList k) (.r (.r (.r (.r (.r .root))))) (fset (fset (fset (fset (fset f 0 (.str l_0 c_0)) 1 (.int .i64 n_1)) 2 (.int .i64 n_2)) 8 (.bool b_8)) 9 (.str l_9 c_9)) h = s82_5 c k J l_0 c_0 n_1 n_2 b_8 l_9 c_9 h := by kernel_rfl
theorem w82 {c : Caller Prop FT} (hc : CallOk Go.Proofs.Tryz.prog (CP env) G (fun p => p) c) {k : KV} {n : Nat} {args : List AV} {h : H} (hg : f82 (r82 c k n) 0 (finit args) h) : SW Go.Proofs.Tryz.prog G (.func 82) args h k :=
  fn_ok mixed envOk hc q82 Go.Proofs.Tryz.func82 rfl (by kernel_rfl) (by kernel_rfl) k u82 (fun n => f82 (r82 c k n))
    (fun L f h hl => by
      match L, hl with
      | 0, hl => obtain ⟨_, _, _, hl0⟩ := asS_inv (show _ from hl); obtain ⟨_, _, hl1⟩ := asI_inv (show _ from hl0); obtain ⟨_, _, hl2⟩ := asI_inv (show _ from hl1); exact hl2
      | 1, hl => obtain ⟨_, _, hl0⟩ := asI_inv (show _ from hl); obtain ⟨_, _, hl1⟩ := asB_inv (show _ from hl0); obtain ⟨_, _, _, hl2⟩ := asS_inv (show _ from hl1); obtain ⟨_, _, hl3⟩ := asI_inv (show _ from hl2); obtain ⟨_, _, hl4⟩ := asI_inv (show _ from hl3); obtain ⟨_, _, hl5⟩ := asB_inv (show _ from hl4); obtain ⟨_, _, hl6⟩ := asI_inv (show _ from hl5); obtain ⟨_, _, hl7⟩ := asI_inv (show _ from hl6); obtain ⟨_, _, hl8⟩ := asI_inv (show _ from hl7); exact hl8
      | 2, hl => obtain ⟨_, _, hl0⟩ := asI_inv (show _ from hl); obtain ⟨_, _, hl1⟩ := asB_inv (show _ from hl0); obtain ⟨_, _, _, hl2⟩ := asS_inv (show _ from hl1); obtain ⟨_, _, hl3⟩ := asI_inv (show _ from hl2); obtain ⟨_, _, hl4⟩ := asI_inv (show _ from hl3); obtain ⟨_, _, hl5⟩ := asB_inv (show _ from hl4); obtain ⟨_, _, hl6⟩ := asI_inv (show _ from hl5); obtain ⟨_, _, hl7⟩ := asI_inv (show _ from hl6); obtain ⟨_, _, hl8⟩ := asI_inv (show _ from hl7); obtain ⟨_, _, hl9⟩ := asI_inv (show _ from hl8); exact hl9
      | 3, hl => obtain ⟨_, _, _, hl0⟩ := asS_inv (show _ from hl); obtain ⟨_, _, hl1⟩ := asI_inv (show _ from hl0); obtain ⟨_, _, hl2⟩ := asI_inv (show _ from hl1); obtain ⟨_, _, hl3⟩ := asB_inv (show _ from hl2); obtain ⟨_, _, _, hl4⟩ := asS_inv (show _ from hl3); obtain ⟨_, _, hl5⟩ := asI_inv (show _ from hl4); exact hl5
      | 4, hl => obtain ⟨_, _, _, hl0⟩ := asS_inv (show _ from hl); obtain ⟨_, _, hl1⟩ := asI_inv (show _ from hl0); obtain ⟨_, _, hl2⟩ := asI_inv (show _ from hl1); obtain ⟨_, _, hl3⟩ := asB_inv (show _ from hl2); obtain ⟨_, _, _, hl4⟩ := asS_inv (show _ from hl3); exact hl4
      | 5, hl => obtain ⟨_, _, _, hl0⟩ := asS_inv (show _ from hl); obtain ⟨_, _, hl1⟩ := asI_inv (show _ from hl0); obtain ⟨_, _, hl2⟩ := asI_inv (show _ from hl1); obtain ⟨_, _, hl3⟩ := asB_inv (show _ from hl2); obtain ⟨_, _, _, hl4⟩ := asS_inv (show _ from hl3); exact hl4
      | _ + 6, hl => exact hl)
    (fun n p L hm f h hl => by
      simp only [u82, List.mem_cons, Prod.mk.injEq, List.not_mem_nil, or_false] at hm
      rcases hm with ⟨rfl, rfl⟩ | ⟨rfl, rfl⟩ | ⟨rfl, rfl⟩ | ⟨rfl, rfl⟩ | ⟨rfl, rfl⟩ | ⟨rfl, rfl⟩
      · have hl : f82 (r82 c k (n + 1)) 0 f h := hl
        obtain ⟨l_0, c_0, e_0, hl0⟩ := asS_inv hl
        obtain ⟨n_1, e_1, hl1⟩ := asI_inv hl0
        obtain ⟨n_2, e_2, hl2⟩ := asI_inv hl1
        have hh := e82_0 c k (r82 c k n) f h l_0 c_0 n_1 n_2
        rw [fset_self e_0] at hh
        rw [fset_self e_1] at hh
        rw [fset_self e_2] at hh
        exact Eq.mpr hh hl2
      · have hl : f82 (r82 c k (n + 1)) 1 f h := hl
        obtain ⟨n_1, e_1, hl0⟩ := asI_inv hl
        obtain ⟨b_8, e_8, hl1⟩ := asB_inv hl0
        obtain ⟨l_9, c_9, e_9, hl2⟩ := asS_inv hl1
        obtain ⟨n_10, e_10, hl3⟩ := asI_inv hl2
        obtain ⟨n_11, e_11, hl4⟩ := asI_inv hl3
        obtain ⟨b_12, e_12, hl5⟩ := asB_inv hl4
        obtain ⟨n_13, e_13, hl6⟩ := asI_inv hl5
        obtain ⟨n_100, e_100, hl8⟩ := asI_inv hl6
        obtain ⟨n_101, e_101, hl9⟩ := asI_inv hl8
        have hh := e82_1 c k (r82 c k n) f h n_1 b_8 l_9 c_9 n_10 n_11 b_12 n_13 (f 99) n_100 n_101
        rw [fset_self e_1] at hh
        rw [fset_self e_8] at hh
        rw [fset_self e_9] at hh
        rw [fset_self e_10] at hh
        rw [fset_self e_11] at hh
        rw [fset_self e_12] at hh
        rw [fset_self e_13] at hh
        rw [fset_self (rfl : f 99 = f 99)] at hh
        rw [fset_self e_100] at hh
        rw [fset_self e_101] at hh
        exact Eq.mpr hh hl9
      · have hl : f82 (r82 c k (n + 1)) 2 f h := hl
        obtain ⟨n_1, e_1, hl0⟩ := asI_inv hl
        obtain ⟨b_8, e_8, hl1⟩ := asB_inv hl0
        obtain ⟨l_9, c_9, e_9, hl2⟩ := asS_inv hl1
        obtain ⟨n_10, e_10, hl3⟩ := asI_inv hl2
        obtain ⟨n_11, e_11, hl4⟩ := asI_inv hl3
        obtain ⟨b_12, e_12, hl5⟩ := asB_inv hl4
        obtain ⟨n_13, e_13, hl6⟩ := asI_inv hl5
        obtain ⟨n_16, e_16, hl7⟩ := asI_inv hl6
        obtain ⟨n_100, e_100, hl9⟩ := asI_inv hl7
        obtain ⟨n_101, e_101, hl10⟩ := asI_inv hl9
        have hh := e82_2 c k (r82 c k n) f h n_1 b_8 l_9 c_9 n_10 n_11 b_12 n_13 n_16 (f 99) n_100 n_101
        rw [fset_self e_1] at hh
        rw [fset_self e_8] at hh
        rw [fset_self e_9] at hh
        rw [fset_self e_10] at hh
        rw [fset_self e_11] at hh
        rw [fset_self e_12] at hh
        rw [fset_self e_13] at hh
        rw [fset_self e_16] at hh
        rw [fset_self (rfl : f 99 = f 99)] at hh
        rw [fset_self e_100] at hh
        rw [fset_self e_101] at hh
        exact Eq.mpr hh hl10
      · have hl : f82 (r82 c k (n + 1)) 3 f h := hl
        obtain ⟨l_0, c_0, e_0, hl0⟩ := asS_inv hl
        obtain ⟨n_1, e_1, hl1⟩ := asI_inv hl0
        obtain ⟨n_2, e_2, hl2⟩ := asI_inv hl1
        obtain ⟨b_8, e_8, hl3⟩ := asB_inv hl2
        obtain ⟨l_9, c_9, e_9, hl4⟩ := asS_inv hl3
        obtain ⟨n_10, e_10, hl5⟩ := asI_inv hl4
        have hh := e82_3 c k (r82 c k n) f h l_0 c_0 n_1 n_2 b_8 l_9 c_9 n_10
        rw [fset_self e_0] at hh
        rw [fset_self e_1] at hh
        rw [fset_self e_2] at hh
        rw [fset_self e_8] at hh
        rw [fset_self e_9] at hh
        rw [fset_self e_10] at hh
        exact Eq.mpr hh hl5
      · have hl : f82 (r82 c k (n + 1)) 4 f h := hl
        obtain ⟨l_0, c_0, e_0, hl0⟩ := asS_inv hl
        obtain ⟨n_1, e_1, hl1⟩ := asI_inv hl0
        obtain ⟨n_2, e_2, hl2⟩ := asI_inv hl1
        obtain ⟨b_8, e_8, hl3⟩ := asB_inv hl2
        obtain ⟨l_9, c_9, e_9, hl4⟩ := asS_inv hl3
        have hh := e82_4 c k (r82 c k n) f h l_0 c_0 n_1 n_2 b_8 l_9 c_9
        rw [fset_self e_0] at hh
        rw [fset_self e_1] at hh
        rw [fset_self e_2] at hh
        rw [fset_self e_8] at hh
        rw [fset_self e_9] at hh
        exact Eq.mpr hh hl4
      · have hl : f82 (r82 c k (n + 1)) 5 f h := hl
        obtain ⟨l_0, c_0, e_0, hl0⟩ := asS_inv hl
        obtain ⟨n_1, e_1, hl1⟩ := asI_inv hl0
        obtain ⟨n_2, e_2, hl2⟩ := asI_inv hl1
        obtain ⟨b_8, e_8, hl3⟩ := asB_inv hl2
        obtain ⟨l_9, c_9, e_9, hl4⟩ := asS_inv hl3
        have hh := e82_5 c k (r82 c k n) f h l_0 c_0 n_1 n_2 b_8 l_9 c_9
        rw [fset_self e_0] at hh
        rw [fset_self e_1] at hh
        rw [fset_self e_2] at hh
        rw [fset_self e_8] at hh
        rw [fset_self e_9] at hh
        exact Eq.mpr hh hl4
    ) (by simp [u82]) hg

theorem e83_0 (c : Caller Prop FT) (k : KV) (J : J83) (f : FT) (h : H) (l_0 : Nat) (c_0 : Nat) : chunkA env c q83 u83 (f83 J) d83 (retA env Go.Proofs.Tryz.f83.results.toList k) .root (fset f 0 (.str l_0 c_0)) h = s83_0 c k J l_0 c_0 h := by kernel_rfl
theorem w83 {c : Caller Prop FT} (hc : CallOk Go.Proofs.Tryz.prog (CP env) G (fun p => p) c) {k : KV} {n : Nat} {args : List AV} {h : H} (hg : f83 (r83 c k n) 0 (finit args) h) : SW Go.Proofs.Tryz.prog G (.func 83) args h k :=
  fn_ok mixed envOk hc q83 Go.Proofs.Tryz.func83 rfl (by kernel_rfl) (by kernel_rfl) k u83 (fun n => f83 (r83 c k n))
    (fun L f h hl => by
      match L, hl with
      | 0, hl => obtain ⟨_, _, _, hl0⟩ := asS_inv (show _ from hl); exact hl0
      | _ + 1, hl => exact hl)
    (fun n p L hm f h hl => by
      simp only [u83, List.mem_cons, Prod.mk.injEq, List.not_mem_nil, or_false] at hm
      rcases hm with ⟨rfl, rfl⟩
      · have hl : f83 (r83 c k (n + 1)) 0 f h := hl
        obtain ⟨l_0, c_0, e_0, hl0⟩ := asS_inv hl
        have hh := e83_0 c k (r83 c k n) f h l_0 c_0
        rw [fset_self e_0] at hh
        exact Eq.mpr hh hl0
    ) (by simp [u83]) hg

end Go.Den
