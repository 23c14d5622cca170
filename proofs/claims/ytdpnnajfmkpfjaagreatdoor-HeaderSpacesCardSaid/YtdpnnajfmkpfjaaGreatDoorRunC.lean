/-
  A part of the proof: the pieces are what the program does.
-/
import Derived.Test.YtdpnnajfmkpfjaaGreatDoorRunA
import Derived.KernelRfl
namespace Go.Den
set_option maxRecDepth 100000
theorem e2_0 (c : Caller Prop FT) (k : KV) (J : J2) (f : FT) (h : H) : chunkA env c q2 u2 (f2 J) d2 (retA env Go.Proofs.Tryz.f2.results.toList k) .root f h = s2_0 c k J  h := by kernel_rfl
theorem w2 {c : Caller Prop FT} (hc : CallOk Go.Proofs.Tryz.prog (CP env) G (fun p => p) c) {k : KV} {n : Nat} {args : List AV} {h : H} (hg : f2 (r2 c k n) 0 (finit args) h) : SW Go.Proofs.Tryz.prog G (.func 2) args h k :=
  fn_ok mixed envOk hc q2 Go.Proofs.Tryz.func2 rfl (by kernel_rfl) (by kernel_rfl) k u2 (fun n => f2 (r2 c k n))
    (fun L f h hl => by
      match L, hl with
      | 0, hl => exact hl
      | _ + 1, hl => exact hl)
    (fun n p L hm f h hl => by
      simp only [u2, List.mem_cons, Prod.mk.injEq, List.not_mem_nil, or_false] at hm
      rcases hm with ⟨rfl, rfl⟩
      · have hl : f2 (r2 c k (n + 1)) 0 f h := hl
        have hh := e2_0 c k (r2 c k n) f h 
        exact Eq.mpr hh hl
    ) (by simp [u2]) hg

theorem e3_0 (c : Caller Prop FT) (k : KV) (J : J3) (f : FT) (h : H) (l_0 : Nat) (c_0 : Nat) (n_1 : Int) : chunkA env c q3 u3 (f3 J) d3 (retA env Go.Proofs.Tryz.f3.results.toList k) .root (fset (fset f 0 (.str l_0 c_0)) 1 (.int .i64 n_1)) h = s3_0 c k J l_0 c_0 n_1 h := by kernel_rfl
theorem e3_1 (c : Caller Prop FT) (k : KV) (J : J3) (f : FT) (h : H) (l_0 : Nat) (c_0 : Nat) (n_1 : Int) (n_5 : Int) : chunkA env c q3 u3 (f3 J) d3 (retA env Go.Proofs.Tryz.f3.results.toList k) (.l (.r (.l (.r (.r .root))))) (fset (fset (fset f 0 (.str l_0 c_0)) 1 (.int .i64 n_1)) 5 (.int .i64 n_5)) h = s3_1 c k J l_0 c_0 n_1 n_5 h := by kernel_rfl
theorem e3_2 (c : Caller Prop FT) (k : KV) (J : J3) (f : FT) (h : H) (l_0 : Nat) (c_0 : Nat) (n_1 : Int) (n_5 : Int) (b_100 : Bool) : chunkA env c q3 u3 (f3 J) d3 (retA env Go.Proofs.Tryz.f3.results.toList k) (.r (.r (.l (.l (.r (.l (.l (.r (.l (.r (.r .root))))))))))) (fset (fset (fset (fset f 0 (.str l_0 c_0)) 1 (.int .i64 n_1)) 5 (.int .i64 n_5)) 100 (.bool b_100)) h = s3_2 c k J l_0 c_0 n_1 n_5 b_100 h := by kernel_rfl
theorem e3_3 (c : Caller Prop FT) (k : KV) (J : J3) (f : FT) (h : H) (l_0 : Nat) (c_0 : Nat) (n_1 : Int) (v_7 : AV) (b_8 : Bool) (v_9 : AV) (b_10 : Bool) (b_12 : Bool) (b_14 : Bool) (n_15 : Int) (l_16 : Nat) (c_16 : Nat) (b_17 : Bool) (b_18 : Bool) : chunkA env c q3 u3 (f3 J) d3 (retA env Go.Proofs.Tryz.f3.results.toList k) (.r (.r (.r (.r (.r (.r (.r (.r .root)))))))) (fset (fset (fset (fset (fset (fset (fset (fset (fset (fset (fset (fset f 0 (.str l_0 c_0)) 1 (.int .i64 n_1)) 7 v_7) 8 (.bool b_8)) 9 v_9) 10 (.bool b_10)) 12 (.bool b_12)) 14 (.bool b_14)) 15 (.int .i64 n_15)) 16 (.str l_16 c_16)) 17 (.bool b_17)) 18 (.bool b_18)) h = s3_3 c k J l_0 c_0 n_1 v_7 b_8 v_9 b_10 b_12 b_14 n_15 l_16 c_16 b_17 b_18 h := by kernel_rfl
theorem w3 {c : Caller Prop FT} (hc : CallOk Go.Proofs.Tryz.prog (CP env) G (fun p => p) c) {k : KV} {n : Nat} {args : List AV} {h : H} (hg : f3 (r3 c k n) 0 (finit args) h) : SW Go.Proofs.Tryz.prog G (.func 3) args h k :=
  fn_ok mixed envOk hc q3 Go.Proofs.Tryz.func3 rfl (by kernel_rfl) (by kernel_rfl) k u3 (fun n => f3 (r3 c k n))
    (fun L f h hl => by
      match L, hl with
      | 0, hl => obtain ⟨_, _, _, hl0⟩ := asS_inv (show _ from hl); obtain ⟨_, _, hl1⟩ := asI_inv (show _ from hl0); exact hl1
      | 1, hl => obtain ⟨_, _, _, hl0⟩ := asS_inv (show _ from hl); obtain ⟨_, _, hl1⟩ := asI_inv (show _ from hl0); obtain ⟨_, _, hl2⟩ := asI_inv (show _ from hl1); exact hl2
      | 2, hl => obtain ⟨_, _, _, hl0⟩ := asS_inv (show _ from hl); obtain ⟨_, _, hl1⟩ := asI_inv (show _ from hl0); obtain ⟨_, _, hl2⟩ := asI_inv (show _ from hl1); obtain ⟨_, _, hl3⟩ := asB_inv (show _ from hl2); exact hl3
      | 3, hl => obtain ⟨_, _, _, hl0⟩ := asS_inv (show _ from hl); obtain ⟨_, _, hl1⟩ := asI_inv (show _ from hl0); obtain ⟨_, _, hl2⟩ := asB_inv (show _ from hl1); obtain ⟨_, _, hl3⟩ := asB_inv (show _ from hl2); obtain ⟨_, _, hl4⟩ := asB_inv (show _ from hl3); obtain ⟨_, _, hl5⟩ := asB_inv (show _ from hl4); obtain ⟨_, _, hl6⟩ := asI_inv (show _ from hl5); obtain ⟨_, _, _, hl7⟩ := asS_inv (show _ from hl6); obtain ⟨_, _, hl8⟩ := asB_inv (show _ from hl7); obtain ⟨_, _, hl9⟩ := asB_inv (show _ from hl8); exact hl9
      | _ + 4, hl => exact hl)
    (fun n p L hm f h hl => by
      simp only [u3, List.mem_cons, Prod.mk.injEq, List.not_mem_nil, or_false] at hm
      rcases hm with ⟨rfl, rfl⟩ | ⟨rfl, rfl⟩ | ⟨rfl, rfl⟩ | ⟨rfl, rfl⟩
      · have hl : f3 (r3 c k (n + 1)) 0 f h := hl
        obtain ⟨l_0, c_0, e_0, hl0⟩ := asS_inv hl
        obtain ⟨n_1, e_1, hl1⟩ := asI_inv hl0
        have hh := e3_0 c k (r3 c k n) f h l_0 c_0 n_1
        rw [fset_self e_0] at hh
        rw [fset_self e_1] at hh
        exact Eq.mpr hh hl1
      · have hl : f3 (r3 c k (n + 1)) 1 f h := hl
        obtain ⟨l_0, c_0, e_0, hl0⟩ := asS_inv hl
        obtain ⟨n_1, e_1, hl1⟩ := asI_inv hl0
        obtain ⟨n_5, e_5, hl2⟩ := asI_inv hl1
        have hh := e3_1 c k (r3 c k n) f h l_0 c_0 n_1 n_5
        rw [fset_self e_0] at hh
        rw [fset_self e_1] at hh
        rw [fset_self e_5] at hh
        exact Eq.mpr hh hl2
      · have hl : f3 (r3 c k (n + 1)) 2 f h := hl
        obtain ⟨l_0, c_0, e_0, hl0⟩ := asS_inv hl
        obtain ⟨n_1, e_1, hl1⟩ := asI_inv hl0
        obtain ⟨n_5, e_5, hl2⟩ := asI_inv hl1
        obtain ⟨b_100, e_100, hl3⟩ := asB_inv hl2
        have hh := e3_2 c k (r3 c k n) f h l_0 c_0 n_1 n_5 b_100
        rw [fset_self e_0] at hh
        rw [fset_self e_1] at hh
        rw [fset_self e_5] at hh
        rw [fset_self e_100] at hh
        exact Eq.mpr hh hl3
      · have hl : f3 (r3 c k (n + 1)) 3 f h := hl
        obtain ⟨l_0, c_0, e_0, hl0⟩ := asS_inv hl
        obtain ⟨n_1, e_1, hl1⟩ := asI_inv hl0
        obtain ⟨b_8, e_8, hl3⟩ := asB_inv hl1
        obtain ⟨b_10, e_10, hl5⟩ := asB_inv hl3
        obtain ⟨b_12, e_12, hl6⟩ := asB_inv hl5
        obtain ⟨b_14, e_14, hl7⟩ := asB_inv hl6
        obtain ⟨n_15, e_15, hl8⟩ := asI_inv hl7
        obtain ⟨l_16, c_16, e_16, hl9⟩ := asS_inv hl8
        obtain ⟨b_17, e_17, hl10⟩ := asB_inv hl9
        obtain ⟨b_18, e_18, hl11⟩ := asB_inv hl10
        have hh := e3_3 c k (r3 c k n) f h l_0 c_0 n_1 (f 7) b_8 (f 9) b_10 b_12 b_14 n_15 l_16 c_16 b_17 b_18
        rw [fset_self e_0] at hh
        rw [fset_self e_1] at hh
        rw [fset_self (rfl : f 7 = f 7)] at hh
        rw [fset_self e_8] at hh
        rw [fset_self (rfl : f 9 = f 9)] at hh
        rw [fset_self e_10] at hh
        rw [fset_self e_12] at hh
        rw [fset_self e_14] at hh
        rw [fset_self e_15] at hh
        rw [fset_self e_16] at hh
        rw [fset_self e_17] at hh
        rw [fset_self e_18] at hh
        exact Eq.mpr hh hl11
    ) (by simp [u3]) hg

theorem e4_0 (c : Caller Prop FT) (k : KV) (J : J4) (f : FT) (h : H) (v_0 : AV) (n_1 : Int) : chunkA env c q4 u4 (f4 J) d4 (retA env Go.Proofs.Tryz.f4.results.toList k) .root (fset (fset f 0 v_0) 1 (.int .i64 n_1)) h = s4_0 c k J v_0 n_1 h := by kernel_rfl
theorem e4_1 (c : Caller Prop FT) (k : KV) (J : J4) (f : FT) (h : H) (v_0 : AV) (n_1 : Int) (l_5 : Nat) (c_5 : Nat) (l_6 : Nat) (c_6 : Nat) (n_7 : Int) : chunkA env c q4 u4 (f4 J) d4 (retA env Go.Proofs.Tryz.f4.results.toList k) (.l (.r (.l (.r (.r (.r .root)))))) (fset (fset (fset (fset (fset f 0 v_0) 1 (.int .i64 n_1)) 5 (.str l_5 c_5)) 6 (.str l_6 c_6)) 7 (.int .i64 n_7)) h = s4_1 c k J v_0 n_1 l_5 c_5 l_6 c_6 n_7 h := by kernel_rfl
theorem e4_2 (c : Caller Prop FT) (k : KV) (J : J4) (f : FT) (h : H) (v_0 : AV) (n_1 : Int) (l_5 : Nat) (c_5 : Nat) (l_6 : Nat) (c_6 : Nat) (n_7 : Int) (n_8 : Int) : chunkA env c q4 u4 (f4 J) d4 (retA env Go.Proofs.Tryz.f4.results.toList k) (.l (.r (.l (.l (.l (.r (.l (.l (.r (.l (.r (.r (.r .root))))))))))))) (fset (fset (fset (fset (fset (fset f 0 v_0) 1 (.int .i64 n_1)) 5 (.str l_5 c_5)) 6 (.str l_6 c_6)) 7 (.int .i64 n_7)) 8 (.int .i64 n_8)) h = s4_2 c k J v_0 n_1 l_5 c_5 l_6 c_6 n_7 n_8 h := by kernel_rfl
theorem e4_3 (c : Caller Prop FT) (k : KV) (J : J4) (f : FT) (h : H) (v_0 : AV) (n_1 : Int) (l_5 : Nat) (c_5 : Nat) (l_6 : Nat) (c_6 : Nat) (n_7 : Int) : chunkA env c q4 u4 (f4 J) d4 (retA env Go.Proofs.Tryz.f4.results.toList k) (.r (.r (.r (.l (.l (.r (.l (.l (.r (.l (.r (.r (.r .root))))))))))))) (fset (fset (fset (fset (fset f 0 v_0) 1 (.int .i64 n_1)) 5 (.str l_5 c_5)) 6 (.str l_6 c_6)) 7 (.int .i64 n_7)) h = s4_3 c k J v_0 n_1 l_5 c_5 l_6 c_6 n_7 h := by kernel_rfl
theorem w4 {c : Caller Prop FT} (hc : CallOk Go.Proofs.Tryz.prog (CP env) G (fun p => p) c) {k : KV} {n : Nat} {args : List AV} {h : H} (hg : f4 (r4 c k n) 0 (finit args) h) : SW Go.Proofs.Tryz.prog G (.func 4) args h k :=
  fn_ok mixed envOk hc q4 Go.Proofs.Tryz.func4 rfl (by kernel_rfl) (by kernel_rfl) k u4 (fun n => f4 (r4 c k n))
    (fun L f h hl => by
      match L, hl with
      | 0, hl => obtain ⟨_, _, hl0⟩ := asI_inv (show _ from hl); exact hl0
      | 1, hl => obtain ⟨_, _, hl0⟩ := asI_inv (show _ from hl); obtain ⟨_, _, _, hl1⟩ := asS_inv (show _ from hl0); obtain ⟨_, _, _, hl2⟩ := asS_inv (show _ from hl1); obtain ⟨_, _, hl3⟩ := asI_inv (show _ from hl2); exact hl3
      | 2, hl => obtain ⟨_, _, hl0⟩ := asI_inv (show _ from hl); obtain ⟨_, _, _, hl1⟩ := asS_inv (show _ from hl0); obtain ⟨_, _, _, hl2⟩ := asS_inv (show _ from hl1); obtain ⟨_, _, hl3⟩ := asI_inv (show _ from hl2); obtain ⟨_, _, hl4⟩ := asI_inv (show _ from hl3); exact hl4
      | 3, hl => obtain ⟨_, _, hl0⟩ := asI_inv (show _ from hl); obtain ⟨_, _, _, hl1⟩ := asS_inv (show _ from hl0); obtain ⟨_, _, _, hl2⟩ := asS_inv (show _ from hl1); obtain ⟨_, _, hl3⟩ := asI_inv (show _ from hl2); exact hl3
      | _ + 4, hl => exact hl)
    (fun n p L hm f h hl => by
      simp only [u4, List.mem_cons, Prod.mk.injEq, List.not_mem_nil, or_false] at hm
      rcases hm with ⟨rfl, rfl⟩ | ⟨rfl, rfl⟩ | ⟨rfl, rfl⟩ | ⟨rfl, rfl⟩
      · have hl : f4 (r4 c k (n + 1)) 0 f h := hl
        obtain ⟨n_1, e_1, hl1⟩ := asI_inv hl
        have hh := e4_0 c k (r4 c k n) f h (f 0) n_1
        rw [fset_self (rfl : f 0 = f 0)] at hh
        rw [fset_self e_1] at hh
        exact Eq.mpr hh hl1
      · have hl : f4 (r4 c k (n + 1)) 1 f h := hl
        obtain ⟨n_1, e_1, hl1⟩ := asI_inv hl
        obtain ⟨l_5, c_5, e_5, hl2⟩ := asS_inv hl1
        obtain ⟨l_6, c_6, e_6, hl3⟩ := asS_inv hl2
        obtain ⟨n_7, e_7, hl4⟩ := asI_inv hl3
        have hh := e4_1 c k (r4 c k n) f h (f 0) n_1 l_5 c_5 l_6 c_6 n_7
        rw [fset_self (rfl : f 0 = f 0)] at hh
        rw [fset_self e_1] at hh
        rw [fset_self e_5] at hh
        rw [fset_self e_6] at hh
        rw [fset_self e_7] at hh
        exact Eq.mpr hh hl4
      · have hl : f4 (r4 c k (n + 1)) 2 f h := hl
        obtain ⟨n_1, e_1, hl1⟩ := asI_inv hl
        obtain ⟨l_5, c_5, e_5, hl2⟩ := asS_inv hl1
        obtain ⟨l_6, c_6, e_6, hl3⟩ := asS_inv hl2
        obtain ⟨n_7, e_7, hl4⟩ := asI_inv hl3
        obtain ⟨n_8, e_8, hl5⟩ := asI_inv hl4
        have hh := e4_2 c k (r4 c k n) f h (f 0) n_1 l_5 c_5 l_6 c_6 n_7 n_8
        rw [fset_self (rfl : f 0 = f 0)] at hh
        rw [fset_self e_1] at hh
        rw [fset_self e_5] at hh
        rw [fset_self e_6] at hh
        rw [fset_self e_7] at hh
        rw [fset_self e_8] at hh
        exact Eq.mpr hh hl5
      · have hl : f4 (r4 c k (n + 1)) 3 f h := hl
        obtain ⟨n_1, e_1, hl1⟩ := asI_inv hl
        obtain ⟨l_5, c_5, e_5, hl2⟩ := asS_inv hl1
        obtain ⟨l_6, c_6, e_6, hl3⟩ := asS_inv hl2
        obtain ⟨n_7, e_7, hl4⟩ := asI_inv hl3
        have hh := e4_3 c k (r4 c k n) f h (f 0) n_1 l_5 c_5 l_6 c_6 n_7
        rw [fset_self (rfl : f 0 = f 0)] at hh
        rw [fset_self e_1] at hh
        rw [fset_self e_5] at hh
        rw [fset_self e_6] at hh
        rw [fset_self e_7] at hh
        exact Eq.mpr hh hl4
    ) (by simp [u4]) hg

theorem e7_0 (c : Caller Prop FT) (k : KV) (J : J7) (f : FT) (h : H) (l_0 : Nat) (c_0 : Nat) : chunkA env c q7 u7 (f7 J) d7 (retA env Go.Proofs.Tryz.f7.results.toList k) .root (fset f 0 (.str l_0 c_0)) h = s7_0 c k J l_0 c_0 h := by kernel_rfl
theorem w7 {c : Caller Prop FT} (hc : CallOk Go.Proofs.Tryz.prog (CP env) G (fun p => p) c) {k : KV} {n : Nat} {args : List AV} {h : H} (hg : f7 (r7 c k n) 0 (finit args) h) : SW Go.Proofs.Tryz.prog G (.func 7) args h k :=
  fn_ok mixed envOk hc q7 Go.Proofs.Tryz.func7 rfl (by kernel_rfl) (by kernel_rfl) k u7 (fun n => f7 (r7 c k n))
    (fun L f h hl => by
      match L, hl with
      | 0, hl => obtain ⟨_, _, _, hl0⟩ := asS_inv (show _ from hl); exact hl0
      | _ + 1, hl => exact hl)
    (fun n p L hm f h hl => by
      simp only [u7, List.mem_cons, Prod.mk.injEq, List.not_mem_nil, or_false] at hm
      rcases hm with ⟨rfl, rfl⟩
      · have hl : f7 (r7 c k (n + 1)) 0 f h := hl
        obtain ⟨l_0, c_0, e_0, hl0⟩ := asS_inv hl
        have hh := e7_0 c k (r7 c k n) f h l_0 c_0
        rw [fset_self e_0] at hh
        exact Eq.mpr hh hl0
    ) (by simp [u7]) hg

theorem e8_0 (c : Caller Prop FT) (k : KV) (J : J8) (f : FT) (h : H) (v_0 : AV) : chunkA env c q8 u8 (f8 J) d8 (retA env Go.Proofs.Tryz.f8.results.toList k) .root (fset f 0 v_0) h = s8_0 c k J v_0 h := by kernel_rfl
theorem e8_1 (c : Caller Prop FT) (k : KV) (J : J8) (f : FT) (h : H) : chunkA env c q8 u8 (f8 J) d8 (retA env Go.Proofs.Tryz.f8.results.toList k) (.lab (.r .root) 0) f h = s8_1 c k J  h := by kernel_rfl
theorem w8 {c : Caller Prop FT} (hc : CallOk Go.Proofs.Tryz.prog (CP env) G (fun p => p) c) {k : KV} {n : Nat} {args : List AV} {h : H} (hg : f8 (r8 c k n) 0 (finit args) h) : SW Go.Proofs.Tryz.prog G (.func 8) args h k :=
  fn_ok mixed envOk hc q8 Go.Proofs.Tryz.func8 rfl (by kernel_rfl) (by kernel_rfl) k u8 (fun n => f8 (r8 c k n))
    (fun L f h hl => by
      match L, hl with
      | 0, hl => exact hl
      | 1, hl => exact hl
      | _ + 2, hl => exact hl)
    (fun n p L hm f h hl => by
      simp only [u8, List.mem_cons, Prod.mk.injEq, List.not_mem_nil, or_false] at hm
      rcases hm with ⟨rfl, rfl⟩ | ⟨rfl, rfl⟩
      · have hl : f8 (r8 c k (n + 1)) 0 f h := hl
        have hh := e8_0 c k (r8 c k n) f h (f 0)
        rw [fset_self (rfl : f 0 = f 0)] at hh
        exact Eq.mpr hh hl
      · have hl : f8 (r8 c k (n + 1)) 1 f h := hl
        have hh := e8_1 c k (r8 c k n) f h 
        exact Eq.mpr hh hl
    ) (by simp [u8]) hg

theorem e9_0 (c : Caller Prop FT) (k : KV) (J : J9) (f : FT) (h : H) (n_0 : Int) : chunkA env c q9 u9 (f9 J) d9 (retA env Go.Proofs.Tryz.f9.results.toList k) .root (fset f 0 (.int .i64 n_0)) h = s9_0 c k J n_0 h := by kernel_rfl
theorem w9 {c : Caller Prop FT} (hc : CallOk Go.Proofs.Tryz.prog (CP env) G (fun p => p) c) {k : KV} {n : Nat} {args : List AV} {h : H} (hg : f9 (r9 c k n) 0 (finit args) h) : SW Go.Proofs.Tryz.prog G (.func 9) args h k :=
  fn_ok mixed envOk hc q9 Go.Proofs.Tryz.func9 rfl (by kernel_rfl) (by kernel_rfl) k u9 (fun n => f9 (r9 c k n))
    (fun L f h hl => by
      match L, hl with
      | 0, hl => obtain ⟨_, _, hl0⟩ := asI_inv (show _ from hl); exact hl0
      | _ + 1, hl => exact hl)
    (fun n p L hm f h hl => by
      simp only [u9, List.mem_cons, Prod.mk.injEq, List.not_mem_nil, or_false] at hm
      rcases hm with ⟨rfl, rfl⟩
      · have hl : f9 (r9 c k (n + 1)) 0 f h := hl
        obtain ⟨n_0, e_0, hl0⟩ := asI_inv hl
        have hh := e9_0 c k (r9 c k n) f h n_0
        rw [fset_self e_0] at hh
        exact Eq.mpr hh hl0
    ) (by simp [u9]) hg

theorem e12_0 (c : Caller Prop FT) (k : KV) (J : J12) (f : FT) (h : H) (v_0 : AV) (l_1 : Nat) (c_1 : Nat) : chunkA env c q12 u12 (f12 J) d12 (retA env Go.Proofs.Tryz.f12.results.toList k) .root (fset (fset f 0 v_0) 1 (.str l_1 c_1)) h = s12_0 c k J v_0 l_1 c_1 h := by kernel_rfl
theorem w12 {c : Caller Prop FT} (hc : CallOk Go.Proofs.Tryz.prog (CP env) G (fun p => p) c) {k : KV} {n : Nat} {args : List AV} {h : H} (hg : f12 (r12 c k n) 0 (finit args) h) : SW Go.Proofs.Tryz.prog G (.func 12) args h k :=
  fn_ok mixed envOk hc q12 Go.Proofs.Tryz.func12 rfl (by kernel_rfl) (by kernel_rfl) k u12 (fun n => f12 (r12 c k n))
    (fun L f h hl => by
      match L, hl with
      | 0, hl => obtain ⟨_, _, _, hl0⟩ := asS_inv (show _ from hl); exact hl0
      | _ + 1, hl => exact hl)
    (fun n p L hm f h hl => by
      simp only [u12, List.mem_cons, Prod.mk.injEq, List.not_mem_nil, or_false] at hm
      rcases hm with ⟨rfl, rfl⟩
      · have hl : f12 (r12 c k (n + 1)) 0 f h := hl
        obtain ⟨l_1, c_1, e_1, hl1⟩ := asS_inv hl
        have hh := e12_0 c k (r12 c k n) f h (f 0) l_1 c_1
        rw [fset_self (rfl : f 0 = f 0)] at hh
        rw [fset_self e_1] at hh
        exact Eq.mpr hh hl1
    ) (by simp [u12]) hg

theorem e15_0 (c : Caller Prop FT) (k : KV) (J : J15) (f : FT) (h : H) (v_0 : AV) : chunkA env c q15 u15 (f15 J) d15 (retA env Go.Proofs.Tryz.f15.results.toList k) .root (fset f 0 v_0) h = s15_0 c k J v_0 h := by kernel_rfl
theorem w15 {c : Caller Prop FT} (hc : CallOk Go.Proofs.Tryz.prog (CP env) G (fun p => p) c) {k : KV} {n : Nat} {args : List AV} {h : H} (hg : f15 (r15 c k n) 0 (finit args) h) : SW Go.Proofs.Tryz.prog G (.func 15) args h k :=
  fn_ok mixed envOk hc q15 Go.Proofs.Tryz.func15 rfl (by kernel_rfl) (by kernel_rfl) k u15 (fun n => f15 (r15 c k n))
    (fun L f h hl => by
      match L, hl with
      | 0, hl => exact hl
      | _ + 1, hl => exact hl)
    (fun n p L hm f h hl => by
      simp only [u15, List.mem_cons, Prod.mk.injEq, List.not_mem_nil, or_false] at hm
      rcases hm with ⟨rfl, rfl⟩
      · have hl : f15 (r15 c k (n + 1)) 0 f h := hl
        have hh := e15_0 c k (r15 c k n) f h (f 0)
        rw [fset_self (rfl : f 0 = f 0)] at hh
        exact Eq.mpr hh hl
    ) (by simp [u15]) hg

theorem e17_0 (c : Caller Prop FT) (k : KV) (J : J17) (f : FT) (h : H) (l_0 : Nat) (c_0 : Nat) (l_1 : Nat) (c_1 : Nat) : chunkA env c q17 u17 (f17 J) d17 (retA env Go.Proofs.Tryz.f17.results.toList k) .root (fset (fset f 0 (.str l_0 c_0)) 1 (.str l_1 c_1)) h = s17_0 c k J l_0 c_0 l_1 c_1 h := by kernel_rfl
theorem e17_1 (c : Caller Prop FT) (k : KV) (J : J17) (f : FT) (h : H) (l_0 : Nat) (c_0 : Nat) (l_1 : Nat) (c_1 : Nat) (v_6 : AV) (v_7 : AV) (v_8 : AV) (v_9 : AV) (b_10 : Bool) (n_11 : Int) : chunkA env c q17 u17 (f17 J) d17 (retA env Go.Proofs.Tryz.f17.results.toList k) (.l (.r (.l (.r (.r (.r (.r (.r (.r .root))))))))) (fset (fset (fset (fset (fset (fset (fset (fset f 0 (.str l_0 c_0)) 1 (.str l_1 c_1)) 6 v_6) 7 v_7) 8 v_8) 9 v_9) 10 (.bool b_10)) 11 (.int .i64 n_11)) h = s17_1 c k J l_0 c_0 l_1 c_1 v_6 v_7 v_8 v_9 b_10 n_11 h := by kernel_rfl
theorem e17_2 (c : Caller Prop FT) (k : KV) (J : J17) (f : FT) (h : H) (l_0 : Nat) (c_0 : Nat) (l_1 : Nat) (c_1 : Nat) (v_6 : AV) (v_7 : AV) (v_8 : AV) (v_9 : AV) (n_15 : Int) : chunkA env c q17 u17 (f17 J) d17 (retA env Go.Proofs.Tryz.f17.results.toList k) (.r (.r (.r (.r (.r (.r (.r (.r (.l (.r (.l (.l (.r (.l (.r (.r (.r (.r (.r (.r .root)))))))))))))))))))) (fset (fset (fset (fset (fset (fset (fset f 0 (.str l_0 c_0)) 1 (.str l_1 c_1)) 6 v_6) 7 v_7) 8 v_8) 9 v_9) 15 (.int .i64 n_15)) h = s17_2 c k J l_0 c_0 l_1 c_1 v_6 v_7 v_8 v_9 n_15 h := by kernel_rfl
theorem e17_3 (c : Caller Prop FT) (k : KV) (J : J17) (f : FT) (h : H) (v_7 : AV) (v_8 : AV) : chunkA env c q17 u17 (f17 J) d17 (retA env Go.Proofs.Tryz.f17.results.toList k) (.r (.r (.r (.r (.r (.r (.r (.r .root)))))))) (fset (fset f 7 v_7) 8 v_8) h = s17_3 c k J v_7 v_8 h := by kernel_rfl
theorem e17_4 (c : Caller Prop FT) (k : KV) (J : J17) (f : FT) (h : H) (l_1 : Nat) (c_1 : Nat) (v_7 : AV) (v_8 : AV) (v_9 : AV) : chunkA env c q17 u17 (f17 J) d17 (retA env Go.Proofs.Tryz.f17.results.toList k) (.r (.l (.r (.l (.l (.r (.l (.r (.r (.r (.l (.r (.l (.l (.r (.l (.r (.r (.r (.r (.r (.r .root)))))))))))))))))))))) (fset (fset (fset (fset f 1 (.str l_1 c_1)) 7 v_7) 8 v_8) 9 v_9) h = s17_4 c k J l_1 c_1 v_7 v_8 v_9 h := by kernel_rfl
theorem e17_5 (c : Caller Prop FT) (k : KV) (J : J17) (f : FT) (h : H) (l_0 : Nat) (c_0 : Nat) (l_1 : Nat) (c_1 : Nat) (v_6 : AV) (v_7 : AV) (v_8 : AV) (v_9 : AV) (b_10 : Bool) (n_11 : Int) (n_14 : Int) (n_15 : Int) (b_16 : Bool) : chunkA env c q17 u17 (f17 J) d17 (retA env Go.Proofs.Tryz.f17.results.toList k) (.r (.r (.r (.r (.r (.l (.r (.l (.l (.r (.l (.r (.r (.r (.r (.r (.r .root))))))))))))))))) (fset (fset (fset (fset (fset (fset (fset (fset (fset (fset (fset f 0 (.str l_0 c_0)) 1 (.str l_1 c_1)) 6 v_6) 7 v_7) 8 v_8) 9 v_9) 10 (.bool b_10)) 11 (.int .i64 n_11)) 14 (.int .i64 n_14)) 15 (.int .i64 n_15)) 16 (.bool b_16)) h = s17_5 c k J l_0 c_0 l_1 c_1 v_6 v_7 v_8 v_9 b_10 n_11 n_14 n_15 b_16 h := by kernel_rfl
theorem w17 {c : Caller Prop FT} (hc : CallOk Go.Proofs.Tryz.prog (CP env) G (fun p => p) c) {k : KV} {n : Nat} {args : List AV} {h : H} (hg : f17 (r17 c k n) 0 (finit args) h) : SW Go.Proofs.Tryz.prog G (.func 17) args h k :=
  fn_ok mixed envOk hc q17 Go.Proofs.Tryz.func17 rfl (by kernel_rfl) (by kernel_rfl) k u17 (fun n => f17 (r17 c k n))
    (fun L f h hl => by
      match L, hl with
      | 0, hl => obtain ⟨_, _, _, hl0⟩ := asS_inv (show _ from hl); obtain ⟨_, _, _, hl1⟩ := asS_inv (show _ from hl0); exact hl1
      | 1, hl => obtain ⟨_, _, _, hl0⟩ := asS_inv (show _ from hl); obtain ⟨_, _, _, hl1⟩ := asS_inv (show _ from hl0); obtain ⟨_, _, hl2⟩ := asB_inv (show _ from hl1); obtain ⟨_, _, hl3⟩ := asI_inv (show _ from hl2); exact hl3
      | 2, hl => obtain ⟨_, _, _, hl0⟩ := asS_inv (show _ from hl); obtain ⟨_, _, _, hl1⟩ := asS_inv (show _ from hl0); obtain ⟨_, _, hl2⟩ := asI_inv (show _ from hl1); exact hl2
      | 3, hl => exact hl
      | 4, hl => obtain ⟨_, _, _, hl0⟩ := asS_inv (show _ from hl); exact hl0
      | 5, hl => obtain ⟨_, _, _, hl0⟩ := asS_inv (show _ from hl); obtain ⟨_, _, _, hl1⟩ := asS_inv (show _ from hl0); obtain ⟨_, _, hl2⟩ := asB_inv (show _ from hl1); obtain ⟨_, _, hl3⟩ := asI_inv (show _ from hl2); obtain ⟨_, _, hl4⟩ := asI_inv (show _ from hl3); obtain ⟨_, _, hl5⟩ := asI_inv (show _ from hl4); obtain ⟨_, _, hl6⟩ := asB_inv (show _ from hl5); exact hl6
      | _ + 6, hl => exact hl)
    (fun n p L hm f h hl => by
      simp only [u17, List.mem_cons, Prod.mk.injEq, List.not_mem_nil, or_false] at hm
      rcases hm with ⟨rfl, rfl⟩ | ⟨rfl, rfl⟩ | ⟨rfl, rfl⟩ | ⟨rfl, rfl⟩ | ⟨rfl, rfl⟩ | ⟨rfl, rfl⟩
      · have hl : f17 (r17 c k (n + 1)) 0 f h := hl
        obtain ⟨l_0, c_0, e_0, hl0⟩ := asS_inv hl
        obtain ⟨l_1, c_1, e_1, hl1⟩ := asS_inv hl0
        have hh := e17_0 c k (r17 c k n) f h l_0 c_0 l_1 c_1
        rw [fset_self e_0] at hh
        rw [fset_self e_1] at hh
        exact Eq.mpr hh hl1
      · have hl : f17 (r17 c k (n + 1)) 1 f h := hl
        obtain ⟨l_0, c_0, e_0, hl0⟩ := asS_inv hl
        obtain ⟨l_1, c_1, e_1, hl1⟩ := asS_inv hl0
        obtain ⟨b_10, e_10, hl6⟩ := asB_inv hl1
        obtain ⟨n_11, e_11, hl7⟩ := asI_inv hl6
        have hh := e17_1 c k (r17 c k n) f h l_0 c_0 l_1 c_1 (f 6) (f 7) (f 8) (f 9) b_10 n_11
        rw [fset_self e_0] at hh
        rw [fset_self e_1] at hh
        rw [fset_self (rfl : f 6 = f 6)] at hh
        rw [fset_self (rfl : f 7 = f 7)] at hh
        rw [fset_self (rfl : f 8 = f 8)] at hh
        rw [fset_self (rfl : f 9 = f 9)] at hh
        rw [fset_self e_10] at hh
        rw [fset_self e_11] at hh
        exact Eq.mpr hh hl7
      · have hl : f17 (r17 c k (n + 1)) 2 f h := hl
        obtain ⟨l_0, c_0, e_0, hl0⟩ := asS_inv hl
        obtain ⟨l_1, c_1, e_1, hl1⟩ := asS_inv hl0
        obtain ⟨n_15, e_15, hl6⟩ := asI_inv hl1
        have hh := e17_2 c k (r17 c k n) f h l_0 c_0 l_1 c_1 (f 6) (f 7) (f 8) (f 9) n_15
        rw [fset_self e_0] at hh
        rw [fset_self e_1] at hh
        rw [fset_self (rfl : f 6 = f 6)] at hh
        rw [fset_self (rfl : f 7 = f 7)] at hh
        rw [fset_self (rfl : f 8 = f 8)] at hh
        rw [fset_self (rfl : f 9 = f 9)] at hh
        rw [fset_self e_15] at hh
        exact Eq.mpr hh hl6
      · have hl : f17 (r17 c k (n + 1)) 3 f h := hl
        have hh := e17_3 c k (r17 c k n) f h (f 7) (f 8)
        rw [fset_self (rfl : f 7 = f 7)] at hh
        rw [fset_self (rfl : f 8 = f 8)] at hh
        exact Eq.mpr hh hl
      · have hl : f17 (r17 c k (n + 1)) 4 f h := hl
        obtain ⟨l_1, c_1, e_1, hl0⟩ := asS_inv hl
        have hh := e17_4 c k (r17 c k n) f h l_1 c_1 (f 7) (f 8) (f 9)
        rw [fset_self e_1] at hh
        rw [fset_self (rfl : f 7 = f 7)] at hh
        rw [fset_self (rfl : f 8 = f 8)] at hh
        rw [fset_self (rfl : f 9 = f 9)] at hh
        exact Eq.mpr hh hl0
      · have hl : f17 (r17 c k (n + 1)) 5 f h := hl
        obtain ⟨l_0, c_0, e_0, hl0⟩ := asS_inv hl
        obtain ⟨l_1, c_1, e_1, hl1⟩ := asS_inv hl0
        obtain ⟨b_10, e_10, hl6⟩ := asB_inv hl1
        obtain ⟨n_11, e_11, hl7⟩ := asI_inv hl6
        obtain ⟨n_14, e_14, hl8⟩ := asI_inv hl7
        obtain ⟨n_15, e_15, hl9⟩ := asI_inv hl8
        obtain ⟨b_16, e_16, hl10⟩ := asB_inv hl9
        have hh := e17_5 c k (r17 c k n) f h l_0 c_0 l_1 c_1 (f 6) (f 7) (f 8) (f 9) b_10 n_11 n_14 n_15 b_16
        rw [fset_self e_0] at hh
        rw [fset_self e_1] at hh
        rw [fset_self (rfl : f 6 = f 6)] at hh
        rw [fset_self (rfl : f 7 = f 7)] at hh
        rw [fset_self (rfl : f 8 = f 8)] at hh
        rw [fset_self (rfl : f 9 = f 9)] at hh
        rw [fset_self e_10] at hh
        rw [fset_self e_11] at hh
        rw [fset_self e_14] at hh
        rw [fset_self e_15] at hh
        rw [fset_self e_16] at hh
        exact Eq.mpr hh hl10
    ) (by simp [u17]) hg

theorem e18_0 (c : Caller Prop FT) (k : KV) (J : J18) (f : FT) (h : H) (v_0 : AV) : chunkA env c q18 u18 (f18 J) d18 (retA env Go.Proofs.Tryz.f18.results.toList k) .root (fset f 0 v_0) h = s18_0 c k J v_0 h := by kernel_rfl
theorem w18 {c : Caller Prop FT} (hc : CallOk Go.Proofs.Tryz.prog (CP env) G (fun p => p) c) {k : KV} {n : Nat} {args : List AV} {h : H} (hg : f18 (r18 c k n) 0 (finit args) h) : SW Go.Proofs.Tryz.prog G (.func 18) args h k :=
  fn_ok mixed envOk hc q18 Go.Proofs.Tryz.func18 rfl (by kernel_rfl) (by kernel_rfl) k u18 (fun n => f18 (r18 c k n))
    (fun L f h hl => by
      match L, hl with
      | 0, hl => exact hl
      | _ + 1, hl => exact hl)
    (fun n p L hm f h hl => by
      simp only [u18, List.mem_cons, Prod.mk.injEq, List.not_mem_nil, or_false] at hm
      rcases hm with ⟨rfl, rfl⟩
      · have hl : f18 (r18 c k (n + 1)) 0 f h := hl
        have hh := e18_0 c k (r18 c k n) f h (f 0)
        rw [fset_self (rfl : f 0 = f 0)] at hh
        exact Eq.mpr hh hl
    ) (by simp [u18]) hg

theorem e19_0 (c : Caller Prop FT) (k : KV) (J : J19) (f : FT) (h : H) (l_0 : Nat) (c_0 : Nat) (l_1 : Nat) (c_1 : Nat) : chunkA env c q19 u19 (f19 J) d19 (retA env Go.Proofs.Tryz.f19.results.toList k) .root (fset (fset f 0 (.str l_0 c_0)) 1 (.str l_1 c_1)) h = s19_0 c k J l_0 c_0 l_1 c_1 h := by kernel_rfl
theorem w19 {c : Caller Prop FT} (hc : CallOk Go.Proofs.Tryz.prog (CP env) G (fun p => p) c) {k : KV} {n : Nat} {args : List AV} {h : H} (hg : f19 (r19 c k n) 0 (finit args) h) : SW Go.Proofs.Tryz.prog G (.func 19) args h k :=
  fn_ok mixed envOk hc q19 Go.Proofs.Tryz.func19 rfl (by kernel_rfl) (by kernel_rfl) k u19 (fun n => f19 (r19 c k n))
    (fun L f h hl => by
      match L, hl with
      | 0, hl => obtain ⟨_, _, _, hl0⟩ := asS_inv (show _ from hl); obtain ⟨_, _, _, hl1⟩ := asS_inv (show _ from hl0); exact hl1
      | _ + 1, hl => exact hl)
    (fun n p L hm f h hl => by
      simp only [u19, List.mem_cons, Prod.mk.injEq, List.not_mem_nil, or_false] at hm
      rcases hm with ⟨rfl, rfl⟩
      · have hl : f19 (r19 c k (n + 1)) 0 f h := hl
        obtain ⟨l_0, c_0, e_0, hl0⟩ := asS_inv hl
        obtain ⟨l_1, c_1, e_1, hl1⟩ := asS_inv hl0
        have hh := e19_0 c k (r19 c k n) f h l_0 c_0 l_1 c_1
        rw [fset_self e_0] at hh
        rw [fset_self e_1] at hh
        exact Eq.mpr hh hl1
    ) (by simp [u19]) hg

theorem e23_0 (c : Caller Prop FT) (k : KV) (J : J23) (f : FT) (h : H) (l_0 : Nat) (c_0 : Nat) (l_1 : Nat) (c_1 : Nat) : chunkA env c q23 u23 (f23 J) d23 (retA env Go.Proofs.Tryz.f23.results.toList k) .root (fset (fset f 0 (.str l_0 c_0)) 1 (.str l_1 c_1)) h = s23_0 c k J l_0 c_0 l_1 c_1 h := by kernel_rfl
theorem w23 {c : Caller Prop FT} (hc : CallOk Go.Proofs.Tryz.prog (CP env) G (fun p => p) c) {k : KV} {n : Nat} {args : List AV} {h : H} (hg : f23 (r23 c k n) 0 (finit args) h) : SW Go.Proofs.Tryz.prog G (.func 23) args h k :=
  fn_ok mixed envOk hc q23 Go.Proofs.Tryz.func23 rfl (by kernel_rfl) (by kernel_rfl) k u23 (fun n => f23 (r23 c k n))
    (fun L f h hl => by
      match L, hl with
      | 0, hl => obtain ⟨_, _, _, hl0⟩ := asS_inv (show _ from hl); obtain ⟨_, _, _, hl1⟩ := asS_inv (show _ from hl0); exact hl1
      | _ + 1, hl => exact hl)
    (fun n p L hm f h hl => by
      simp only [u23, List.mem_cons, Prod.mk.injEq, List.not_mem_nil, or_false] at hm
      rcases hm with ⟨rfl, rfl⟩
      · have hl : f23 (r23 c k (n + 1)) 0 f h := hl
        obtain ⟨l_0, c_0, e_0, hl0⟩ := asS_inv hl
        obtain ⟨l_1, c_1, e_1, hl1⟩ := asS_inv hl0
        have hh := e23_0 c k (r23 c k n) f h l_0 c_0 l_1 c_1
        rw [fset_self e_0] at hh
        rw [fset_self e_1] at hh
        exact Eq.mpr hh hl1
    ) (by simp [u23]) hg

theorem e26_0 (c : Caller Prop FT) (k : KV) (J : J26) (f : FT) (h : H) (n_0 : Int) : chunkA env c q26 u26 (f26 J) d26 (retA env Go.Proofs.Tryz.f26.results.toList k) .root (fset f 0 (.int .u8 n_0)) h = s26_0 c k J n_0 h := by kernel_rfl
theorem w26 {c : Caller Prop FT} (hc : CallOk Go.Proofs.Tryz.prog (CP env) G (fun p => p) c) {k : KV} {n : Nat} {args : List AV} {h : H} (hg : f26 (r26 c k n) 0 (finit args) h) : SW Go.Proofs.Tryz.prog G (.func 26) args h k :=
  fn_ok mixed envOk hc q26 Go.Proofs.Tryz.func26 rfl (by kernel_rfl) (by kernel_rfl) k u26 (fun n => f26 (r26 c k n))
    (fun L f h hl => by
      match L, hl with
      | 0, hl => obtain ⟨_, _, hl0⟩ := asI_inv (show _ from hl); exact hl0
      | _ + 1, hl => exact hl)
    (fun n p L hm f h hl => by
      simp only [u26, List.mem_cons, Prod.mk.injEq, List.not_mem_nil, or_false] at hm
      rcases hm with ⟨rfl, rfl⟩
      · have hl : f26 (r26 c k (n + 1)) 0 f h := hl
        obtain ⟨n_0, e_0, hl0⟩ := asI_inv hl
        have hh := e26_0 c k (r26 c k n) f h n_0
        rw [fset_self e_0] at hh
        exact Eq.mpr hh hl0
    ) (by simp [u26]) hg

theorem e27_0 (c : Caller Prop FT) (k : KV) (J : J27) (f : FT) (h : H) (v_0 : AV) (n_1 : Int) : chunkA env c q27 u27 (f27 J) d27 (retA env Go.Proofs.Tryz.f27.results.toList k) .root (fset (fset f 0 v_0) 1 (.int .i64 n_1)) h = s27_0 c k J v_0 n_1 h := by kernel_rfl
theorem e27_1 (c : Caller Prop FT) (k : KV) (J : J27) (f : FT) (h : H) (v_0 : AV) (n_6 : Int) : chunkA env c q27 u27 (f27 J) d27 (retA env Go.Proofs.Tryz.f27.results.toList k) (.l (.l (.r (.l (.r (.l (.r (.r .root)))))))) (fset (fset f 0 v_0) 6 (.int .i64 n_6)) h = s27_1 c k J v_0 n_6 h := by kernel_rfl
theorem e27_2 (c : Caller Prop FT) (k : KV) (J : J27) (f : FT) (h : H) (v_0 : AV) (n_7 : Int) : chunkA env c q27 u27 (f27 J) d27 (retA env Go.Proofs.Tryz.f27.results.toList k) (.l (.r (.l (.r (.r (.r (.r .root))))))) (fset (fset f 0 v_0) 7 (.int .i64 n_7)) h = s27_2 c k J v_0 n_7 h := by kernel_rfl
theorem w27 {c : Caller Prop FT} (hc : CallOk Go.Proofs.Tryz.prog (CP env) G (fun p => p) c) {k : KV} {n : Nat} {args : List AV} {h : H} (hg : f27 (r27 c k n) 0 (finit args) h) : SW Go.Proofs.Tryz.prog G (.func 27) args h k :=
  fn_ok mixed envOk hc q27 Go.Proofs.Tryz.func27 rfl (by kernel_rfl) (by kernel_rfl) k u27 (fun n => f27 (r27 c k n))
    (fun L f h hl => by
      match L, hl with
      | 0, hl => obtain ⟨_, _, hl0⟩ := asI_inv (show _ from hl); exact hl0
      | 1, hl => obtain ⟨_, _, hl0⟩ := asI_inv (show _ from hl); exact hl0
      | 2, hl => obtain ⟨_, _, hl0⟩ := asI_inv (show _ from hl); exact hl0
      | _ + 3, hl => exact hl)
    (fun n p L hm f h hl => by
      simp only [u27, List.mem_cons, Prod.mk.injEq, List.not_mem_nil, or_false] at hm
      rcases hm with ⟨rfl, rfl⟩ | ⟨rfl, rfl⟩ | ⟨rfl, rfl⟩
      · have hl : f27 (r27 c k (n + 1)) 0 f h := hl
        obtain ⟨n_1, e_1, hl1⟩ := asI_inv hl
        have hh := e27_0 c k (r27 c k n) f h (f 0) n_1
        rw [fset_self (rfl : f 0 = f 0)] at hh
        rw [fset_self e_1] at hh
        exact Eq.mpr hh hl1
      · have hl : f27 (r27 c k (n + 1)) 1 f h := hl
        obtain ⟨n_6, e_6, hl1⟩ := asI_inv hl
        have hh := e27_1 c k (r27 c k n) f h (f 0) n_6
        rw [fset_self (rfl : f 0 = f 0)] at hh
        rw [fset_self e_6] at hh
        exact Eq.mpr hh hl1
      · have hl : f27 (r27 c k (n + 1)) 2 f h := hl
        obtain ⟨n_7, e_7, hl1⟩ := asI_inv hl
        have hh := e27_2 c k (r27 c k n) f h (f 0) n_7
        rw [fset_self (rfl : f 0 = f 0)] at hh
        rw [fset_self e_7] at hh
        exact Eq.mpr hh hl1
    ) (by simp [u27]) hg

theorem e31_0 (c : Caller Prop FT) (k : KV) (J : J31) (f : FT) (h : H) (l_0 : Nat) (c_0 : Nat) : chunkA env c q31 u31 (f31 J) d31 (retA env Go.Proofs.Tryz.f31.results.toList k) .root (fset f 0 (.str l_0 c_0)) h = s31_0 c k J l_0 c_0 h := by kernel_rfl
theorem w31 {c : Caller Prop FT} (hc : CallOk Go.Proofs.Tryz.prog (CP env) G (fun p => p) c) {k : KV} {n : Nat} {args : List AV} {h : H} (hg : f31 (r31 c k n) 0 (finit args) h) : SW Go.Proofs.Tryz.prog G (.func 31) args h k :=
  fn_ok mixed envOk hc q31 Go.Proofs.Tryz.func31 rfl (by kernel_rfl) (by kernel_rfl) k u31 (fun n => f31 (r31 c k n))
    (fun L f h hl => by
      match L, hl with
      | 0, hl => obtain ⟨_, _, _, hl0⟩ := asS_inv (show _ from hl); exact hl0
      | _ + 1, hl => exact hl)
    (fun n p L hm f h hl => by
      simp only [u31, List.mem_cons, Prod.mk.injEq, List.not_mem_nil, or_false] at hm
      rcases hm with ⟨rfl, rfl⟩
      · have hl : f31 (r31 c k (n + 1)) 0 f h := hl
        obtain ⟨l_0, c_0, e_0, hl0⟩ := asS_inv hl
        have hh := e31_0 c k (r31 c k n) f h l_0 c_0
        rw [fset_self e_0] at hh
        exact Eq.mpr hh hl0
    ) (by simp [u31]) hg

theorem e32_0 (c : Caller Prop FT) (k : KV) (J : J32) (f : FT) (h : H) (l_0 : Nat) (c_0 : Nat) (l_1 : Nat) (c_1 : Nat) : chunkA env c q32 u32 (f32 J) d32 (retA env Go.Proofs.Tryz.f32.results.toList k) .root (fset (fset f 0 (.str l_0 c_0)) 1 (.str l_1 c_1)) h = s32_0 c k J l_0 c_0 l_1 c_1 h := by kernel_rfl
theorem w32 {c : Caller Prop FT} (hc : CallOk Go.Proofs.Tryz.prog (CP env) G (fun p => p) c) {k : KV} {n : Nat} {args : List AV} {h : H} (hg : f32 (r32 c k n) 0 (finit args) h) : SW Go.Proofs.Tryz.prog G (.func 32) args h k :=
  fn_ok mixed envOk hc q32 Go.Proofs.Tryz.func32 rfl (by kernel_rfl) (by kernel_rfl) k u32 (fun n => f32 (r32 c k n))
    (fun L f h hl => by
      match L, hl with
      | 0, hl => obtain ⟨_, _, _, hl0⟩ := asS_inv (show _ from hl); obtain ⟨_, _, _, hl1⟩ := asS_inv (show _ from hl0); exact hl1
      | _ + 1, hl => exact hl)
    (fun n p L hm f h hl => by
      simp only [u32, List.mem_cons, Prod.mk.injEq, List.not_mem_nil, or_false] at hm
      rcases hm with ⟨rfl, rfl⟩
      · have hl : f32 (r32 c k (n + 1)) 0 f h := hl
        obtain ⟨l_0, c_0, e_0, hl0⟩ := asS_inv hl
        obtain ⟨l_1, c_1, e_1, hl1⟩ := asS_inv hl0
        have hh := e32_0 c k (r32 c k n) f h l_0 c_0 l_1 c_1
        rw [fset_self e_0] at hh
        rw [fset_self e_1] at hh
        exact Eq.mpr hh hl1
    ) (by simp [u32]) hg

theorem e36_0 (c : Caller Prop FT) (k : KV) (J : J36) (f : FT) (h : H) (l_0 : Nat) (c_0 : Nat) (l_1 : Nat) (c_1 : Nat) : chunkA env c q36 u36 (f36 J) d36 (retA env Go.Proofs.Tryz.f36.results.toList k) .root (fset (fset f 0 (.str l_0 c_0)) 1 (.str l_1 c_1)) h = s36_0 c k J l_0 c_0 l_1 c_1 h := by kernel_rfl
theorem w36 {c : Caller Prop FT} (hc : CallOk Go.Proofs.Tryz.prog (CP env) G (fun p => p) c) {k : KV} {n : Nat} {args : List AV} {h : H} (hg : f36 (r36 c k n) 0 (finit args) h) : SW Go.Proofs.Tryz.prog G (.func 36) args h k :=
  fn_ok mixed envOk hc q36 Go.Proofs.Tryz.func36 rfl (by kernel_rfl) (by kernel_rfl) k u36 (fun n => f36 (r36 c k n))
    (fun L f h hl => by
      match L, hl with
      | 0, hl => obtain ⟨_, _, _, hl0⟩ := asS_inv (show _ from hl); obtain ⟨_, _, _, hl1⟩ := asS_inv (show _ from hl0); exact hl1
      | _ + 1, hl => exact hl)
    (fun n p L hm f h hl => by
      simp only [u36, List.mem_cons, Prod.mk.injEq, List.not_mem_nil, or_false] at hm
      rcases hm with ⟨rfl, rfl⟩
      · have hl : f36 (r36 c k (n + 1)) 0 f h := hl
        obtain ⟨l_0, c_0, e_0, hl0⟩ := asS_inv hl
        obtain ⟨l_1, c_1, e_1, hl1⟩ := asS_inv hl0
        have hh := e36_0 c k (r36 c k n) f h l_0 c_0 l_1 c_1
        rw [fset_self e_0] at hh
        rw [fset_self e_1] at hh
        exact Eq.mpr hh hl1
    ) (by simp [u36]) hg

theorem e38_0 (c : Caller Prop FT) (k : KV) (J : J38) (f : FT) (h : H) (v_0 : AV) : chunkA env c q38 u38 (f38 J) d38 (retA env Go.Proofs.Tryz.f38.results.toList k) .root (fset f 0 v_0) h = s38_0 c k J v_0 h := by kernel_rfl
theorem e38_1 (c : Caller Prop FT) (k : KV) (J : J38) (f : FT) (h : H) (v_0 : AV) (v_3 : AV) (n_4 : Int) : chunkA env c q38 u38 (f38 J) d38 (retA env Go.Proofs.Tryz.f38.results.toList k) (.l (.r (.l (.r (.r .root))))) (fset (fset (fset f 0 v_0) 3 v_3) 4 (.int .i64 n_4)) h = s38_1 c k J v_0 v_3 n_4 h := by kernel_rfl
theorem e38_2 (c : Caller Prop FT) (k : KV) (J : J38) (f : FT) (h : H) (v_0 : AV) (v_3 : AV) (n_4 : Int) : chunkA env c q38 u38 (f38 J) d38 (retA env Go.Proofs.Tryz.f38.results.toList k) (.r (.r (.l (.l (.r (.l (.r (.r .root)))))))) (fset (fset (fset f 0 v_0) 3 v_3) 4 (.int .i64 n_4)) h = s38_2 c k J v_0 v_3 n_4 h := by kernel_rfl
theorem w38 {c : Caller Prop FT} (hc : CallOk Go.Proofs.Tryz.prog (CP env) G (fun p => p) c) {k : KV} {n : Nat} {args : List AV} {h : H} (hg : f38 (r38 c k n) 0 (finit args) h) : SW Go.Proofs.Tryz.prog G (.func 38) args h k :=
  fn_ok mixed envOk hc q38 Go.Proofs.Tryz.func38 rfl (by kernel_rfl) (by kernel_rfl) k u38 (fun n => f38 (r38 c k n))
    (fun L f h hl => by
      match L, hl with
      | 0, hl => exact hl
      | 1, hl => obtain ⟨_, _, hl0⟩ := asI_inv (show _ from hl); exact hl0
      | 2, hl => obtain ⟨_, _, hl0⟩ := asI_inv (show _ from hl); exact hl0
      | _ + 3, hl => exact hl)
    (fun n p L hm f h hl => by
      simp only [u38, List.mem_cons, Prod.mk.injEq, List.not_mem_nil, or_false] at hm
      rcases hm with ⟨rfl, rfl⟩ | ⟨rfl, rfl⟩ | ⟨rfl, rfl⟩
      · have hl : f38 (r38 c k (n + 1)) 0 f h := hl
        have hh := e38_0 c k (r38 c k n) f h (f 0)
        rw [fset_self (rfl : f 0 = f 0)] at hh
        exact Eq.mpr hh hl
      · have hl : f38 (r38 c k (n + 1)) 1 f h := hl
        obtain ⟨n_4, e_4, hl2⟩ := asI_inv hl
        have hh := e38_1 c k (r38 c k n) f h (f 0) (f 3) n_4
        rw [fset_self (rfl : f 0 = f 0)] at hh
        rw [fset_self (rfl : f 3 = f 3)] at hh
        rw [fset_self e_4] at hh
        exact Eq.mpr hh hl2
      · have hl : f38 (r38 c k (n + 1)) 2 f h := hl
        obtain ⟨n_4, e_4, hl2⟩ := asI_inv hl
        have hh := e38_2 c k (r38 c k n) f h (f 0) (f 3) n_4
        rw [fset_self (rfl : f 0 = f 0)] at hh
        rw [fset_self (rfl : f 3 = f 3)] at hh
        rw [fset_self e_4] at hh
        exact Eq.mpr hh hl2
    ) (by simp [u38]) hg

theorem e39_0 (c : Caller Prop FT) (k : KV) (J : J39) (f : FT) (h : H) (l_0 : Nat) (c_0 : Nat) : chunkA env c q39 u39 (f39 J) d39 (retA env Go.Proofs.Tryz.f39.results.toList k) .root (fset f 0 (.str l_0 c_0)) h = s39_0 c k J l_0 c_0 h := by kernel_rfl
theorem e39_1 (c : Caller Prop FT) (k : KV) (J : J39) (f : FT) (h : H) (l_0 : Nat) (c_0 : Nat) (v_3 : AV) (n_4 : Int) : chunkA env c q39 u39 (f39 J) d39 (retA env Go.Proofs.Tryz.f39.results.toList k) (.l (.r (.l (.r (.r .root))))) (fset (fset (fset f 0 (.str l_0 c_0)) 3 v_3) 4 (.int .i64 n_4)) h = s39_1 c k J l_0 c_0 v_3 n_4 h := by kernel_rfl
theorem e39_2 (c : Caller Prop FT) (k : KV) (J : J39) (f : FT) (h : H) (l_0 : Nat) (c_0 : Nat) (v_3 : AV) (n_4 : Int) : chunkA env c q39 u39 (f39 J) d39 (retA env Go.Proofs.Tryz.f39.results.toList k) (.r (.l (.r (.l (.l (.r (.l (.r (.r .root))))))))) (fset (fset (fset f 0 (.str l_0 c_0)) 3 v_3) 4 (.int .i64 n_4)) h = s39_2 c k J l_0 c_0 v_3 n_4 h := by kernel_rfl
theorem w39 {c : Caller Prop FT} (hc : CallOk Go.Proofs.Tryz.prog (CP env) G (fun p => p) c) {k : KV} {n : Nat} {args : List AV} {h : H} (hg : f39 (r39 c k n) 0 (finit args) h) : SW Go.Proofs.Tryz.prog G (.func 39) args h k :=
  fn_ok mixed envOk hc q39 Go.Proofs.Tryz.func39 rfl (by kernel_rfl) (by kernel_rfl) k u39 (fun n => f39 (r39 c k n))
    (fun L f h hl => by
      match L, hl with
      | 0, hl => obtain ⟨_, _, _, hl0⟩ := asS_inv (show _ from hl); exact hl0
      | 1, hl => obtain ⟨_, _, _, hl0⟩ := asS_inv (show _ from hl); obtain ⟨_, _, hl1⟩ := asI_inv (show _ from hl0); exact hl1
      | 2, hl => obtain ⟨_, _, _, hl0⟩ := asS_inv (show _ from hl); obtain ⟨_, _, hl1⟩ := asI_inv (show _ from hl0); exact hl1
      | _ + 3, hl => exact hl)
    (fun n p L hm f h hl => by
      simp only [u39, List.mem_cons, Prod.mk.injEq, List.not_mem_nil, or_false] at hm
      rcases hm with ⟨rfl, rfl⟩ | ⟨rfl, rfl⟩ | ⟨rfl, rfl⟩
      · have hl : f39 (r39 c k (n + 1)) 0 f h := hl
        obtain ⟨l_0, c_0, e_0, hl0⟩ := asS_inv hl
        have hh := e39_0 c k (r39 c k n) f h l_0 c_0
        rw [fset_self e_0] at hh
        exact Eq.mpr hh hl0
      · have hl : f39 (r39 c k (n + 1)) 1 f h := hl
        obtain ⟨l_0, c_0, e_0, hl0⟩ := asS_inv hl
        obtain ⟨n_4, e_4, hl2⟩ := asI_inv hl0
        have hh := e39_1 c k (r39 c k n) f h l_0 c_0 (f 3) n_4
        rw [fset_self e_0] at hh
        rw [fset_self (rfl : f 3 = f 3)] at hh
        rw [fset_self e_4] at hh
        exact Eq.mpr hh hl2
      · have hl : f39 (r39 c k (n + 1)) 2 f h := hl
        obtain ⟨l_0, c_0, e_0, hl0⟩ := asS_inv hl
        obtain ⟨n_4, e_4, hl2⟩ := asI_inv hl0
        have hh := e39_2 c k (r39 c k n) f h l_0 c_0 (f 3) n_4
        rw [fset_self e_0] at hh
        rw [fset_self (rfl : f 3 = f 3)] at hh
        rw [fset_self e_4] at hh
        exact Eq.mpr hh hl2
    ) (by simp [u39]) hg

theorem e40_0 (c : Caller Prop FT) (k : KV) (J : J40) (f : FT) (h : H) (v_0 : AV) (n_1 : Int) : chunkA env c q40 u40 (f40 J) d40 (retA env Go.Proofs.Tryz.f40.results.toList k) .root (fset (fset f 0 v_0) 1 (.int .i64 n_1)) h = s40_0 c k J v_0 n_1 h := by kernel_rfl
theorem w40 {c : Caller Prop FT} (hc : CallOk Go.Proofs.Tryz.prog (CP env) G (fun p => p) c) {k : KV} {n : Nat} {args : List AV} {h : H} (hg : f40 (r40 c k n) 0 (finit args) h) : SW Go.Proofs.Tryz.prog G (.func 40) args h k :=
  fn_ok mixed envOk hc q40 Go.Proofs.Tryz.func40 rfl (by kernel_rfl) (by kernel_rfl) k u40 (fun n => f40 (r40 c k n))
    (fun L f h hl => by
      match L, hl with
      | 0, hl => obtain ⟨_, _, hl0⟩ := asI_inv (show _ from hl); exact hl0
      | _ + 1, hl => exact hl)
    (fun n p L hm f h hl => by
      simp only [u40, List.mem_cons, Prod.mk.injEq, List.not_mem_nil, or_false] at hm
      rcases hm with ⟨rfl, rfl⟩
      · have hl : f40 (r40 c k (n + 1)) 0 f h := hl
        obtain ⟨n_1, e_1, hl1⟩ := asI_inv hl
        have hh := e40_0 c k (r40 c k n) f h (f 0) n_1
        rw [fset_self (rfl : f 0 = f 0)] at hh
        rw [fset_self e_1] at hh
        exact Eq.mpr hh hl1
    ) (by simp [u40]) hg

theorem e42_0 (c : Caller Prop FT) (k : KV) (J : J42) (f : FT) (h : H) (v_0 : AV) (n_1 : Int) : chunkA env c q42 u42 (f42 J) d42 (retA env Go.Proofs.Tryz.f42.results.toList k) .root (fset (fset f 0 v_0) 1 (.int .i64 n_1)) h = s42_0 c k J v_0 n_1 h := by kernel_rfl
theorem e42_1 (c : Caller Prop FT) (k : KV) (J : J42) (f : FT) (h : H) (v_0 : AV) (n_5 : Int) (n_6 : Int) : chunkA env c q42 u42 (f42 J) d42 (retA env Go.Proofs.Tryz.f42.results.toList k) (.l (.r (.l (.r (.r .root))))) (fset (fset (fset f 0 v_0) 5 (.int .u8 n_5)) 6 (.int .i64 n_6)) h = s42_1 c k J v_0 n_5 n_6 h := by kernel_rfl
theorem e42_2 (c : Caller Prop FT) (k : KV) (J : J42) (f : FT) (h : H) (v_0 : AV) (n_5 : Int) (n_6 : Int) : chunkA env c q42 u42 (f42 J) d42 (retA env Go.Proofs.Tryz.f42.results.toList k) (.r (.r (.l (.l (.r (.l (.r (.r .root)))))))) (fset (fset (fset f 0 v_0) 5 (.int .u8 n_5)) 6 (.int .i64 n_6)) h = s42_2 c k J v_0 n_5 n_6 h := by kernel_rfl
theorem w42 {c : Caller Prop FT} (hc : CallOk Go.Proofs.Tryz.prog (CP env) G (fun p => p) c) {k : KV} {n : Nat} {args : List AV} {h : H} (hg : f42 (r42 c k n) 0 (finit args) h) : SW Go.Proofs.Tryz.prog G (.func 42) args h k :=
  fn_ok mixed envOk hc q42 Go.Proofs.Tryz.func42 rfl (by kernel_rfl) (by kernel_rfl) k u42 (fun n => f42 (r42 c k n))
    (fun L f h hl => by
      match L, hl with
      | 0, hl => obtain ⟨_, _, hl0⟩ := asI_inv (show _ from hl); exact hl0
      | 1, hl => obtain ⟨_, _, hl0⟩ := asI_inv (show _ from hl); obtain ⟨_, _, hl1⟩ := asI_inv (show _ from hl0); exact hl1
      | 2, hl => obtain ⟨_, _, hl0⟩ := asI_inv (show _ from hl); obtain ⟨_, _, hl1⟩ := asI_inv (show _ from hl0); exact hl1
      | _ + 3, hl => exact hl)
    (fun n p L hm f h hl => by
      simp only [u42, List.mem_cons, Prod.mk.injEq, List.not_mem_nil, or_false] at hm
      rcases hm with ⟨rfl, rfl⟩ | ⟨rfl, rfl⟩ | ⟨rfl, rfl⟩
      · have hl : f42 (r42 c k (n + 1)) 0 f h := hl
        obtain ⟨n_1, e_1, hl1⟩ := asI_inv hl
        have hh := e42_0 c k (r42 c k n) f h (f 0) n_1
        rw [fset_self (rfl : f 0 = f 0)] at hh
        rw [fset_self e_1] at hh
        exact Eq.mpr hh hl1
      · have hl : f42 (r42 c k (n + 1)) 1 f h := hl
        obtain ⟨n_5, e_5, hl1⟩ := asI_inv hl
        obtain ⟨n_6, e_6, hl2⟩ := asI_inv hl1
        have hh := e42_1 c k (r42 c k n) f h (f 0) n_5 n_6
        rw [fset_self (rfl : f 0 = f 0)] at hh
        rw [fset_self e_5] at hh
        rw [fset_self e_6] at hh
        exact Eq.mpr hh hl2
      · have hl : f42 (r42 c k (n + 1)) 2 f h := hl
        obtain ⟨n_5, e_5, hl1⟩ := asI_inv hl
        obtain ⟨n_6, e_6, hl2⟩ := asI_inv hl1
        have hh := e42_2 c k (r42 c k n) f h (f 0) n_5 n_6
        rw [fset_self (rfl : f 0 = f 0)] at hh
        rw [fset_self e_5] at hh
        rw [fset_self e_6] at hh
        exact Eq.mpr hh hl2
    ) (by simp [u42]) hg

theorem e44_0 (c : Caller Prop FT) (k : KV) (J : J44) (f : FT) (h : H) (n_0 : Int) : chunkA env c q44 u44 (f44 J) d44 (retA env Go.Proofs.Tryz.f44.results.toList k) .root (fset f 0 (.int .u8 n_0)) h = s44_0 c k J n_0 h := by kernel_rfl
theorem w44 {c : Caller Prop FT} (hc : CallOk Go.Proofs.Tryz.prog (CP env) G (fun p => p) c) {k : KV} {n : Nat} {args : List AV} {h : H} (hg : f44 (r44 c k n) 0 (finit args) h) : SW Go.Proofs.Tryz.prog G (.func 44) args h k :=
  fn_ok mixed envOk hc q44 Go.Proofs.Tryz.func44 rfl (by kernel_rfl) (by kernel_rfl) k u44 (fun n => f44 (r44 c k n))
    (fun L f h hl => by
      match L, hl with
      | 0, hl => obtain ⟨_, _, hl0⟩ := asI_inv (show _ from hl); exact hl0
      | _ + 1, hl => exact hl)
    (fun n p L hm f h hl => by
      simp only [u44, List.mem_cons, Prod.mk.injEq, List.not_mem_nil, or_false] at hm
      rcases hm with ⟨rfl, rfl⟩
      · have hl : f44 (r44 c k (n + 1)) 0 f h := hl
        obtain ⟨n_0, e_0, hl0⟩ := asI_inv hl
        have hh := e44_0 c k (r44 c k n) f h n_0
        rw [fset_self e_0] at hh
        exact Eq.mpr hh hl0
    ) (by simp [u44]) hg

theorem e46_0 (c : Caller Prop FT) (k : KV) (J : J46) (f : FT) (h : H) (v_0 : AV) (n_1 : Int) : chunkA env c q46 u46 (f46 J) d46 (retA env Go.Proofs.Tryz.f46.results.toList k) .root (fset (fset f 0 v_0) 1 (.int .i64 n_1)) h = s46_0 c k J v_0 n_1 h := by kernel_rfl
theorem e46_1 (c : Caller Prop FT) (k : KV) (J : J46) (f : FT) (h : H) (v_0 : AV) (n_1 : Int) (v_5 : AV) (n_6 : Int) : chunkA env c q46 u46 (f46 J) d46 (retA env Go.Proofs.Tryz.f46.results.toList k) (.l (.r (.l (.r (.r .root))))) (fset (fset (fset (fset f 0 v_0) 1 (.int .i64 n_1)) 5 v_5) 6 (.int .i64 n_6)) h = s46_1 c k J v_0 n_1 v_5 n_6 h := by kernel_rfl
theorem e46_2 (c : Caller Prop FT) (k : KV) (J : J46) (f : FT) (h : H) (v_0 : AV) (n_1 : Int) (v_5 : AV) (n_6 : Int) (n_7 : Int) : chunkA env c q46 u46 (f46 J) d46 (retA env Go.Proofs.Tryz.f46.results.toList k) (.l (.l (.r (.l (.l (.r (.l (.l (.r (.l (.r (.r .root)))))))))))) (fset (fset (fset (fset (fset f 0 v_0) 1 (.int .i64 n_1)) 5 v_5) 6 (.int .i64 n_6)) 7 (.int .i64 n_7)) h = s46_2 c k J v_0 n_1 v_5 n_6 n_7 h := by kernel_rfl
theorem w46 {c : Caller Prop FT} (hc : CallOk Go.Proofs.Tryz.prog (CP env) G (fun p => p) c) {k : KV} {n : Nat} {args : List AV} {h : H} (hg : f46 (r46 c k n) 0 (finit args) h) : SW Go.Proofs.Tryz.prog G (.func 46) args h k :=
  fn_ok mixed envOk hc q46 Go.Proofs.Tryz.func46 rfl (by kernel_rfl) (by kernel_rfl) k u46 (fun n => f46 (r46 c k n))
    (fun L f h hl => by
      match L, hl with
      | 0, hl => obtain ⟨_, _, hl0⟩ := asI_inv (show _ from hl); exact hl0
      | 1, hl => obtain ⟨_, _, hl0⟩ := asI_inv (show _ from hl); obtain ⟨_, _, hl1⟩ := asI_inv (show _ from hl0); exact hl1
      | 2, hl => obtain ⟨_, _, hl0⟩ := asI_inv (show _ from hl); obtain ⟨_, _, hl1⟩ := asI_inv (show _ from hl0); obtain ⟨_, _, hl2⟩ := asI_inv (show _ from hl1); exact hl2
      | _ + 3, hl => exact hl)
    (fun n p L hm f h hl => by
      simp only [u46, List.mem_cons, Prod.mk.injEq, List.not_mem_nil, or_false] at hm
      rcases hm with ⟨rfl, rfl⟩ | ⟨rfl, rfl⟩ | ⟨rfl, rfl⟩
      · have hl : f46 (r46 c k (n + 1)) 0 f h := hl
        obtain ⟨n_1, e_1, hl1⟩ := asI_inv hl
        have hh := e46_0 c k (r46 c k n) f h (f 0) n_1
        rw [fset_self (rfl : f 0 = f 0)] at hh
        rw [fset_self e_1] at hh
        exact Eq.mpr hh hl1
      · have hl : f46 (r46 c k (n + 1)) 1 f h := hl
        obtain ⟨n_1, e_1, hl1⟩ := asI_inv hl
        obtain ⟨n_6, e_6, hl3⟩ := asI_inv hl1
        have hh := e46_1 c k (r46 c k n) f h (f 0) n_1 (f 5) n_6
        rw [fset_self (rfl : f 0 = f 0)] at hh
        rw [fset_self e_1] at hh
        rw [fset_self (rfl : f 5 = f 5)] at hh
        rw [fset_self e_6] at hh
        exact Eq.mpr hh hl3
      · have hl : f46 (r46 c k (n + 1)) 2 f h := hl
        obtain ⟨n_1, e_1, hl1⟩ := asI_inv hl
        obtain ⟨n_6, e_6, hl3⟩ := asI_inv hl1
        obtain ⟨n_7, e_7, hl4⟩ := asI_inv hl3
        have hh := e46_2 c k (r46 c k n) f h (f 0) n_1 (f 5) n_6 n_7
        rw [fset_self (rfl : f 0 = f 0)] at hh
        rw [fset_self e_1] at hh
        rw [fset_self (rfl : f 5 = f 5)] at hh
        rw [fset_self e_6] at hh
        rw [fset_self e_7] at hh
        exact Eq.mpr hh hl4
    ) (by simp [u46]) hg

theorem e48_0 (c : Caller Prop FT) (k : KV) (J : J48) (f : FT) (h : H) (l_0 : Nat) (c_0 : Nat) (n_1 : Int) : chunkA env c q48 u48 (f48 J) d48 (retA env Go.Proofs.Tryz.f48.results.toList k) .root (fset (fset f 0 (.str l_0 c_0)) 1 (.int .u8 n_1)) h = s48_0 c k J l_0 c_0 n_1 h := by kernel_rfl
theorem e48_1 (c : Caller Prop FT) (k : KV) (J : J48) (f : FT) (h : H) (l_0 : Nat) (c_0 : Nat) (n_1 : Int) : chunkA env c q48 u48 (f48 J) d48 (retA env Go.Proofs.Tryz.f48.results.toList k) (.l (.l (.r .root))) (fset (fset f 0 (.str l_0 c_0)) 1 (.int .u8 n_1)) h = s48_1 c k J l_0 c_0 n_1 h := by kernel_rfl
theorem w48 {c : Caller Prop FT} (hc : CallOk Go.Proofs.Tryz.prog (CP env) G (fun p => p) c) {k : KV} {n : Nat} {args : List AV} {h : H} (hg : f48 (r48 c k n) 0 (finit args) h) : SW Go.Proofs.Tryz.prog G (.func 48) args h k :=
  fn_ok mixed envOk hc q48 Go.Proofs.Tryz.func48 rfl (by kernel_rfl) (by kernel_rfl) k u48 (fun n => f48 (r48 c k n))
    (fun L f h hl => by
      match L, hl with
      | 0, hl => obtain ⟨_, _, _, hl0⟩ := asS_inv (show _ from hl); obtain ⟨_, _, hl1⟩ := asI_inv (show _ from hl0); exact hl1
      | 1, hl => obtain ⟨_, _, _, hl0⟩ := asS_inv (show _ from hl); obtain ⟨_, _, hl1⟩ := asI_inv (show _ from hl0); exact hl1
      | _ + 2, hl => exact hl)
    (fun n p L hm f h hl => by
      simp only [u48, List.mem_cons, Prod.mk.injEq, List.not_mem_nil, or_false] at hm
      rcases hm with ⟨rfl, rfl⟩ | ⟨rfl, rfl⟩
      · have hl : f48 (r48 c k (n + 1)) 0 f h := hl
        obtain ⟨l_0, c_0, e_0, hl0⟩ := asS_inv hl
        obtain ⟨n_1, e_1, hl1⟩ := asI_inv hl0
        have hh := e48_0 c k (r48 c k n) f h l_0 c_0 n_1
        rw [fset_self e_0] at hh
        rw [fset_self e_1] at hh
        exact Eq.mpr hh hl1
      · have hl : f48 (r48 c k (n + 1)) 1 f h := hl
        obtain ⟨l_0, c_0, e_0, hl0⟩ := asS_inv hl
        obtain ⟨n_1, e_1, hl1⟩ := asI_inv hl0
        have hh := e48_1 c k (r48 c k n) f h l_0 c_0 n_1
        rw [fset_self e_0] at hh
        rw [fset_self e_1] at hh
        exact Eq.mpr hh hl1
    ) (by simp [u48]) hg

theorem e50_0 (c : Caller Prop FT) (k : KV) (J : J50) (f : FT) (h : H) (l_0 : Nat) (c_0 : Nat) (v_1 : AV) : chunkA env c q50 u50 (f50 J) d50 (retA env Go.Proofs.Tryz.f50.results.toList k) .root (fset (fset f 0 (.str l_0 c_0)) 1 v_1) h = s50_0 c k J l_0 c_0 v_1 h := by kernel_rfl
theorem e50_1 (c : Caller Prop FT) (k : KV) (J : J50) (f : FT) (h : H) (l_0 : Nat) (c_0 : Nat) (v_1 : AV) : chunkA env c q50 u50 (f50 J) d50 (retA env Go.Proofs.Tryz.f50.results.toList k) (.l (.l (.r .root))) (fset (fset f 0 (.str l_0 c_0)) 1 v_1) h = s50_1 c k J l_0 c_0 v_1 h := by kernel_rfl
theorem w50 {c : Caller Prop FT} (hc : CallOk Go.Proofs.Tryz.prog (CP env) G (fun p => p) c) {k : KV} {n : Nat} {args : List AV} {h : H} (hg : f50 (r50 c k n) 0 (finit args) h) : SW Go.Proofs.Tryz.prog G (.func 50) args h k :=
  fn_ok mixed envOk hc q50 Go.Proofs.Tryz.func50 rfl (by kernel_rfl) (by kernel_rfl) k u50 (fun n => f50 (r50 c k n))
    (fun L f h hl => by
      match L, hl with
      | 0, hl => obtain ⟨_, _, _, hl0⟩ := asS_inv (show _ from hl); exact hl0
      | 1, hl => obtain ⟨_, _, _, hl0⟩ := asS_inv (show _ from hl); exact hl0
      | _ + 2, hl => exact hl)
    (fun n p L hm f h hl => by
      simp only [u50, List.mem_cons, Prod.mk.injEq, List.not_mem_nil, or_false] at hm
      rcases hm with ⟨rfl, rfl⟩ | ⟨rfl, rfl⟩
      · have hl : f50 (r50 c k (n + 1)) 0 f h := hl
        obtain ⟨l_0, c_0, e_0, hl0⟩ := asS_inv hl
        have hh := e50_0 c k (r50 c k n) f h l_0 c_0 (f 1)
        rw [fset_self e_0] at hh
        rw [fset_self (rfl : f 1 = f 1)] at hh
        exact Eq.mpr hh hl0
      · have hl : f50 (r50 c k (n + 1)) 1 f h := hl
        obtain ⟨l_0, c_0, e_0, hl0⟩ := asS_inv hl
        have hh := e50_1 c k (r50 c k n) f h l_0 c_0 (f 1)
        rw [fset_self e_0] at hh
        rw [fset_self (rfl : f 1 = f 1)] at hh
        exact Eq.mpr hh hl0
    ) (by simp [u50]) hg

theorem e54_0 (c : Caller Prop FT) (k : KV) (J : J54) (f : FT) (h : H) (l_0 : Nat) (c_0 : Nat) : chunkA env c q54 u54 (f54 J) d54 (retA env Go.Proofs.Tryz.f54.results.toList k) .root (fset f 0 (.str l_0 c_0)) h = s54_0 c k J l_0 c_0 h := by kernel_rfl
theorem e54_1 (c : Caller Prop FT) (k : KV) (J : J54) (f : FT) (h : H) (l_5 : Nat) (c_5 : Nat) (n_6 : Int) (v_47 : AV) (n_48 : Int) (n_49 : Int) : chunkA env c q54 u54 (f54 J) d54 (retA env Go.Proofs.Tryz.f54.results.toList k) (.l (.r (.l (.r (.r (.r (.l (.r (.l (.r (.r .root))))))))))) (fset (fset (fset (fset (fset f 5 (.str l_5 c_5)) 6 (.int .i64 n_6)) 47 v_47) 48 (.int .i64 n_48)) 49 (.int .i64 n_49)) h = s54_1 c k J l_5 c_5 n_6 v_47 n_48 n_49 h := by kernel_rfl
theorem e54_2 (c : Caller Prop FT) (k : KV) (J : J54) (f : FT) (h : H) (n_6 : Int) : chunkA env c q54 u54 (f54 J) d54 (retA env Go.Proofs.Tryz.f54.results.toList k) (.r (.r (.r (.r (.r (.l (.r (.l (.r (.r .root)))))))))) (fset f 6 (.int .i64 n_6)) h = s54_2 c k J n_6 h := by kernel_rfl
theorem e54_3 (c : Caller Prop FT) (k : KV) (J : J54) (f : FT) (h : H) (l_0 : Nat) (c_0 : Nat) (l_5 : Nat) (c_5 : Nat) : chunkA env c q54 u54 (f54 J) d54 (retA env Go.Proofs.Tryz.f54.results.toList k) (.r (.r (.l (.r (.l (.r (.r .root))))))) (fset (fset f 0 (.str l_0 c_0)) 5 (.str l_5 c_5)) h = s54_3 c k J l_0 c_0 l_5 c_5 h := by kernel_rfl
theorem w54 {c : Caller Prop FT} (hc : CallOk Go.Proofs.Tryz.prog (CP env) G (fun p => p) c) {k : KV} {n : Nat} {args : List AV} {h : H} (hg : f54 (r54 c k n) 0 (finit args) h) : SW Go.Proofs.Tryz.prog G (.func 54) args h k :=
  fn_ok mixed envOk hc q54 Go.Proofs.Tryz.func54 rfl (by kernel_rfl) (by kernel_rfl) k u54 (fun n => f54 (r54 c k n))
    (fun L f h hl => by
      match L, hl with
      | 0, hl => obtain ⟨_, _, _, hl0⟩ := asS_inv (show _ from hl); exact hl0
      | 1, hl => obtain ⟨_, _, _, hl0⟩ := asS_inv (show _ from hl); obtain ⟨_, _, hl1⟩ := asI_inv (show _ from hl0); obtain ⟨_, _, hl2⟩ := asI_inv (show _ from hl1); obtain ⟨_, _, hl3⟩ := asI_inv (show _ from hl2); exact hl3
      | 2, hl => obtain ⟨_, _, hl0⟩ := asI_inv (show _ from hl); exact hl0
      | 3, hl => obtain ⟨_, _, _, hl0⟩ := asS_inv (show _ from hl); obtain ⟨_, _, _, hl1⟩ := asS_inv (show _ from hl0); exact hl1
      | _ + 4, hl => exact hl)
    (fun n p L hm f h hl => by
      simp only [u54, List.mem_cons, Prod.mk.injEq, List.not_mem_nil, or_false] at hm
      rcases hm with ⟨rfl, rfl⟩ | ⟨rfl, rfl⟩ | ⟨rfl, rfl⟩ | ⟨rfl, rfl⟩
      · have hl : f54 (r54 c k (n + 1)) 0 f h := hl
        obtain ⟨l_0, c_0, e_0, hl0⟩ := asS_inv hl
        have hh := e54_0 c k (r54 c k n) f h l_0 c_0
        rw [fset_self e_0] at hh
        exact Eq.mpr hh hl0
      · have hl : f54 (r54 c k (n + 1)) 1 f h := hl
        obtain ⟨l_5, c_5, e_5, hl0⟩ := asS_inv hl
        obtain ⟨n_6, e_6, hl1⟩ := asI_inv hl0
        obtain ⟨n_48, e_48, hl3⟩ := asI_inv hl1
        obtain ⟨n_49, e_49, hl4⟩ := asI_inv hl3
        have hh := e54_1 c k (r54 c k n) f h l_5 c_5 n_6 (f 47) n_48 n_49
        rw [fset_self e_5] at hh
        rw [fset_self e_6] at hh
        rw [fset_self (rfl : f 47 = f 47)] at hh
        rw [fset_self e_48] at hh
        rw [fset_self e_49] at hh
        exact Eq.mpr hh hl4
      · have hl : f54 (r54 c k (n + 1)) 2 f h := hl
        obtain ⟨n_6, e_6, hl0⟩ := asI_inv hl
        have hh := e54_2 c k (r54 c k n) f h n_6
        rw [fset_self e_6] at hh
        exact Eq.mpr hh hl0
      · have hl : f54 (r54 c k (n + 1)) 3 f h := hl
        obtain ⟨l_0, c_0, e_0, hl0⟩ := asS_inv hl
        obtain ⟨l_5, c_5, e_5, hl1⟩ := asS_inv hl0
        have hh := e54_3 c k (r54 c k n) f h l_0 c_0 l_5 c_5
        rw [fset_self e_0] at hh
        rw [fset_self e_5] at hh
        exact Eq.mpr hh hl1
    ) (by simp [u54]) hg

theorem e58_0 (c : Caller Prop FT) (k : KV) (J : J58) (f : FT) (h : H) (l_0 : Nat) (c_0 : Nat) : chunkA env c q58 u58 (f58 J) d58 (retA env Go.Proofs.Tryz.f58.results.toList k) .root (fset f 0 (.str l_0 c_0)) h = s58_0 c k J l_0 c_0 h := by kernel_rfl
theorem e58_1 (c : Caller Prop FT) (k : KV) (J : J58) (f : FT) (h : H) (l_0 : Nat) (c_0 : Nat) (b_3 : Bool) (b_4 : Bool) (n_5 : Int) : chunkA env c q58 u58 (f58 J) d58 (retA env Go.Proofs.Tryz.f58.results.toList k) (.l (.r (.l (.r (.r .root))))) (fset (fset (fset (fset f 0 (.str l_0 c_0)) 3 (.bool b_3)) 4 (.bool b_4)) 5 (.int .i64 n_5)) h = s58_1 c k J l_0 c_0 b_3 b_4 n_5 h := by kernel_rfl
theorem e58_2 (c : Caller Prop FT) (k : KV) (J : J58) (f : FT) (h : H) (l_0 : Nat) (c_0 : Nat) (v_7 : AV) (n_8 : Int) (n_9 : Int) : chunkA env c q58 u58 (f58 J) d58 (retA env Go.Proofs.Tryz.f58.results.toList k) (.l (.r (.l (.r (.r (.r (.r (.l (.r (.l (.r (.r (.r .root))))))))))))) (fset (fset (fset (fset f 0 (.str l_0 c_0)) 7 v_7) 8 (.int .i64 n_8)) 9 (.int .i64 n_9)) h = s58_2 c k J l_0 c_0 v_7 n_8 n_9 h := by kernel_rfl
theorem e58_3 (c : Caller Prop FT) (k : KV) (J : J58) (f : FT) (h : H) (l_0 : Nat) (c_0 : Nat) (v_7 : AV) (n_9 : Int) (n_10 : Int) : chunkA env c q58 u58 (f58 J) d58 (retA env Go.Proofs.Tryz.f58.results.toList k) (.r (.r (.l (.r (.r (.l (.l (.r (.l (.l (.r (.l (.r (.r (.r (.r (.l (.r (.l (.r (.r (.r .root)))))))))))))))))))))) (fset (fset (fset (fset f 0 (.str l_0 c_0)) 7 v_7) 9 (.int .i64 n_9)) 10 (.int .u8 n_10)) h = s58_3 c k J l_0 c_0 v_7 n_9 n_10 h := by kernel_rfl
theorem e58_4 (c : Caller Prop FT) (k : KV) (J : J58) (f : FT) (h : H) (l_0 : Nat) (c_0 : Nat) (v_7 : AV) (n_8 : Int) (n_9 : Int) : chunkA env c q58 u58 (f58 J) d58 (retA env Go.Proofs.Tryz.f58.results.toList k) (.r (.r (.l (.l (.r (.l (.r (.r (.r (.r (.l (.r (.l (.r (.r (.r .root)))))))))))))))) (fset (fset (fset (fset f 0 (.str l_0 c_0)) 7 v_7) 8 (.int .i64 n_8)) 9 (.int .i64 n_9)) h = s58_4 c k J l_0 c_0 v_7 n_8 n_9 h := by kernel_rfl
theorem e58_5 (c : Caller Prop FT) (k : KV) (J : J58) (f : FT) (h : H) (l_0 : Nat) (c_0 : Nat) (b_3 : Bool) (b_4 : Bool) : chunkA env c q58 u58 (f58 J) d58 (retA env Go.Proofs.Tryz.f58.results.toList k) (.r (.r (.r .root))) (fset (fset (fset f 0 (.str l_0 c_0)) 3 (.bool b_3)) 4 (.bool b_4)) h = s58_5 c k J l_0 c_0 b_3 b_4 h := by kernel_rfl
theorem w58 {c : Caller Prop FT} (hc : CallOk Go.Proofs.Tryz.prog (CP env) G (fun p => p) c) {k : KV} {n : Nat} {args : List AV} {h : H} (hg : f58 (r58 c k n) 0 (finit args) h) : SW Go.Proofs.Tryz.prog G (.func 58) args h k :=
  fn_ok mixed envOk hc q58 Go.Proofs.Tryz.func58 rfl (by kernel_rfl) (by kernel_rfl) k u58 (fun n => f58 (r58 c k n))
    (fun L f h hl => by
      match L, hl with
      | 0, hl => obtain ⟨_, _, _, hl0⟩ := asS_inv (show _ from hl); exact hl0
      | 1, hl => obtain ⟨_, _, _, hl0⟩ := asS_inv (show _ from hl); obtain ⟨_, _, hl1⟩ := asB_inv (show _ from hl0); obtain ⟨_, _, hl2⟩ := asB_inv (show _ from hl1); obtain ⟨_, _, hl3⟩ := asI_inv (show _ from hl2); exact hl3
      | 2, hl => obtain ⟨_, _, _, hl0⟩ := asS_inv (show _ from hl); obtain ⟨_, _, hl1⟩ := asI_inv (show _ from hl0); obtain ⟨_, _, hl2⟩ := asI_inv (show _ from hl1); exact hl2
      | 3, hl => obtain ⟨_, _, _, hl0⟩ := asS_inv (show _ from hl); obtain ⟨_, _, hl1⟩ := asI_inv (show _ from hl0); obtain ⟨_, _, hl2⟩ := asI_inv (show _ from hl1); exact hl2
      | 4, hl => obtain ⟨_, _, _, hl0⟩ := asS_inv (show _ from hl); obtain ⟨_, _, hl1⟩ := asI_inv (show _ from hl0); obtain ⟨_, _, hl2⟩ := asI_inv (show _ from hl1); exact hl2
      | 5, hl => obtain ⟨_, _, _, hl0⟩ := asS_inv (show _ from hl); obtain ⟨_, _, hl1⟩ := asB_inv (show _ from hl0); obtain ⟨_, _, hl2⟩ := asB_inv (show _ from hl1); exact hl2
      | _ + 6, hl => exact hl)
    (fun n p L hm f h hl => by
      simp only [u58, List.mem_cons, Prod.mk.injEq, List.not_mem_nil, or_false] at hm
      rcases hm with ⟨rfl, rfl⟩ | ⟨rfl, rfl⟩ | ⟨rfl, rfl⟩ | ⟨rfl, rfl⟩ | ⟨rfl, rfl⟩ | ⟨rfl, rfl⟩
      · have hl : f58 (r58 c k (n + 1)) 0 f h := hl
        obtain ⟨l_0, c_0, e_0, hl0⟩ := asS_inv hl
        have hh := e58_0 c k (r58 c k n) f h l_0 c_0
        rw [fset_self e_0] at hh
        exact Eq.mpr hh hl0
      · have hl : f58 (r58 c k (n + 1)) 1 f h := hl
        obtain ⟨l_0, c_0, e_0, hl0⟩ := asS_inv hl
        obtain ⟨b_3, e_3, hl1⟩ := asB_inv hl0
        obtain ⟨b_4, e_4, hl2⟩ := asB_inv hl1
        obtain ⟨n_5, e_5, hl3⟩ := asI_inv hl2
        have hh := e58_1 c k (r58 c k n) f h l_0 c_0 b_3 b_4 n_5
        rw [fset_self e_0] at hh
        rw [fset_self e_3] at hh
        rw [fset_self e_4] at hh
        rw [fset_self e_5] at hh
        exact Eq.mpr hh hl3
      · have hl : f58 (r58 c k (n + 1)) 2 f h := hl
        obtain ⟨l_0, c_0, e_0, hl0⟩ := asS_inv hl
        obtain ⟨n_8, e_8, hl2⟩ := asI_inv hl0
        obtain ⟨n_9, e_9, hl3⟩ := asI_inv hl2
        have hh := e58_2 c k (r58 c k n) f h l_0 c_0 (f 7) n_8 n_9
        rw [fset_self e_0] at hh
        rw [fset_self (rfl : f 7 = f 7)] at hh
        rw [fset_self e_8] at hh
        rw [fset_self e_9] at hh
        exact Eq.mpr hh hl3
      · have hl : f58 (r58 c k (n + 1)) 3 f h := hl
        obtain ⟨l_0, c_0, e_0, hl0⟩ := asS_inv hl
        obtain ⟨n_9, e_9, hl2⟩ := asI_inv hl0
        obtain ⟨n_10, e_10, hl3⟩ := asI_inv hl2
        have hh := e58_3 c k (r58 c k n) f h l_0 c_0 (f 7) n_9 n_10
        rw [fset_self e_0] at hh
        rw [fset_self (rfl : f 7 = f 7)] at hh
        rw [fset_self e_9] at hh
        rw [fset_self e_10] at hh
        exact Eq.mpr hh hl3
      · have hl : f58 (r58 c k (n + 1)) 4 f h := hl
        obtain ⟨l_0, c_0, e_0, hl0⟩ := asS_inv hl
        obtain ⟨n_8, e_8, hl2⟩ := asI_inv hl0
        obtain ⟨n_9, e_9, hl3⟩ := asI_inv hl2
        have hh := e58_4 c k (r58 c k n) f h l_0 c_0 (f 7) n_8 n_9
        rw [fset_self e_0] at hh
        rw [fset_self (rfl : f 7 = f 7)] at hh
        rw [fset_self e_8] at hh
        rw [fset_self e_9] at hh
        exact Eq.mpr hh hl3
      · have hl : f58 (r58 c k (n + 1)) 5 f h := hl
        obtain ⟨l_0, c_0, e_0, hl0⟩ := asS_inv hl
        obtain ⟨b_3, e_3, hl1⟩ := asB_inv hl0
        obtain ⟨b_4, e_4, hl2⟩ := asB_inv hl1
        have hh := e58_5 c k (r58 c k n) f h l_0 c_0 b_3 b_4
        rw [fset_self e_0] at hh
        rw [fset_self e_3] at hh
        rw [fset_self e_4] at hh
        exact Eq.mpr hh hl2
    ) (by simp [u58]) hg

theorem e60_0 (c : Caller Prop FT) (k : KV) (J : J60) (f : FT) (h : H) (l_0 : Nat) (c_0 : Nat) (l_1 : Nat) (c_1 : Nat) : chunkA env c q60 u60 (f60 J) d60 (retA env Go.Proofs.Tryz.f60.results.toList k) .root (fset (fset f 0 (.str l_0 c_0)) 1 (.str l_1 c_1)) h = s60_0 c k J l_0 c_0 l_1 c_1 h := by kernel_rfl
theorem w60 {c : Caller Prop FT} (hc : CallOk Go.Proofs.Tryz.prog (CP env) G (fun p => p) c) {k : KV} {n : Nat} {args : List AV} {h : H} (hg : f60 (r60 c k n) 0 (finit args) h) : SW Go.Proofs.Tryz.prog G (.func 60) args h k :=
  fn_ok mixed envOk hc q60 Go.Proofs.Tryz.func60 rfl (by kernel_rfl) (by kernel_rfl) k u60 (fun n => f60 (r60 c k n))
    (fun L f h hl => by
      match L, hl with
      | 0, hl => obtain ⟨_, _, _, hl0⟩ := asS_inv (show _ from hl); obtain ⟨_, _, _, hl1⟩ := asS_inv (show _ from hl0); exact hl1
      | _ + 1, hl => exact hl)
    (fun n p L hm f h hl => by
      simp only [u60, List.mem_cons, Prod.mk.injEq, List.not_mem_nil, or_false] at hm
      rcases hm with ⟨rfl, rfl⟩
      · have hl : f60 (r60 c k (n + 1)) 0 f h := hl
        obtain ⟨l_0, c_0, e_0, hl0⟩ := asS_inv hl
        obtain ⟨l_1, c_1, e_1, hl1⟩ := asS_inv hl0
        have hh := e60_0 c k (r60 c k n) f h l_0 c_0 l_1 c_1
        rw [fset_self e_0] at hh
        rw [fset_self e_1] at hh
        exact Eq.mpr hh hl1
    ) (by simp [u60]) hg

theorem e61_0 (c : Caller Prop FT) (k : KV) (J : J61) (f : FT) (h : H) (n_0 : Int) : chunkA env c q61 u61 (f61 J) d61 (retA env Go.Proofs.Tryz.f61.results.toList k) .root (fset f 0 (.int .u8 n_0)) h = s61_0 c k J n_0 h := by kernel_rfl
theorem e61_1 (c : Caller Prop FT) (k : KV) (J : J61) (f : FT) (h : H) (n_0 : Int) (n_4 : Int) : chunkA env c q61 u61 (f61 J) d61 (retA env Go.Proofs.Tryz.f61.results.toList k) (.l (.r (.l (.r .root)))) (fset (fset f 0 (.int .u8 n_0)) 4 (.int .i64 n_4)) h = s61_1 c k J n_0 n_4 h := by kernel_rfl
theorem w61 {c : Caller Prop FT} (hc : CallOk Go.Proofs.Tryz.prog (CP env) G (fun p => p) c) {k : KV} {n : Nat} {args : List AV} {h : H} (hg : f61 (r61 c k n) 0 (finit args) h) : SW Go.Proofs.Tryz.prog G (.func 61) args h k :=
  fn_ok mixed envOk hc q61 Go.Proofs.Tryz.func61 rfl (by kernel_rfl) (by kernel_rfl) k u61 (fun n => f61 (r61 c k n))
    (fun L f h hl => by
      match L, hl with
      | 0, hl => obtain ⟨_, _, hl0⟩ := asI_inv (show _ from hl); exact hl0
      | 1, hl => obtain ⟨_, _, hl0⟩ := asI_inv (show _ from hl); obtain ⟨_, _, hl1⟩ := asI_inv (show _ from hl0); exact hl1
      | _ + 2, hl => exact hl)
    (fun n p L hm f h hl => by
      simp only [u61, List.mem_cons, Prod.mk.injEq, List.not_mem_nil, or_false] at hm
      rcases hm with ⟨rfl, rfl⟩ | ⟨rfl, rfl⟩
      · have hl : f61 (r61 c k (n + 1)) 0 f h := hl
        obtain ⟨n_0, e_0, hl0⟩ := asI_inv hl
        have hh := e61_0 c k (r61 c k n) f h n_0
        rw [fset_self e_0] at hh
        exact Eq.mpr hh hl0
      · have hl : f61 (r61 c k (n + 1)) 1 f h := hl
        obtain ⟨n_0, e_0, hl0⟩ := asI_inv hl
        obtain ⟨n_4, e_4, hl1⟩ := asI_inv hl0
        have hh := e61_1 c k (r61 c k n) f h n_0 n_4
        rw [fset_self e_0] at hh
        rw [fset_self e_4] at hh
        exact Eq.mpr hh hl1
    ) (by simp [u61]) hg

theorem e63_0 (c : Caller Prop FT) (k : KV) (J : J63) (f : FT) (h : H) (v_0 : AV) (n_1 : Int) : chunkA env c q63 u63 (f63 J) d63 (retA env Go.Proofs.Tryz.f63.results.toList k) .root (fset (fset f 0 v_0) 1 (.int .u8 n_1)) h = s63_0 c k J v_0 n_1 h := by kernel_rfl
theorem w63 {c : Caller Prop FT} (hc : CallOk Go.Proofs.Tryz.prog (CP env) G (fun p => p) c) {k : KV} {n : Nat} {args : List AV} {h : H} (hg : f63 (r63 c k n) 0 (finit args) h) : SW Go.Proofs.Tryz.prog G (.func 63) args h k :=
  fn_ok mixed envOk hc q63 Go.Proofs.Tryz.func63 rfl (by kernel_rfl) (by kernel_rfl) k u63 (fun n => f63 (r63 c k n))
    (fun L f h hl => by
      match L, hl with
      | 0, hl => obtain ⟨_, _, hl0⟩ := asI_inv (show _ from hl); exact hl0
      | _ + 1, hl => exact hl)
    (fun n p L hm f h hl => by
      simp only [u63, List.mem_cons, Prod.mk.injEq, List.not_mem_nil, or_false] at hm
      rcases hm with ⟨rfl, rfl⟩
      · have hl : f63 (r63 c k (n + 1)) 0 f h := hl
        obtain ⟨n_1, e_1, hl1⟩ := asI_inv hl
        have hh := e63_0 c k (r63 c k n) f h (f 0) n_1
        rw [fset_self (rfl : f 0 = f 0)] at hh
        rw [fset_self e_1] at hh
        exact Eq.mpr hh hl1
    ) (by simp [u63]) hg

theorem e72_0 (c : Caller Prop FT) (k : KV) (J : J72) (f : FT) (h : H) (l_0 : Nat) (c_0 : Nat) (n_1 : Int) : chunkA env c q72 u72 (f72 J) d72 (retA env Go.Proofs.Tryz.f72.results.toList k) .root (fset (fset f 0 (.str l_0 c_0)) 1 (.int .u8 n_1)) h = s72_0 c k J l_0 c_0 n_1 h := by kernel_rfl
theorem w72 {c : Caller Prop FT} (hc : CallOk Go.Proofs.Tryz.prog (CP env) G (fun p => p) c) {k : KV} {n : Nat} {args : List AV} {h : H} (hg : f72 (r72 c k n) 0 (finit args) h) : SW Go.Proofs.Tryz.prog G (.func 72) args h k :=
  fn_ok mixed envOk hc q72 Go.Proofs.Tryz.func72 rfl (by kernel_rfl) (by kernel_rfl) k u72 (fun n => f72 (r72 c k n))
    (fun L f h hl => by
      match L, hl with
      | 0, hl => obtain ⟨_, _, _, hl0⟩ := asS_inv (show _ from hl); obtain ⟨_, _, hl1⟩ := asI_inv (show _ from hl0); exact hl1
      | _ + 1, hl => exact hl)
    (fun n p L hm f h hl => by
      simp only [u72, List.mem_cons, Prod.mk.injEq, List.not_mem_nil, or_false] at hm
      rcases hm with ⟨rfl, rfl⟩
      · have hl : f72 (r72 c k (n + 1)) 0 f h := hl
        obtain ⟨l_0, c_0, e_0, hl0⟩ := asS_inv hl
        obtain ⟨n_1, e_1, hl1⟩ := asI_inv hl0
        have hh := e72_0 c k (r72 c k n) f h l_0 c_0 n_1
        rw [fset_self e_0] at hh
        rw [fset_self e_1] at hh
        exact Eq.mpr hh hl1
    ) (by simp [u72]) hg

theorem e73_0 (c : Caller Prop FT) (k : KV) (J : J73) (f : FT) (h : H) (l_0 : Nat) (c_0 : Nat) (l_1 : Nat) (c_1 : Nat) : chunkA env c q73 u73 (f73 J) d73 (retA env Go.Proofs.Tryz.f73.results.toList k) .root (fset (fset f 0 (.str l_0 c_0)) 1 (.str l_1 c_1)) h = s73_0 c k J l_0 c_0 l_1 c_1 h := by kernel_rfl
theorem w73 {c : Caller Prop FT} (hc : CallOk Go.Proofs.Tryz.prog (CP env) G (fun p => p) c) {k : KV} {n : Nat} {args : List AV} {h : H} (hg : f73 (r73 c k n) 0 (finit args) h) : SW Go.Proofs.Tryz.prog G (.func 73) args h k :=
  fn_ok mixed envOk hc q73 Go.Proofs.Tryz.func73 rfl (by kernel_rfl) (by kernel_rfl) k u73 (fun n => f73 (r73 c k n))
    (fun L f h hl => by
      match L, hl with
      | 0, hl => obtain ⟨_, _, _, hl0⟩ := asS_inv (show _ from hl); obtain ⟨_, _, _, hl1⟩ := asS_inv (show _ from hl0); exact hl1
      | _ + 1, hl => exact hl)
    (fun n p L hm f h hl => by
      simp only [u73, List.mem_cons, Prod.mk.injEq, List.not_mem_nil, or_false] at hm
      rcases hm with ⟨rfl, rfl⟩
      · have hl : f73 (r73 c k (n + 1)) 0 f h := hl
        obtain ⟨l_0, c_0, e_0, hl0⟩ := asS_inv hl
        obtain ⟨l_1, c_1, e_1, hl1⟩ := asS_inv hl0
        have hh := e73_0 c k (r73 c k n) f h l_0 c_0 l_1 c_1
        rw [fset_self e_0] at hh
        rw [fset_self e_1] at hh
        exact Eq.mpr hh hl1
    ) (by simp [u73]) hg

theorem e74_0 (c : Caller Prop FT) (k : KV) (J : J74) (f : FT) (h : H) (v_0 : AV) (n_1 : Int) : chunkA env c q74 u74 (f74 J) d74 (retA env Go.Proofs.Tryz.f74.results.toList k) .root (fset (fset f 0 v_0) 1 (.int .i64 n_1)) h = s74_0 c k J v_0 n_1 h := by kernel_rfl
theorem e74_1 (c : Caller Prop FT) (k : KV) (J : J74) (f : FT) (h : H) (v_0 : AV) (n_1 : Int) : chunkA env c q74 u74 (f74 J) d74 (retA env Go.Proofs.Tryz.f74.results.toList k) (.r (.r .root)) (fset (fset f 0 v_0) 1 (.int .i64 n_1)) h = s74_1 c k J v_0 n_1 h := by kernel_rfl
theorem w74 {c : Caller Prop FT} (hc : CallOk Go.Proofs.Tryz.prog (CP env) G (fun p => p) c) {k : KV} {n : Nat} {args : List AV} {h : H} (hg : f74 (r74 c k n) 0 (finit args) h) : SW Go.Proofs.Tryz.prog G (.func 74) args h k :=
  fn_ok mixed envOk hc q74 Go.Proofs.Tryz.func74 rfl (by kernel_rfl) (by kernel_rfl) k u74 (fun n => f74 (r74 c k n))
    (fun L f h hl => by
      match L, hl with
      | 0, hl => obtain ⟨_, _, hl0⟩ := asI_inv (show _ from hl); exact hl0
      | 1, hl => obtain ⟨_, _, hl0⟩ := asI_inv (show _ from hl); exact hl0
      | _ + 2, hl => exact hl)
    (fun n p L hm f h hl => by
      simp only [u74, List.mem_cons, Prod.mk.injEq, List.not_mem_nil, or_false] at hm
      rcases hm with ⟨rfl, rfl⟩ | ⟨rfl, rfl⟩
      · have hl : f74 (r74 c k (n + 1)) 0 f h := hl
        obtain ⟨n_1, e_1, hl1⟩ := asI_inv hl
        have hh := e74_0 c k (r74 c k n) f h (f 0) n_1
        rw [fset_self (rfl : f 0 = f 0)] at hh
        rw [fset_self e_1] at hh
        exact Eq.mpr hh hl1
      · have hl : f74 (r74 c k (n + 1)) 1 f h := hl
        obtain ⟨n_1, e_1, hl1⟩ := asI_inv hl
        have hh := e74_1 c k (r74 c k n) f h (f 0) n_1
        rw [fset_self (rfl : f 0 = f 0)] at hh
        rw [fset_self e_1] at hh
        exact Eq.mpr hh hl1
    ) (by simp [u74]) hg

theorem e82_0 (c : Caller Prop FT) (k : KV) (J : J82) (f : FT) (h : H) (l_0 : Nat) (c_0 : Nat) (n_1 : Int) (n_2 : Int) : chunkA env c q82 u82 (f82 J) d82 (retA env Go.Proofs.Tryz.f82.results.toList k) .root (fset (fset (fset f 0 (.str l_0 c_0)) 1 (.int .i64 n_1)) 2 (.int .i64 n_2)) h = s82_0 c k J l_0 c_0 n_1 n_2 h := by kernel_rfl
theorem e82_1 (c : Caller Prop FT) (k : KV) (J : J82) (f : FT) (h : H) (n_1 : Int) (b_8 : Bool) (l_9 : Nat) (c_9 : Nat) (n_10 : Int) (n_11 : Int) (b_12 : Bool) (n_13 : Int) (v_99 : AV) (n_100 : Int) (n_101 : Int) : chunkA env c q82 u82 (f82 J) d82 (retA env Go.Proofs.Tryz.f82.results.toList k) (.l (.r (.l (.r (.r (.r (.r (.r (.r (.r (.r (.r (.r (.r .root)))))))))))))) (fset (fset (fset (fset (fset (fset (fset (fset (fset (fset f 1 (.int .i64 n_1)) 8 (.bool b_8)) 9 (.str l_9 c_9)) 10 (.int .u64 n_10)) 11 (.int .u64 n_11)) 12 (.bool b_12)) 13 (.int .u64 n_13)) 99 v_99) 100 (.int .i64 n_100)) 101 (.int .i64 n_101)) h = s82_1 c k J n_1 b_8 l_9 c_9 n_10 n_11 b_12 n_13 v_99 n_100 n_101 h := by kernel_rfl
theorem e82_2 (c : Caller Prop FT) (k : KV) (J : J82) (f : FT) (h : H) (n_1 : Int) (b_8 : Bool) (l_9 : Nat) (c_9 : Nat) (n_10 : Int) (n_11 : Int) (b_12 : Bool) (n_13 : Int) (n_16 : Int) (v_99 : AV) (n_100 : Int) (n_101 : Int) : chunkA env c q82 u82 (f82 J) d82 (retA env Go.Proofs.Tryz.f82.results.toList k) (.r (.r (.r (.l (.l (.r (.r (.l (.l (.r (.l (.r (.r (.r (.r (.r (.r (.r (.r (.r (.r (.r .root)))))))))))))))))))))) (fset (fset (fset (fset (fset (fset (fset (fset (fset (fset (fset f 1 (.int .i64 n_1)) 8 (.bool b_8)) 9 (.str l_9 c_9)) 10 (.int .u64 n_10)) 11 (.int .u64 n_11)) 12 (.bool b_12)) 13 (.int .u64 n_13)) 16 (.int .u8 n_16)) 99 v_99) 100 (.int .i64 n_100)) 101 (.int .i64 n_101)) h = s82_2 c k J n_1 b_8 l_9 c_9 n_10 n_11 b_12 n_13 n_16 v_99 n_100 n_101 h := by kernel_rfl
theorem e82_3 (c : Caller Prop FT) (k : KV) (J : J82) (f : FT) (h : H) (l_0 : Nat) (c_0 : Nat) (n_1 : Int) (n_2 : Int) (b_8 : Bool) (l_9 : Nat) (c_9 : Nat) (n_10 : Int) : chunkA env c q82 u82 (f82 J) d82 (retA env Go.Proofs.Tryz.f82.results.toList k) (.r (.r (.r (.r (.r (.r (.r (.r .root)))))))) (fset (fset (fset (fset (fset (fset f 0 (.str l_0 c_0)) 1 (.int .i64 n_1)) 2 (.int .i64 n_2)) 8 (.bool b_8)) 9 (.str l_9 c_9)) 10 (.int .u64 n_10)) h = s82_3 c k J l_0 c_0 n_1 n_2 b_8 l_9 c_9 n_10 h := by kernel_rfl
theorem e82_4 (c : Caller Prop FT) (k : KV) (J : J82) (f : FT) (h : H) (l_0 : Nat) (c_0 : Nat) (n_1 : Int) (n_2 : Int) (b_8 : Bool) (l_9 : Nat) (c_9 : Nat) : chunkA env c q82 u82 (f82 J) d82 (retA env Go.Proofs.Tryz.f82.results.toList k) (.r (.r (.r (.r (.r (.r .root)))))) (fset (fset (fset (fset (fset f 0 (.str l_0 c_0)) 1 (.int .i64 n_1)) 2 (.int .i64 n_2)) 8 (.bool b_8)) 9 (.str l_9 c_9)) h = s82_4 c k J l_0 c_0 n_1 n_2 b_8 l_9 c_9 h := by kernel_rfl
theorem e82_5 (c : Caller Prop FT) (k : KV) (J : J82) (f : FT) (h : H) (l_0 : Nat) (c_0 : Nat) (n_1 : Int) (n_2 : Int) (b_8 : Bool) (l_9 : Nat) (c_9 : Nat) : chunkA env c q82 u82 (f82 J) d82 (retA env Go.Proofs.Tryz.f82.results.toList k) (.r (.r (.r (.r (.r .root))))) (fset (fset (fset (fset (fset f 0 (.str l_0 c_0)) 1 (.int .i64 n_1)) 2 (.int .i64 n_2)) 8 (.bool b_8)) 9 (.str l_9 c_9)) h = s82_5 c k J l_0 c_0 n_1 n_2 b_8 l_9 c_9 h := by kernel_rfl
theorem w82 {c : Caller Prop FT} (hc : CallOk Go.Proofs.Tryz.prog (CP env) G (fun p => p) c) {k : KV} {n : Nat} {args : List AV} {h : H} (hg : f82 (r82 c k n) 0 (finit args) h) : SW Go.Proofs.Tryz.prog G (.func 82) args h k :=
  fn_ok mixed envOk hc q82 Go.Proofs.Tryz.func82 rfl (by kernel_rfl) (by kernel_rfl) k u82 (fun n => f82 (r82 c k n))
    (fun L f h hl => by
      match L, hl with
      | 0, hl => obtain ⟨_, _, _, hl0⟩ := asS_inv (show _ from hl); obtain ⟨_, _, hl1⟩ := asI_inv (show _ from hl0); obtain ⟨_, _, hl2⟩ := asI_inv (show _ from hl1); exact hl2
      | 1, hl => obtain ⟨_, _, hl0⟩ := asI_inv (show _ from hl); obtain ⟨_, _, hl1⟩ := asB_inv (show _ from hl0); obtain ⟨_, _, _, hl2⟩ := asS_inv (show _ from hl1); obtain ⟨_, _, hl3⟩ := asI_inv (show _ from hl2); obtain ⟨_, _, hl4⟩ := asI_inv (show _ from hl3); obtain ⟨_, _, hl5⟩ := asB_inv (show _ from hl4); obtain ⟨_, _, hl6⟩ := asI_inv (show _ from hl5); obtain ⟨_, _, hl7⟩ := asI_inv (show _ from hl6); obtain ⟨_, _, hl8⟩ := asI_inv (show _ from hl7); exact hl8
      | 2, hl => obtain ⟨_, _, hl0⟩ := asI_inv (show _ from hl); obtain ⟨_, _, hl1⟩ := asB_inv (show _ from hl0); obtain ⟨_, _, _, hl2⟩ := asS_inv (show _ from hl1); obtain ⟨_, _, hl3⟩ := asI_inv (show _ from hl2); obtain ⟨_, _, hl4⟩ := asI_inv (show _ from hl3); obtain ⟨_, _, hl5⟩ := asB_inv (show _ from hl4); obtain ⟨_, _, hl6⟩ := asI_inv (show _ from hl5); obtain ⟨_, _, hl7⟩ := asI_inv (show _ from hl6); obtain ⟨_, _, hl8⟩ := asI_inv (show _ from hl7); obtain ⟨_, _, hl9⟩ := asI_inv (show _ from hl8); exact hl9
      | 3, hl => obtain ⟨_, _, _, hl0⟩ := asS_inv (show _ from hl); obtain ⟨_, _, hl1⟩ := asI_inv (show _ from hl0); obtain ⟨_, _, hl2⟩ := asI_inv (show _ from hl1); obtain ⟨_, _, hl3⟩ := asB_inv (show _ from hl2); obtain ⟨_, _, _, hl4⟩ := asS_inv (show _ from hl3); obtain ⟨_, _, hl5⟩ := asI_inv (show _ from hl4); exact hl5
      | 4, hl => obtain ⟨_, _, _, hl0⟩ := asS_inv (show _ from hl); obtain ⟨_, _, hl1⟩ := asI_inv (show _ from hl0); obtain ⟨_, _, hl2⟩ := asI_inv (show _ from hl1); obtain ⟨_, _, hl3⟩ := asB_inv (show _ from hl2); obtain ⟨_, _, _, hl4⟩ := asS_inv (show _ from hl3); exact hl4
      | 5, hl => obtain ⟨_, _, _, hl0⟩ := asS_inv (show _ from hl); obtain ⟨_, _, hl1⟩ := asI_inv (show _ from hl0); obtain ⟨_, _, hl2⟩ := asI_inv (show _ from hl1); obtain ⟨_, _, hl3⟩ := asB_inv (show _ from hl2); obtain ⟨_, _, _, hl4⟩ := asS_inv (show _ from hl3); exact hl4
      | _ + 6, hl => exact hl)
    (fun n p L hm f h hl => by
      simp only [u82, List.mem_cons, Prod.mk.injEq, List.not_mem_nil, or_false] at hm
      rcases hm with ⟨rfl, rfl⟩ | ⟨rfl, rfl⟩ | ⟨rfl, rfl⟩ | ⟨rfl, rfl⟩ | ⟨rfl, rfl⟩ | ⟨rfl, rfl⟩
      · have hl : f82 (r82 c k (n + 1)) 0 f h := hl
        obtain ⟨l_0, c_0, e_0, hl0⟩ := asS_inv hl
        obtain ⟨n_1, e_1, hl1⟩ := asI_inv hl0
        obtain ⟨n_2, e_2, hl2⟩ := asI_inv hl1
        have hh := e82_0 c k (r82 c k n) f h l_0 c_0 n_1 n_2
        rw [fset_self e_0] at hh
        rw [fset_self e_1] at hh
        rw [fset_self e_2] at hh
        exact Eq.mpr hh hl2
      · have hl : f82 (r82 c k (n + 1)) 1 f h := hl
        obtain ⟨n_1, e_1, hl0⟩ := asI_inv hl
        obtain ⟨b_8, e_8, hl1⟩ := asB_inv hl0
        obtain ⟨l_9, c_9, e_9, hl2⟩ := asS_inv hl1
        obtain ⟨n_10, e_10, hl3⟩ := asI_inv hl2
        obtain ⟨n_11, e_11, hl4⟩ := asI_inv hl3
        obtain ⟨b_12, e_12, hl5⟩ := asB_inv hl4
        obtain ⟨n_13, e_13, hl6⟩ := asI_inv hl5
        obtain ⟨n_100, e_100, hl8⟩ := asI_inv hl6
        obtain ⟨n_101, e_101, hl9⟩ := asI_inv hl8
        have hh := e82_1 c k (r82 c k n) f h n_1 b_8 l_9 c_9 n_10 n_11 b_12 n_13 (f 99) n_100 n_101
        rw [fset_self e_1] at hh
        rw [fset_self e_8] at hh
        rw [fset_self e_9] at hh
        rw [fset_self e_10] at hh
        rw [fset_self e_11] at hh
        rw [fset_self e_12] at hh
        rw [fset_self e_13] at hh
        rw [fset_self (rfl : f 99 = f 99)] at hh
        rw [fset_self e_100] at hh
        rw [fset_self e_101] at hh
        exact Eq.mpr hh hl9
      · have hl : f82 (r82 c k (n + 1)) 2 f h := hl
        obtain ⟨n_1, e_1, hl0⟩ := asI_inv hl
        obtain ⟨b_8, e_8, hl1⟩ := asB_inv hl0
        obtain ⟨l_9, c_9, e_9, hl2⟩ := asS_inv hl1
        obtain ⟨n_10, e_10, hl3⟩ := asI_inv hl2
        obtain ⟨n_11, e_11, hl4⟩ := asI_inv hl3
        obtain ⟨b_12, e_12, hl5⟩ := asB_inv hl4
        obtain ⟨n_13, e_13, hl6⟩ := asI_inv hl5
        obtain ⟨n_16, e_16, hl7⟩ := asI_inv hl6
        obtain ⟨n_100, e_100, hl9⟩ := asI_inv hl7
        obtain ⟨n_101, e_101, hl10⟩ := asI_inv hl9
        have hh := e82_2 c k (r82 c k n) f h n_1 b_8 l_9 c_9 n_10 n_11 b_12 n_13 n_16 (f 99) n_100 n_101
        rw [fset_self e_1] at hh
        rw [fset_self e_8] at hh
        rw [fset_self e_9] at hh
        rw [fset_self e_10] at hh
        rw [fset_self e_11] at hh
        rw [fset_self e_12] at hh
        rw [fset_self e_13] at hh
        rw [fset_self e_16] at hh
        rw [fset_self (rfl : f 99 = f 99)] at hh
        rw [fset_self e_100] at hh
        rw [fset_self e_101] at hh
        exact Eq.mpr hh hl10
      · have hl : f82 (r82 c k (n + 1)) 3 f h := hl
        obtain ⟨l_0, c_0, e_0, hl0⟩ := asS_inv hl
        obtain ⟨n_1, e_1, hl1⟩ := asI_inv hl0
        obtain ⟨n_2, e_2, hl2⟩ := asI_inv hl1
        obtain ⟨b_8, e_8, hl3⟩ := asB_inv hl2
        obtain ⟨l_9, c_9, e_9, hl4⟩ := asS_inv hl3
        obtain ⟨n_10, e_10, hl5⟩ := asI_inv hl4
        have hh := e82_3 c k (r82 c k n) f h l_0 c_0 n_1 n_2 b_8 l_9 c_9 n_10
        rw [fset_self e_0] at hh
        rw [fset_self e_1] at hh
        rw [fset_self e_2] at hh
        rw [fset_self e_8] at hh
        rw [fset_self e_9] at hh
        rw [fset_self e_10] at hh
        exact Eq.mpr hh hl5
      · have hl : f82 (r82 c k (n + 1)) 4 f h := hl
        obtain ⟨l_0, c_0, e_0, hl0⟩ := asS_inv hl
        obtain ⟨n_1, e_1, hl1⟩ := asI_inv hl0
        obtain ⟨n_2, e_2, hl2⟩ := asI_inv hl1
        obtain ⟨b_8, e_8, hl3⟩ := asB_inv hl2
        obtain ⟨l_9, c_9, e_9, hl4⟩ := asS_inv hl3
        have hh := e82_4 c k (r82 c k n) f h l_0 c_0 n_1 n_2 b_8 l_9 c_9
        rw [fset_self e_0] at hh
        rw [fset_self e_1] at hh
        rw [fset_self e_2] at hh
        rw [fset_self e_8] at hh
        rw [fset_self e_9] at hh
        exact Eq.mpr hh hl4
      · have hl : f82 (r82 c k (n + 1)) 5 f h := hl
        obtain ⟨l_0, c_0, e_0, hl0⟩ := asS_inv hl
        obtain ⟨n_1, e_1, hl1⟩ := asI_inv hl0
        obtain ⟨n_2, e_2, hl2⟩ := asI_inv hl1
        obtain ⟨b_8, e_8, hl3⟩ := asB_inv hl2
        obtain ⟨l_9, c_9, e_9, hl4⟩ := asS_inv hl3
        have hh := e82_5 c k (r82 c k n) f h l_0 c_0 n_1 n_2 b_8 l_9 c_9
        rw [fset_self e_0] at hh
        rw [fset_self e_1] at hh
        rw [fset_self e_2] at hh
        rw [fset_self e_8] at hh
        rw [fset_self e_9] at hh
        exact Eq.mpr hh hl4
    ) (by simp [u82]) hg

theorem e87_0 (c : Caller Prop FT) (k : KV) (J : J87) (f : FT) (h : H) (v_0 : AV) (n_1 : Int) : chunkA env c q87 u87 (f87 J) d87 (retA env Go.Proofs.Tryz.f87.results.toList k) .root (fset (fset f 0 v_0) 1 (.int .i64 n_1)) h = s87_0 c k J v_0 n_1 h := by kernel_rfl
theorem w87 {c : Caller Prop FT} (hc : CallOk Go.Proofs.Tryz.prog (CP env) G (fun p => p) c) {k : KV} {n : Nat} {args : List AV} {h : H} (hg : f87 (r87 c k n) 0 (finit args) h) : SW Go.Proofs.Tryz.prog G (.func 87) args h k :=
  fn_ok mixed envOk hc q87 Go.Proofs.Tryz.func87 rfl (by kernel_rfl) (by kernel_rfl) k u87 (fun n => f87 (r87 c k n))
    (fun L f h hl => by
      match L, hl with
      | 0, hl => obtain ⟨_, _, hl0⟩ := asI_inv (show _ from hl); exact hl0
      | _ + 1, hl => exact hl)
    (fun n p L hm f h hl => by
      simp only [u87, List.mem_cons, Prod.mk.injEq, List.not_mem_nil, or_false] at hm
      rcases hm with ⟨rfl, rfl⟩
      · have hl : f87 (r87 c k (n + 1)) 0 f h := hl
        obtain ⟨n_1, e_1, hl1⟩ := asI_inv hl
        have hh := e87_0 c k (r87 c k n) f h (f 0) n_1
        rw [fset_self (rfl : f 0 = f 0)] at hh
        rw [fset_self e_1] at hh
        exact Eq.mpr hh hl1
    ) (by simp [u87]) hg

theorem e143_0 (c : Caller Prop FT) (k : KV) (J : J143) (f : FT) (h : H) : chunkA env c q143 u143 (f143 J) d143 (retA env Go.Proofs.Tryz.f143.results.toList k) .root f h = s143_0 c k J  h := by kernel_rfl
theorem w143 {c : Caller Prop FT} (hc : CallOk Go.Proofs.Tryz.prog (CP env) G (fun p => p) c) {k : KV} {n : Nat} {args : List AV} {h : H} (hg : f143 (r143 c k n) 0 (finit args) h) : SW Go.Proofs.Tryz.prog G (.func 143) args h k :=
  fn_ok mixed envOk hc q143 Go.Proofs.Tryz.func143 rfl (by kernel_rfl) (by kernel_rfl) k u143 (fun n => f143 (r143 c k n))
    (fun L f h hl => by
      match L, hl with
      | 0, hl => exact hl
      | _ + 1, hl => exact hl)
    (fun n p L hm f h hl => by
      simp only [u143, List.mem_cons, Prod.mk.injEq, List.not_mem_nil, or_false] at hm
      rcases hm with ⟨rfl, rfl⟩
      · have hl : f143 (r143 c k (n + 1)) 0 f h := hl
        have hh := e143_0 c k (r143 c k n) f h 
        exact Eq.mpr hh hl
    ) (by simp [u143]) hg

end Go.Den
