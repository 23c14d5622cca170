/-
  A part of the proof: the pieces are what the program does.
-/
import Derived.Test.YtdpnnajfmkpfjaaGreatDoorRunA
import Derived.KernelRfl
namespace Go.Den
set_option maxRecDepth 100000
theorem e5_0 (c : Caller Prop FT) (k : KV) (J : J5) (f : FT) (h : H) : chunkA env c q5 u5 (f5 J) d5 (retA env Go.Proofs.Tryz.f5.results.toList k) .root f h = s5_0 c k J  h := by kernel_rfl
theorem w5 {c : Caller Prop FT} (hc : CallOk Go.Proofs.Tryz.prog (CP env) G (fun p => p) c) {k : KV} {n : Nat} {args : List AV} {h : H} (hg : f5 (r5 c k n) 0 (finit args) h) : SW Go.Proofs.Tryz.prog G (.func 5) args h k :=
  fn_ok mixed envOk hc q5 Go.Proofs.Tryz.func5 rfl (by kernel_rfl) (by kernel_rfl) k u5 (fun n => f5 (r5 c k n))
    (fun L f h hl => by
      match L, hl with
      | 0, hl => exact hl
      | _ + 1, hl => exact hl)
    (fun n p L hm f h hl => by
      simp only [u5, List.mem_cons, Prod.mk.injEq, List.not_mem_nil, or_false] at hm
      rcases hm with ⟨rfl, rfl⟩
      · have hl : f5 (r5 c k (n + 1)) 0 f h := hl
        have hh := e5_0 c k (r5 c k n) f h 
        exact Eq.mpr hh hl
    ) (by simp [u5]) hg

theorem e6_0 (c : Caller Prop FT) (k : KV) (J : J6) (f : FT) (h : H) (v_0 : AV) : chunkA env c q6 u6 (f6 J) d6 (retA env Go.Proofs.Tryz.f6.results.toList k) .root (fset f 0 v_0) h = s6_0 c k J v_0 h := by kernel_rfl
theorem e6_1 (c : Caller Prop FT) (k : KV) (J : J6) (f : FT) (h : H) (v_2 : AV) (v_4 : AV) (v_44 : AV) (n_45 : Int) (n_46 : Int) : chunkA env c q6 u6 (f6 J) d6 (retA env Go.Proofs.Tryz.f6.results.toList k) (.l (.r (.l (.r (.r (.r (.r (.r .root)))))))) (fset (fset (fset (fset (fset f 2 v_2) 4 v_4) 44 v_44) 45 (.int .i64 n_45)) 46 (.int .i64 n_46)) h = s6_1 c k J v_2 v_4 v_44 n_45 n_46 h := by kernel_rfl
theorem e6_2 (c : Caller Prop FT) (k : KV) (J : J6) (f : FT) (h : H) (v_2 : AV) (v_4 : AV) (v_9 : AV) (v_44 : AV) (n_45 : Int) (n_46 : Int) : chunkA env c q6 u6 (f6 J) d6 (retA env Go.Proofs.Tryz.f6.results.toList k) (.r (.r (.l (.l (.r (.r (.l (.l (.r (.l (.r (.r (.r (.r (.r .root))))))))))))))) (fset (fset (fset (fset (fset (fset f 2 v_2) 4 v_4) 9 v_9) 44 v_44) 45 (.int .i64 n_45)) 46 (.int .i64 n_46)) h = s6_2 c k J v_2 v_4 v_9 v_44 n_45 n_46 h := by kernel_rfl
theorem w6 {c : Caller Prop FT} (hc : CallOk Go.Proofs.Tryz.prog (CP env) G (fun p => p) c) {k : KV} {n : Nat} {args : List AV} {h : H} (hg : f6 (r6 c k n) 0 (finit args) h) : SW Go.Proofs.Tryz.prog G (.func 6) args h k :=
  fn_ok mixed envOk hc q6 Go.Proofs.Tryz.func6 rfl (by kernel_rfl) (by kernel_rfl) k u6 (fun n => f6 (r6 c k n))
    (fun L f h hl => by
      match L, hl with
      | 0, hl => exact hl
      | 1, hl => obtain ⟨_, _, hl0⟩ := asI_inv (show _ from hl); obtain ⟨_, _, hl1⟩ := asI_inv (show _ from hl0); exact hl1
      | 2, hl => obtain ⟨_, _, hl0⟩ := asI_inv (show _ from hl); obtain ⟨_, _, hl1⟩ := asI_inv (show _ from hl0); exact hl1
      | _ + 3, hl => exact hl)
    (fun n p L hm f h hl => by
      simp only [u6, List.mem_cons, Prod.mk.injEq, List.not_mem_nil, or_false] at hm
      rcases hm with ⟨rfl, rfl⟩ | ⟨rfl, rfl⟩ | ⟨rfl, rfl⟩
      · have hl : f6 (r6 c k (n + 1)) 0 f h := hl
        have hh := e6_0 c k (r6 c k n) f h (f 0)
        rw [fset_self (rfl : f 0 = f 0)] at hh
        exact Eq.mpr hh hl
      · have hl : f6 (r6 c k (n + 1)) 1 f h := hl
        obtain ⟨n_45, e_45, hl3⟩ := asI_inv hl
        obtain ⟨n_46, e_46, hl4⟩ := asI_inv hl3
        have hh := e6_1 c k (r6 c k n) f h (f 2) (f 4) (f 44) n_45 n_46
        rw [fset_self (rfl : f 2 = f 2)] at hh
        rw [fset_self (rfl : f 4 = f 4)] at hh
        rw [fset_self (rfl : f 44 = f 44)] at hh
        rw [fset_self e_45] at hh
        rw [fset_self e_46] at hh
        exact Eq.mpr hh hl4
      · have hl : f6 (r6 c k (n + 1)) 2 f h := hl
        obtain ⟨n_45, e_45, hl4⟩ := asI_inv hl
        obtain ⟨n_46, e_46, hl5⟩ := asI_inv hl4
        have hh := e6_2 c k (r6 c k n) f h (f 2) (f 4) (f 9) (f 44) n_45 n_46
        rw [fset_self (rfl : f 2 = f 2)] at hh
        rw [fset_self (rfl : f 4 = f 4)] at hh
        rw [fset_self (rfl : f 9 = f 9)] at hh
        rw [fset_self (rfl : f 44 = f 44)] at hh
        rw [fset_self e_45] at hh
        rw [fset_self e_46] at hh
        exact Eq.mpr hh hl5
    ) (by simp [u6]) hg

theorem e7_0 (c : Caller Prop FT) (k : KV) (J : J7) (f : FT) (h : H) (l_0 : Nat) (c_0 : Nat) : chunkA env c q7 u7 (f7 J) d7 (retA env Go.Proofs.Tryz.f7.results.toList k) .root (fset f 0 (.str l_0 c_0)) h = s7_0 c k J l_0 c_0 h := by kernel_rfl
theorem w7 {c : Caller Prop FT} (hc : CallOk Go.Proofs.Tryz.prog (CP env) G (fun p => p) c) {k : KV} {n : Nat} {args : List AV} {h : H} (hg : f7 (r7 c k n) 0 (finit args) h) : SW Go.Proofs.Tryz.prog G (.func 7) args h k :=
  fn_ok mixed envOk hc q7 Go.Proofs.Tryz.func7 rfl (by kernel_rfl) (by kernel_rfl) k u7 (fun n => f7 (r7 c k n))
    (fun L f h hl => by
      match L, hl with
      | 0, hl => obtain ⟨_, _, _, hl0⟩ := asS_inv (show _ from hl); exact hl0
      | _ + 1, hl => exact hl)
    (fun n p L hm f h hl => by
      simp only [u7, List.mem_cons, Prod.mk.injEq, List.not_mem_nil, or_false] at hm
      rcases hm with ⟨rfl, rfl⟩
      · have hl : f7 (r7 c k (n + 1)) 0 f h := hl
        obtain ⟨l_0, c_0, e_0, hl0⟩ := asS_inv hl
        have hh := e7_0 c k (r7 c k n) f h l_0 c_0
        rw [fset_self e_0] at hh
        exact Eq.mpr hh hl0
    ) (by simp [u7]) hg

theorem e12_0 (c : Caller Prop FT) (k : KV) (J : J12) (f : FT) (h : H) (v_0 : AV) (l_1 : Nat) (c_1 : Nat) : chunkA env c q12 u12 (f12 J) d12 (retA env Go.Proofs.Tryz.f12.results.toList k) .root (fset (fset f 0 v_0) 1 (.str l_1 c_1)) h = s12_0 c k J v_0 l_1 c_1 h := by kernel_rfl
theorem w12 {c : Caller Prop FT} (hc : CallOk Go.Proofs.Tryz.prog (CP env) G (fun p => p) c) {k : KV} {n : Nat} {args : List AV} {h : H} (hg : f12 (r12 c k n) 0 (finit args) h) : SW Go.Proofs.Tryz.prog G (.func 12) args h k :=
  fn_ok mixed envOk hc q12 Go.Proofs.Tryz.func12 rfl (by kernel_rfl) (by kernel_rfl) k u12 (fun n => f12 (r12 c k n))
    (fun L f h hl => by
      match L, hl with
      | 0, hl => obtain ⟨_, _, _, hl0⟩ := asS_inv (show _ from hl); exact hl0
      | _ + 1, hl => exact hl)
    (fun n p L hm f h hl => by
      simp only [u12, List.mem_cons, Prod.mk.injEq, List.not_mem_nil, or_false] at hm
      rcases hm with ⟨rfl, rfl⟩
      · have hl : f12 (r12 c k (n + 1)) 0 f h := hl
        obtain ⟨l_1, c_1, e_1, hl1⟩ := asS_inv hl
        have hh := e12_0 c k (r12 c k n) f h (f 0) l_1 c_1
        rw [fset_self (rfl : f 0 = f 0)] at hh
        rw [fset_self e_1] at hh
        exact Eq.mpr hh hl1
    ) (by simp [u12]) hg

theorem e14_0 (c : Caller Prop FT) (k : KV) (J : J14) (f : FT) (h : H) (v_0 : AV) (l_1 : Nat) (c_1 : Nat) : chunkA env c q14 u14 (f14 J) d14 (retA env Go.Proofs.Tryz.f14.results.toList k) .root (fset (fset f 0 v_0) 1 (.str l_1 c_1)) h = s14_0 c k J v_0 l_1 c_1 h := by kernel_rfl
theorem w14 {c : Caller Prop FT} (hc : CallOk Go.Proofs.Tryz.prog (CP env) G (fun p => p) c) {k : KV} {n : Nat} {args : List AV} {h : H} (hg : f14 (r14 c k n) 0 (finit args) h) : SW Go.Proofs.Tryz.prog G (.func 14) args h k :=
  fn_ok mixed envOk hc q14 Go.Proofs.Tryz.func14 rfl (by kernel_rfl) (by kernel_rfl) k u14 (fun n => f14 (r14 c k n))
    (fun L f h hl => by
      match L, hl with
      | 0, hl => obtain ⟨_, _, _, hl0⟩ := asS_inv (show _ from hl); exact hl0
      | _ + 1, hl => exact hl)
    (fun n p L hm f h hl => by
      simp only [u14, List.mem_cons, Prod.mk.injEq, List.not_mem_nil, or_false] at hm
      rcases hm with ⟨rfl, rfl⟩
      · have hl : f14 (r14 c k (n + 1)) 0 f h := hl
        obtain ⟨l_1, c_1, e_1, hl1⟩ := asS_inv hl
        have hh := e14_0 c k (r14 c k n) f h (f 0) l_1 c_1
        rw [fset_self (rfl : f 0 = f 0)] at hh
        rw [fset_self e_1] at hh
        exact Eq.mpr hh hl1
    ) (by simp [u14]) hg

theorem e15_0 (c : Caller Prop FT) (k : KV) (J : J15) (f : FT) (h : H) (v_0 : AV) : chunkA env c q15 u15 (f15 J) d15 (retA env Go.Proofs.Tryz.f15.results.toList k) .root (fset f 0 v_0) h = s15_0 c k J v_0 h := by kernel_rfl
theorem w15 {c : Caller Prop FT} (hc : CallOk Go.Proofs.Tryz.prog (CP env) G (fun p => p) c) {k : KV} {n : Nat} {args : List AV} {h : H} (hg : f15 (r15 c k n) 0 (finit args) h) : SW Go.Proofs.Tryz.prog G (.func 15) args h k :=
  fn_ok mixed envOk hc q15 Go.Proofs.Tryz.func15 rfl (by kernel_rfl) (by kernel_rfl) k u15 (fun n => f15 (r15 c k n))
    (fun L f h hl => by
      match L, hl with
      | 0, hl => exact hl
      | _ + 1, hl => exact hl)
    (fun n p L hm f h hl => by
      simp only [u15, List.mem_cons, Prod.mk.injEq, List.not_mem_nil, or_false] at hm
      rcases hm with ⟨rfl, rfl⟩
      · have hl : f15 (r15 c k (n + 1)) 0 f h := hl
        have hh := e15_0 c k (r15 c k n) f h (f 0)
        rw [fset_self (rfl : f 0 = f 0)] at hh
        exact Eq.mpr hh hl
    ) (by simp [u15]) hg

theorem e18_0 (c : Caller Prop FT) (k : KV) (J : J18) (f : FT) (h : H) (v_0 : AV) : chunkA env c q18 u18 (f18 J) d18 (retA env Go.Proofs.Tryz.f18.results.toList k) .root (fset f 0 v_0) h = s18_0 c k J v_0 h := by kernel_rfl
theorem w18 {c : Caller Prop FT} (hc : CallOk Go.Proofs.Tryz.prog (CP env) G (fun p => p) c) {k : KV} {n : Nat} {args : List AV} {h : H} (hg : f18 (r18 c k n) 0 (finit args) h) : SW Go.Proofs.Tryz.prog G (.func 18) args h k :=
  fn_ok mixed envOk hc q18 Go.Proofs.Tryz.func18 rfl (by kernel_rfl) (by kernel_rfl) k u18 (fun n => f18 (r18 c k n))
    (fun L f h hl => by
      match L, hl with
      | 0, hl => exact hl
      | _ + 1, hl => exact hl)
    (fun n p L hm f h hl => by
      simp only [u18, List.mem_cons, Prod.mk.injEq, List.not_mem_nil, or_false] at hm
      rcases hm with ⟨rfl, rfl⟩
      · have hl : f18 (r18 c k (n + 1)) 0 f h := hl
        have hh := e18_0 c k (r18 c k n) f h (f 0)
        rw [fset_self (rfl : f 0 = f 0)] at hh
        exact Eq.mpr hh hl
    ) (by simp [u18]) hg

theorem e19_0 (c : Caller Prop FT) (k : KV) (J : J19) (f : FT) (h : H) (l_0 : Nat) (c_0 : Nat) (l_1 : Nat) (c_1 : Nat) : chunkA env c q19 u19 (f19 J) d19 (retA env Go.Proofs.Tryz.f19.results.toList k) .root (fset (fset f 0 (.str l_0 c_0)) 1 (.str l_1 c_1)) h = s19_0 c k J l_0 c_0 l_1 c_1 h := by kernel_rfl
theorem w19 {c : Caller Prop FT} (hc : CallOk Go.Proofs.Tryz.prog (CP env) G (fun p => p) c) {k : KV} {n : Nat} {args : List AV} {h : H} (hg : f19 (r19 c k n) 0 (finit args) h) : SW Go.Proofs.Tryz.prog G (.func 19) args h k :=
  fn_ok mixed envOk hc q19 Go.Proofs.Tryz.func19 rfl (by kernel_rfl) (by kernel_rfl) k u19 (fun n => f19 (r19 c k n))
    (fun L f h hl => by
      match L, hl with
      | 0, hl => obtain ⟨_, _, _, hl0⟩ := asS_inv (show _ from hl); obtain ⟨_, _, _, hl1⟩ := asS_inv (show _ from hl0); exact hl1
      | _ + 1, hl => exact hl)
    (fun n p L hm f h hl => by
      simp only [u19, List.mem_cons, Prod.mk.injEq, List.not_mem_nil, or_false] at hm
      rcases hm with ⟨rfl, rfl⟩
      · have hl : f19 (r19 c k (n + 1)) 0 f h := hl
        obtain ⟨l_0, c_0, e_0, hl0⟩ := asS_inv hl
        obtain ⟨l_1, c_1, e_1, hl1⟩ := asS_inv hl0
        have hh := e19_0 c k (r19 c k n) f h l_0 c_0 l_1 c_1
        rw [fset_self e_0] at hh
        rw [fset_self e_1] at hh
        exact Eq.mpr hh hl1
    ) (by simp [u19]) hg

theorem e20_0 (c : Caller Prop FT) (k : KV) (J : J20) (f : FT) (h : H) (l_0 : Nat) (c_0 : Nat) : chunkA env c q20 u20 (f20 J) d20 (retA env Go.Proofs.Tryz.f20.results.toList k) .root (fset f 0 (.str l_0 c_0)) h = s20_0 c k J l_0 c_0 h := by kernel_rfl
theorem e20_1 (c : Caller Prop FT) (k : KV) (J : J20) (f : FT) (h : H) (l_0 : Nat) (c_0 : Nat) (v_4 : AV) (l_5 : Nat) (c_5 : Nat) : chunkA env c q20 u20 (f20 J) d20 (retA env Go.Proofs.Tryz.f20.results.toList k) (.lab (.r .root) 1) (fset (fset (fset f 0 (.str l_0 c_0)) 4 v_4) 5 (.str l_5 c_5)) h = s20_1 c k J l_0 c_0 v_4 l_5 c_5 h := by kernel_rfl
theorem e20_2 (c : Caller Prop FT) (k : KV) (J : J20) (f : FT) (h : H) : chunkA env c q20 u20 (f20 J) d20 (retA env Go.Proofs.Tryz.f20.results.toList k) (.lab (.r .root) 0) f h = s20_2 c k J  h := by kernel_rfl
theorem e20_3 (c : Caller Prop FT) (k : KV) (J : J20) (f : FT) (h : H) (l_0 : Nat) (c_0 : Nat) (v_4 : AV) (l_5 : Nat) (c_5 : Nat) (n_8 : Int) (n_9 : Int) : chunkA env c q20 u20 (f20 J) d20 (retA env Go.Proofs.Tryz.f20.results.toList k) (.r (.l (.r (.r (.r (.r (.r (.r (.r (.l (.r .root))))))))))) (fset (fset (fset (fset (fset f 0 (.str l_0 c_0)) 4 v_4) 5 (.str l_5 c_5)) 8 (.int .u8 n_8)) 9 (.int .i64 n_9)) h = s20_3 c k J l_0 c_0 v_4 l_5 c_5 n_8 n_9 h := by kernel_rfl
theorem w20 {c : Caller Prop FT} (hc : CallOk Go.Proofs.Tryz.prog (CP env) G (fun p => p) c) {k : KV} {n : Nat} {args : List AV} {h : H} (hg : f20 (r20 c k n) 0 (finit args) h) : SW Go.Proofs.Tryz.prog G (.func 20) args h k :=
  fn_ok mixed envOk hc q20 Go.Proofs.Tryz.func20 rfl (by kernel_rfl) (by kernel_rfl) k u20 (fun n => f20 (r20 c k n))
    (fun L f h hl => by
      match L, hl with
      | 0, hl => obtain ⟨_, _, _, hl0⟩ := asS_inv (show _ from hl); exact hl0
      | 1, hl => obtain ⟨_, _, _, hl0⟩ := asS_inv (show _ from hl); obtain ⟨_, _, _, hl1⟩ := asS_inv (show _ from hl0); exact hl1
      | 2, hl => exact hl
      | 3, hl => obtain ⟨_, _, _, hl0⟩ := asS_inv (show _ from hl); obtain ⟨_, _, _, hl1⟩ := asS_inv (show _ from hl0); obtain ⟨_, _, hl2⟩ := asI_inv (show _ from hl1); obtain ⟨_, _, hl3⟩ := asI_inv (show _ from hl2); exact hl3
      | _ + 4, hl => exact hl)
    (fun n p L hm f h hl => by
      simp only [u20, List.mem_cons, Prod.mk.injEq, List.not_mem_nil, or_false] at hm
      rcases hm with ⟨rfl, rfl⟩ | ⟨rfl, rfl⟩ | ⟨rfl, rfl⟩ | ⟨rfl, rfl⟩
      · have hl : f20 (r20 c k (n + 1)) 0 f h := hl
        obtain ⟨l_0, c_0, e_0, hl0⟩ := asS_inv hl
        have hh := e20_0 c k (r20 c k n) f h l_0 c_0
        rw [fset_self e_0] at hh
        exact Eq.mpr hh hl0
      · have hl : f20 (r20 c k (n + 1)) 1 f h := hl
        obtain ⟨l_0, c_0, e_0, hl0⟩ := asS_inv hl
        obtain ⟨l_5, c_5, e_5, hl2⟩ := asS_inv hl0
        have hh := e20_1 c k (r20 c k n) f h l_0 c_0 (f 4) l_5 c_5
        rw [fset_self e_0] at hh
        rw [fset_self (rfl : f 4 = f 4)] at hh
        rw [fset_self e_5] at hh
        exact Eq.mpr hh hl2
      · have hl : f20 (r20 c k (n + 1)) 2 f h := hl
        have hh := e20_2 c k (r20 c k n) f h 
        exact Eq.mpr hh hl
      · have hl : f20 (r20 c k (n + 1)) 3 f h := hl
        obtain ⟨l_0, c_0, e_0, hl0⟩ := asS_inv hl
        obtain ⟨l_5, c_5, e_5, hl2⟩ := asS_inv hl0
        obtain ⟨n_8, e_8, hl3⟩ := asI_inv hl2
        obtain ⟨n_9, e_9, hl4⟩ := asI_inv hl3
        have hh := e20_3 c k (r20 c k n) f h l_0 c_0 (f 4) l_5 c_5 n_8 n_9
        rw [fset_self e_0] at hh
        rw [fset_self (rfl : f 4 = f 4)] at hh
        rw [fset_self e_5] at hh
        rw [fset_self e_8] at hh
        rw [fset_self e_9] at hh
        exact Eq.mpr hh hl4
    ) (by simp [u20]) hg

theorem e21_0 (c : Caller Prop FT) (k : KV) (J : J21) (f : FT) (h : H) (n_0 : Int) : chunkA env c q21 u21 (f21 J) d21 (retA env Go.Proofs.Tryz.f21.results.toList k) .root (fset f 0 (.int .i64 n_0)) h = s21_0 c k J n_0 h := by kernel_rfl
theorem e21_1 (c : Caller Prop FT) (k : KV) (J : J21) (f : FT) (h : H) (n_3 : Int) (l_4 : Nat) (c_4 : Nat) (v_5 : AV) : chunkA env c q21 u21 (f21 J) d21 (retA env Go.Proofs.Tryz.f21.results.toList k) (.l (.l (.r (.r (.r (.r (.r .root))))))) (fset (fset (fset f 3 (.int .u64 n_3)) 4 (.str l_4 c_4)) 5 v_5) h = s21_1 c k J n_3 l_4 c_4 v_5 h := by kernel_rfl
theorem e21_2 (c : Caller Prop FT) (k : KV) (J : J21) (f : FT) (h : H) (n_3 : Int) (l_4 : Nat) (c_4 : Nat) : chunkA env c q21 u21 (f21 J) d21 (retA env Go.Proofs.Tryz.f21.results.toList k) (.r (.r (.r (.r .root)))) (fset (fset f 3 (.int .u64 n_3)) 4 (.str l_4 c_4)) h = s21_2 c k J n_3 l_4 c_4 h := by kernel_rfl
theorem w21 {c : Caller Prop FT} (hc : CallOk Go.Proofs.Tryz.prog (CP env) G (fun p => p) c) {k : KV} {n : Nat} {args : List AV} {h : H} (hg : f21 (r21 c k n) 0 (finit args) h) : SW Go.Proofs.Tryz.prog G (.func 21) args h k :=
  fn_ok mixed envOk hc q21 Go.Proofs.Tryz.func21 rfl (by kernel_rfl) (by kernel_rfl) k u21 (fun n => f21 (r21 c k n))
    (fun L f h hl => by
      match L, hl with
      | 0, hl => obtain ⟨_, _, hl0⟩ := asI_inv (show _ from hl); exact hl0
      | 1, hl => obtain ⟨_, _, hl0⟩ := asI_inv (show _ from hl); obtain ⟨_, _, _, hl1⟩ := asS_inv (show _ from hl0); exact hl1
      | 2, hl => obtain ⟨_, _, hl0⟩ := asI_inv (show _ from hl); obtain ⟨_, _, _, hl1⟩ := asS_inv (show _ from hl0); exact hl1
      | _ + 3, hl => exact hl)
    (fun n p L hm f h hl => by
      simp only [u21, List.mem_cons, Prod.mk.injEq, List.not_mem_nil, or_false] at hm
      rcases hm with ⟨rfl, rfl⟩ | ⟨rfl, rfl⟩ | ⟨rfl, rfl⟩
      · have hl : f21 (r21 c k (n + 1)) 0 f h := hl
        obtain ⟨n_0, e_0, hl0⟩ := asI_inv hl
        have hh := e21_0 c k (r21 c k n) f h n_0
        rw [fset_self e_0] at hh
        exact Eq.mpr hh hl0
      · have hl : f21 (r21 c k (n + 1)) 1 f h := hl
        obtain ⟨n_3, e_3, hl0⟩ := asI_inv hl
        obtain ⟨l_4, c_4, e_4, hl1⟩ := asS_inv hl0
        have hh := e21_1 c k (r21 c k n) f h n_3 l_4 c_4 (f 5)
        rw [fset_self e_3] at hh
        rw [fset_self e_4] at hh
        rw [fset_self (rfl : f 5 = f 5)] at hh
        exact Eq.mpr hh hl1
      · have hl : f21 (r21 c k (n + 1)) 2 f h := hl
        obtain ⟨n_3, e_3, hl0⟩ := asI_inv hl
        obtain ⟨l_4, c_4, e_4, hl1⟩ := asS_inv hl0
        have hh := e21_2 c k (r21 c k n) f h n_3 l_4 c_4
        rw [fset_self e_3] at hh
        rw [fset_self e_4] at hh
        exact Eq.mpr hh hl1
    ) (by simp [u21]) hg

theorem e23_0 (c : Caller Prop FT) (k : KV) (J : J23) (f : FT) (h : H) (l_0 : Nat) (c_0 : Nat) (l_1 : Nat) (c_1 : Nat) : chunkA env c q23 u23 (f23 J) d23 (retA env Go.Proofs.Tryz.f23.results.toList k) .root (fset (fset f 0 (.str l_0 c_0)) 1 (.str l_1 c_1)) h = s23_0 c k J l_0 c_0 l_1 c_1 h := by kernel_rfl
theorem w23 {c : Caller Prop FT} (hc : CallOk Go.Proofs.Tryz.prog (CP env) G (fun p => p) c) {k : KV} {n : Nat} {args : List AV} {h : H} (hg : f23 (r23 c k n) 0 (finit args) h) : SW Go.Proofs.Tryz.prog G (.func 23) args h k :=
  fn_ok mixed envOk hc q23 Go.Proofs.Tryz.func23 rfl (by kernel_rfl) (by kernel_rfl) k u23 (fun n => f23 (r23 c k n))
    (fun L f h hl => by
      match L, hl with
      | 0, hl => obtain ⟨_, _, _, hl0⟩ := asS_inv (show _ from hl); obtain ⟨_, _, _, hl1⟩ := asS_inv (show _ from hl0); exact hl1
      | _ + 1, hl => exact hl)
    (fun n p L hm f h hl => by
      simp only [u23, List.mem_cons, Prod.mk.injEq, List.not_mem_nil, or_false] at hm
      rcases hm with ⟨rfl, rfl⟩
      · have hl : f23 (r23 c k (n + 1)) 0 f h := hl
        obtain ⟨l_0, c_0, e_0, hl0⟩ := asS_inv hl
        obtain ⟨l_1, c_1, e_1, hl1⟩ := asS_inv hl0
        have hh := e23_0 c k (r23 c k n) f h l_0 c_0 l_1 c_1
        rw [fset_self e_0] at hh
        rw [fset_self e_1] at hh
        exact Eq.mpr hh hl1
    ) (by simp [u23]) hg

theorem e31_0 (c : Caller Prop FT) (k : KV) (J : J31) (f : FT) (h : H) (l_0 : Nat) (c_0 : Nat) : chunkA env c q31 u31 (f31 J) d31 (retA env Go.Proofs.Tryz.f31.results.toList k) .root (fset f 0 (.str l_0 c_0)) h = s31_0 c k J l_0 c_0 h := by kernel_rfl
theorem w31 {c : Caller Prop FT} (hc : CallOk Go.Proofs.Tryz.prog (CP env) G (fun p => p) c) {k : KV} {n : Nat} {args : List AV} {h : H} (hg : f31 (r31 c k n) 0 (finit args) h) : SW Go.Proofs.Tryz.prog G (.func 31) args h k :=
  fn_ok mixed envOk hc q31 Go.Proofs.Tryz.func31 rfl (by kernel_rfl) (by kernel_rfl) k u31 (fun n => f31 (r31 c k n))
    (fun L f h hl => by
      match L, hl with
      | 0, hl => obtain ⟨_, _, _, hl0⟩ := asS_inv (show _ from hl); exact hl0
      | _ + 1, hl => exact hl)
    (fun n p L hm f h hl => by
      simp only [u31, List.mem_cons, Prod.mk.injEq, List.not_mem_nil, or_false] at hm
      rcases hm with ⟨rfl, rfl⟩
      · have hl : f31 (r31 c k (n + 1)) 0 f h := hl
        obtain ⟨l_0, c_0, e_0, hl0⟩ := asS_inv hl
        have hh := e31_0 c k (r31 c k n) f h l_0 c_0
        rw [fset_self e_0] at hh
        exact Eq.mpr hh hl0
    ) (by simp [u31]) hg

theorem e32_0 (c : Caller Prop FT) (k : KV) (J : J32) (f : FT) (h : H) (l_0 : Nat) (c_0 : Nat) (l_1 : Nat) (c_1 : Nat) : chunkA env c q32 u32 (f32 J) d32 (retA env Go.Proofs.Tryz.f32.results.toList k) .root (fset (fset f 0 (.str l_0 c_0)) 1 (.str l_1 c_1)) h = s32_0 c k J l_0 c_0 l_1 c_1 h := by kernel_rfl
theorem w32 {c : Caller Prop FT} (hc : CallOk Go.Proofs.Tryz.prog (CP env) G (fun p => p) c) {k : KV} {n : Nat} {args : List AV} {h : H} (hg : f32 (r32 c k n) 0 (finit args) h) : SW Go.Proofs.Tryz.prog G (.func 32) args h k :=
  fn_ok mixed envOk hc q32 Go.Proofs.Tryz.func32 rfl (by kernel_rfl) (by kernel_rfl) k u32 (fun n => f32 (r32 c k n))
    (fun L f h hl => by
      match L, hl with
      | 0, hl => obtain ⟨_, _, _, hl0⟩ := asS_inv (show _ from hl); obtain ⟨_, _, _, hl1⟩ := asS_inv (show _ from hl0); exact hl1
      | _ + 1, hl => exact hl)
    (fun n p L hm f h hl => by
      simp only [u32, List.mem_cons, Prod.mk.injEq, List.not_mem_nil, or_false] at hm
      rcases hm with ⟨rfl, rfl⟩
      · have hl : f32 (r32 c k (n + 1)) 0 f h := hl
        obtain ⟨l_0, c_0, e_0, hl0⟩ := asS_inv hl
        obtain ⟨l_1, c_1, e_1, hl1⟩ := asS_inv hl0
        have hh := e32_0 c k (r32 c k n) f h l_0 c_0 l_1 c_1
        rw [fset_self e_0] at hh
        rw [fset_self e_1] at hh
        exact Eq.mpr hh hl1
    ) (by simp [u32]) hg

theorem e36_0 (c : Caller Prop FT) (k : KV) (J : J36) (f : FT) (h : H) (l_0 : Nat) (c_0 : Nat) (l_1 : Nat) (c_1 : Nat) : chunkA env c q36 u36 (f36 J) d36 (retA env Go.Proofs.Tryz.f36.results.toList k) .root (fset (fset f 0 (.str l_0 c_0)) 1 (.str l_1 c_1)) h = s36_0 c k J l_0 c_0 l_1 c_1 h := by kernel_rfl
theorem w36 {c : Caller Prop FT} (hc : CallOk Go.Proofs.Tryz.prog (CP env) G (fun p => p) c) {k : KV} {n : Nat} {args : List AV} {h : H} (hg : f36 (r36 c k n) 0 (finit args) h) : SW Go.Proofs.Tryz.prog G (.func 36) args h k :=
  fn_ok mixed envOk hc q36 Go.Proofs.Tryz.func36 rfl (by kernel_rfl) (by kernel_rfl) k u36 (fun n => f36 (r36 c k n))
    (fun L f h hl => by
      match L, hl with
      | 0, hl => obtain ⟨_, _, _, hl0⟩ := asS_inv (show _ from hl); obtain ⟨_, _, _, hl1⟩ := asS_inv (show _ from hl0); exact hl1
      | _ + 1, hl => exact hl)
    (fun n p L hm f h hl => by
      simp only [u36, List.mem_cons, Prod.mk.injEq, List.not_mem_nil, or_false] at hm
      rcases hm with ⟨rfl, rfl⟩
      · have hl : f36 (r36 c k (n + 1)) 0 f h := hl
        obtain ⟨l_0, c_0, e_0, hl0⟩ := asS_inv hl
        obtain ⟨l_1, c_1, e_1, hl1⟩ := asS_inv hl0
        have hh := e36_0 c k (r36 c k n) f h l_0 c_0 l_1 c_1
        rw [fset_self e_0] at hh
        rw [fset_self e_1] at hh
        exact Eq.mpr hh hl1
    ) (by simp [u36]) hg

theorem e38_0 (c : Caller Prop FT) (k : KV) (J : J38) (f : FT) (h : H) (v_0 : AV) : chunkA env c q38 u38 (f38 J) d38 (retA env Go.Proofs.Tryz.f38.results.toList k) .root (fset f 0 v_0) h = s38_0 c k J v_0 h := by kernel_rfl
theorem e38_1 (c : Caller Prop FT) (k : KV) (J : J38) (f : FT) (h : H) (v_0 : AV) (v_3 : AV) (n_4 : Int) : chunkA env c q38 u38 (f38 J) d38 (retA env Go.Proofs.Tryz.f38.results.toList k) (.l (.r (.l (.r (.r .root))))) (fset (fset (fset f 0 v_0) 3 v_3) 4 (.int .i64 n_4)) h = s38_1 c k J v_0 v_3 n_4 h := by kernel_rfl
theorem e38_2 (c : Caller Prop FT) (k : KV) (J : J38) (f : FT) (h : H) (v_0 : AV) (v_3 : AV) (n_4 : Int) : chunkA env c q38 u38 (f38 J) d38 (retA env Go.Proofs.Tryz.f38.results.toList k) (.r (.r (.l (.l (.r (.l (.r (.r .root)))))))) (fset (fset (fset f 0 v_0) 3 v_3) 4 (.int .i64 n_4)) h = s38_2 c k J v_0 v_3 n_4 h := by kernel_rfl
theorem w38 {c : Caller Prop FT} (hc : CallOk Go.Proofs.Tryz.prog (CP env) G (fun p => p) c) {k : KV} {n : Nat} {args : List AV} {h : H} (hg : f38 (r38 c k n) 0 (finit args) h) : SW Go.Proofs.Tryz.prog G (.func 38) args h k :=
  fn_ok mixed envOk hc q38 Go.Proofs.Tryz.func38 rfl (by kernel_rfl) (by kernel_rfl) k u38 (fun n => f38 (r38 c k n))
    (fun L f h hl => by
      match L, hl with
      | 0, hl => exact hl
      | 1, hl => obtain ⟨_, _, hl0⟩ := asI_inv (show _ from hl); exact hl0
      | 2, hl => obtain ⟨_, _, hl0⟩ := asI_inv (show _ from hl); exact hl0
      | _ + 3, hl => exact hl)
    (fun n p L hm f h hl => by
      simp only [u38, List.mem_cons, Prod.mk.injEq, List.not_mem_nil, or_false] at hm
      rcases hm with ⟨rfl, rfl⟩ | ⟨rfl, rfl⟩ | ⟨rfl, rfl⟩
      · have hl : f38 (r38 c k (n + 1)) 0 f h := hl
        have hh := e38_0 c k (r38 c k n) f h (f 0)
        rw [fset_self (rfl : f 0 = f 0)] at hh
        exact Eq.mpr hh hl
      · have hl : f38 (r38 c k (n + 1)) 1 f h := hl
        obtain ⟨n_4, e_4, hl2⟩ := asI_inv hl
        have hh := e38_1 c k (r38 c k n) f h (f 0) (f 3) n_4
        rw [fset_self (rfl : f 0 = f 0)] at hh
        rw [fset_self (rfl : f 3 = f 3)] at hh
        rw [fset_self e_4] at hh
        exact Eq.mpr hh hl2
      · have hl : f38 (r38 c k (n + 1)) 2 f h := hl
        obtain ⟨n_4, e_4, hl2⟩ := asI_inv hl
        have hh := e38_2 c k (r38 c k n) f h (f 0) (f 3) n_4
        rw [fset_self (rfl : f 0 = f 0)] at hh
        rw [fset_self (rfl : f 3 = f 3)] at hh
        rw [fset_self e_4] at hh
        exact Eq.mpr hh hl2
    ) (by simp [u38]) hg

theorem e39_0 (c : Caller Prop FT) (k : KV) (J : J39) (f : FT) (h : H) (l_0 : Nat) (c_0 : Nat) : chunkA env c q39 u39 (f39 J) d39 (retA env Go.Proofs.Tryz.f39.results.toList k) .root (fset f 0 (.str l_0 c_0)) h = s39_0 c k J l_0 c_0 h := by kernel_rfl
theorem e39_1 (c : Caller Prop FT) (k : KV) (J : J39) (f : FT) (h : H) (l_0 : Nat) (c_0 : Nat) (v_3 : AV) (n_4 : Int) : chunkA env c q39 u39 (f39 J) d39 (retA env Go.Proofs.Tryz.f39.results.toList k) (.l (.r (.l (.r (.r .root))))) (fset (fset (fset f 0 (.str l_0 c_0)) 3 v_3) 4 (.int .i64 n_4)) h = s39_1 c k J l_0 c_0 v_3 n_4 h := by kernel_rfl
theorem e39_2 (c : Caller Prop FT) (k : KV) (J : J39) (f : FT) (h : H) (l_0 : Nat) (c_0 : Nat) (v_3 : AV) (n_4 : Int) : chunkA env c q39 u39 (f39 J) d39 (retA env Go.Proofs.Tryz.f39.results.toList k) (.r (.l (.r (.l (.l (.r (.l (.r (.r .root))))))))) (fset (fset (fset f 0 (.str l_0 c_0)) 3 v_3) 4 (.int .i64 n_4)) h = s39_2 c k J l_0 c_0 v_3 n_4 h := by kernel_rfl
theorem w39 {c : Caller Prop FT} (hc : CallOk Go.Proofs.Tryz.prog (CP env) G (fun p => p) c) {k : KV} {n : Nat} {args : List AV} {h : H} (hg : f39 (r39 c k n) 0 (finit args) h) : SW Go.Proofs.Tryz.prog G (.func 39) args h k :=
  fn_ok mixed envOk hc q39 Go.Proofs.Tryz.func39 rfl (by kernel_rfl) (by kernel_rfl) k u39 (fun n => f39 (r39 c k n))
    (fun L f h hl => by
      match L, hl with
      | 0, hl => obtain ⟨_, _, _, hl0⟩ := asS_inv (show _ from hl); exact hl0
      | 1, hl => obtain ⟨_, _, _, hl0⟩ := asS_inv (show _ from hl); obtain ⟨_, _, hl1⟩ := asI_inv (show _ from hl0); exact hl1
      | 2, hl => obtain ⟨_, _, _, hl0⟩ := asS_inv (show _ from hl); obtain ⟨_, _, hl1⟩ := asI_inv (show _ from hl0); exact hl1
      | _ + 3, hl => exact hl)
    (fun n p L hm f h hl => by
      simp only [u39, List.mem_cons, Prod.mk.injEq, List.not_mem_nil, or_false] at hm
      rcases hm with ⟨rfl, rfl⟩ | ⟨rfl, rfl⟩ | ⟨rfl, rfl⟩
      · have hl : f39 (r39 c k (n + 1)) 0 f h := hl
        obtain ⟨l_0, c_0, e_0, hl0⟩ := asS_inv hl
        have hh := e39_0 c k (r39 c k n) f h l_0 c_0
        rw [fset_self e_0] at hh
        exact Eq.mpr hh hl0
      · have hl : f39 (r39 c k (n + 1)) 1 f h := hl
        obtain ⟨l_0, c_0, e_0, hl0⟩ := asS_inv hl
        obtain ⟨n_4, e_4, hl2⟩ := asI_inv hl0
        have hh := e39_1 c k (r39 c k n) f h l_0 c_0 (f 3) n_4
        rw [fset_self e_0] at hh
        rw [fset_self (rfl : f 3 = f 3)] at hh
        rw [fset_self e_4] at hh
        exact Eq.mpr hh hl2
      · have hl : f39 (r39 c k (n + 1)) 2 f h := hl
        obtain ⟨l_0, c_0, e_0, hl0⟩ := asS_inv hl
        obtain ⟨n_4, e_4, hl2⟩ := asI_inv hl0
        have hh := e39_2 c k (r39 c k n) f h l_0 c_0 (f 3) n_4
        rw [fset_self e_0] at hh
        rw [fset_self (rfl : f 3 = f 3)] at hh
        rw [fset_self e_4] at hh
        exact Eq.mpr hh hl2
    ) (by simp [u39]) hg

theorem e43_0 (c : Caller Prop FT) (k : KV) (J : J43) (f : FT) (h : H) (n_0 : Int) : chunkA env c q43 u43 (f43 J) d43 (retA env Go.Proofs.Tryz.f43.results.toList k) .root (fset f 0 (.int .u8 n_0)) h = s43_0 c k J n_0 h := by kernel_rfl
theorem w43 {c : Caller Prop FT} (hc : CallOk Go.Proofs.Tryz.prog (CP env) G (fun p => p) c) {k : KV} {n : Nat} {args : List AV} {h : H} (hg : f43 (r43 c k n) 0 (finit args) h) : SW Go.Proofs.Tryz.prog G (.func 43) args h k :=
  fn_ok mixed envOk hc q43 Go.Proofs.Tryz.func43 rfl (by kernel_rfl) (by kernel_rfl) k u43 (fun n => f43 (r43 c k n))
    (fun L f h hl => by
      match L, hl with
      | 0, hl => obtain ⟨_, _, hl0⟩ := asI_inv (show _ from hl); exact hl0
      | _ + 1, hl => exact hl)
    (fun n p L hm f h hl => by
      simp only [u43, List.mem_cons, Prod.mk.injEq, List.not_mem_nil, or_false] at hm
      rcases hm with ⟨rfl, rfl⟩
      · have hl : f43 (r43 c k (n + 1)) 0 f h := hl
        obtain ⟨n_0, e_0, hl0⟩ := asI_inv hl
        have hh := e43_0 c k (r43 c k n) f h n_0
        rw [fset_self e_0] at hh
        exact Eq.mpr hh hl0
    ) (by simp [u43]) hg

theorem e47_0 (c : Caller Prop FT) (k : KV) (J : J47) (f : FT) (h : H) (l_0 : Nat) (c_0 : Nat) (n_1 : Int) : chunkA env c q47 u47 (f47 J) d47 (retA env Go.Proofs.Tryz.f47.results.toList k) .root (fset (fset f 0 (.str l_0 c_0)) 1 (.int .u8 n_1)) h = s47_0 c k J l_0 c_0 n_1 h := by kernel_rfl
theorem e47_1 (c : Caller Prop FT) (k : KV) (J : J47) (f : FT) (h : H) (l_0 : Nat) (c_0 : Nat) (n_1 : Int) : chunkA env c q47 u47 (f47 J) d47 (retA env Go.Proofs.Tryz.f47.results.toList k) (.l (.l (.r .root))) (fset (fset f 0 (.str l_0 c_0)) 1 (.int .u8 n_1)) h = s47_1 c k J l_0 c_0 n_1 h := by kernel_rfl
theorem w47 {c : Caller Prop FT} (hc : CallOk Go.Proofs.Tryz.prog (CP env) G (fun p => p) c) {k : KV} {n : Nat} {args : List AV} {h : H} (hg : f47 (r47 c k n) 0 (finit args) h) : SW Go.Proofs.Tryz.prog G (.func 47) args h k :=
  fn_ok mixed envOk hc q47 Go.Proofs.Tryz.func47 rfl (by kernel_rfl) (by kernel_rfl) k u47 (fun n => f47 (r47 c k n))
    (fun L f h hl => by
      match L, hl with
      | 0, hl => obtain ⟨_, _, _, hl0⟩ := asS_inv (show _ from hl); obtain ⟨_, _, hl1⟩ := asI_inv (show _ from hl0); exact hl1
      | 1, hl => obtain ⟨_, _, _, hl0⟩ := asS_inv (show _ from hl); obtain ⟨_, _, hl1⟩ := asI_inv (show _ from hl0); exact hl1
      | _ + 2, hl => exact hl)
    (fun n p L hm f h hl => by
      simp only [u47, List.mem_cons, Prod.mk.injEq, List.not_mem_nil, or_false] at hm
      rcases hm with ⟨rfl, rfl⟩ | ⟨rfl, rfl⟩
      · have hl : f47 (r47 c k (n + 1)) 0 f h := hl
        obtain ⟨l_0, c_0, e_0, hl0⟩ := asS_inv hl
        obtain ⟨n_1, e_1, hl1⟩ := asI_inv hl0
        have hh := e47_0 c k (r47 c k n) f h l_0 c_0 n_1
        rw [fset_self e_0] at hh
        rw [fset_self e_1] at hh
        exact Eq.mpr hh hl1
      · have hl : f47 (r47 c k (n + 1)) 1 f h := hl
        obtain ⟨l_0, c_0, e_0, hl0⟩ := asS_inv hl
        obtain ⟨n_1, e_1, hl1⟩ := asI_inv hl0
        have hh := e47_1 c k (r47 c k n) f h l_0 c_0 n_1
        rw [fset_self e_0] at hh
        rw [fset_self e_1] at hh
        exact Eq.mpr hh hl1
    ) (by simp [u47]) hg

theorem e49_0 (c : Caller Prop FT) (k : KV) (J : J49) (f : FT) (h : H) (l_0 : Nat) (c_0 : Nat) : chunkA env c q49 u49 (f49 J) d49 (retA env Go.Proofs.Tryz.f49.results.toList k) .root (fset f 0 (.str l_0 c_0)) h = s49_0 c k J l_0 c_0 h := by kernel_rfl
theorem e49_1 (c : Caller Prop FT) (k : KV) (J : J49) (f : FT) (h : H) (l_0 : Nat) (c_0 : Nat) (v_2 : AV) (n_4 : Int) : chunkA env c q49 u49 (f49 J) d49 (retA env Go.Proofs.Tryz.f49.results.toList k) (.l (.r (.l (.r .root)))) (fset (fset (fset f 0 (.str l_0 c_0)) 2 v_2) 4 (.int .i64 n_4)) h = s49_1 c k J l_0 c_0 v_2 n_4 h := by kernel_rfl
theorem w49 {c : Caller Prop FT} (hc : CallOk Go.Proofs.Tryz.prog (CP env) G (fun p => p) c) {k : KV} {n : Nat} {args : List AV} {h : H} (hg : f49 (r49 c k n) 0 (finit args) h) : SW Go.Proofs.Tryz.prog G (.func 49) args h k :=
  fn_ok mixed envOk hc q49 Go.Proofs.Tryz.func49 rfl (by kernel_rfl) (by kernel_rfl) k u49 (fun n => f49 (r49 c k n))
    (fun L f h hl => by
      match L, hl with
      | 0, hl => obtain ⟨_, _, _, hl0⟩ := asS_inv (show _ from hl); exact hl0
      | 1, hl => obtain ⟨_, _, _, hl0⟩ := asS_inv (show _ from hl); obtain ⟨_, _, hl1⟩ := asI_inv (show _ from hl0); exact hl1
      | _ + 2, hl => exact hl)
    (fun n p L hm f h hl => by
      simp only [u49, List.mem_cons, Prod.mk.injEq, List.not_mem_nil, or_false] at hm
      rcases hm with ⟨rfl, rfl⟩ | ⟨rfl, rfl⟩
      · have hl : f49 (r49 c k (n + 1)) 0 f h := hl
        obtain ⟨l_0, c_0, e_0, hl0⟩ := asS_inv hl
        have hh := e49_0 c k (r49 c k n) f h l_0 c_0
        rw [fset_self e_0] at hh
        exact Eq.mpr hh hl0
      · have hl : f49 (r49 c k (n + 1)) 1 f h := hl
        obtain ⟨l_0, c_0, e_0, hl0⟩ := asS_inv hl
        obtain ⟨n_4, e_4, hl2⟩ := asI_inv hl0
        have hh := e49_1 c k (r49 c k n) f h l_0 c_0 (f 2) n_4
        rw [fset_self e_0] at hh
        rw [fset_self (rfl : f 2 = f 2)] at hh
        rw [fset_self e_4] at hh
        exact Eq.mpr hh hl2
    ) (by simp [u49]) hg

theorem e50_0 (c : Caller Prop FT) (k : KV) (J : J50) (f : FT) (h : H) (l_0 : Nat) (c_0 : Nat) (v_1 : AV) : chunkA env c q50 u50 (f50 J) d50 (retA env Go.Proofs.Tryz.f50.results.toList k) .root (fset (fset f 0 (.str l_0 c_0)) 1 v_1) h = s50_0 c k J l_0 c_0 v_1 h := by kernel_rfl
theorem e50_1 (c : Caller Prop FT) (k : KV) (J : J50) (f : FT) (h : H) (l_0 : Nat) (c_0 : Nat) (v_1 : AV) : chunkA env c q50 u50 (f50 J) d50 (retA env Go.Proofs.Tryz.f50.results.toList k) (.l (.l (.r .root))) (fset (fset f 0 (.str l_0 c_0)) 1 v_1) h = s50_1 c k J l_0 c_0 v_1 h := by kernel_rfl
theorem w50 {c : Caller Prop FT} (hc : CallOk Go.Proofs.Tryz.prog (CP env) G (fun p => p) c) {k : KV} {n : Nat} {args : List AV} {h : H} (hg : f50 (r50 c k n) 0 (finit args) h) : SW Go.Proofs.Tryz.prog G (.func 50) args h k :=
  fn_ok mixed envOk hc q50 Go.Proofs.Tryz.func50 rfl (by kernel_rfl) (by kernel_rfl) k u50 (fun n => f50 (r50 c k n))
    (fun L f h hl => by
      match L, hl with
      | 0, hl => obtain ⟨_, _, _, hl0⟩ := asS_inv (show _ from hl); exact hl0
      | 1, hl => obtain ⟨_, _, _, hl0⟩ := asS_inv (show _ from hl); exact hl0
      | _ + 2, hl => exact hl)
    (fun n p L hm f h hl => by
      simp only [u50, List.mem_cons, Prod.mk.injEq, List.not_mem_nil, or_false] at hm
      rcases hm with ⟨rfl, rfl⟩ | ⟨rfl, rfl⟩
      · have hl : f50 (r50 c k (n + 1)) 0 f h := hl
        obtain ⟨l_0, c_0, e_0, hl0⟩ := asS_inv hl
        have hh := e50_0 c k (r50 c k n) f h l_0 c_0 (f 1)
        rw [fset_self e_0] at hh
        rw [fset_self (rfl : f 1 = f 1)] at hh
        exact Eq.mpr hh hl0
      · have hl : f50 (r50 c k (n + 1)) 1 f h := hl
        obtain ⟨l_0, c_0, e_0, hl0⟩ := asS_inv hl
        have hh := e50_1 c k (r50 c k n) f h l_0 c_0 (f 1)
        rw [fset_self e_0] at hh
        rw [fset_self (rfl : f 1 = f 1)] at hh
        exact Eq.mpr hh hl0
    ) (by simp [u50]) hg

theorem e54_0 (c : Caller Prop FT) (k : KV) (J : J54) (f : FT) (h : H) (l_0 : Nat) (c_0 : Nat) : chunkA env c q54 u54 (f54 J) d54 (retA env Go.Proofs.Tryz.f54.results.toList k) .root (fset f 0 (.str l_0 c_0)) h = s54_0 c k J l_0 c_0 h := by kernel_rfl
theorem e54_1 (c : Caller Prop FT) (k : KV) (J : J54) (f : FT) (h : H) (l_5 : Nat) (c_5 : Nat) (n_6 : Int) (v_47 : AV) (n_48 : Int) (n_49 : Int) : chunkA env c q54 u54 (f54 J) d54 (retA env Go.Proofs.Tryz.f54.results.toList k) (.l (.r (.l (.r (.r (.r (.l (.r (.l (.r (.r .root))))))))))) (fset (fset (fset (fset (fset f 5 (.str l_5 c_5)) 6 (.int .i64 n_6)) 47 v_47) 48 (.int .i64 n_48)) 49 (.int .i64 n_49)) h = s54_1 c k J l_5 c_5 n_6 v_47 n_48 n_49 h := by kernel_rfl
theorem e54_2 (c : Caller Prop FT) (k : KV) (J : J54) (f : FT) (h : H) (n_6 : Int) : chunkA env c q54 u54 (f54 J) d54 (retA env Go.Proofs.Tryz.f54.results.toList k) (.r (.r (.r (.r (.r (.l (.r (.l (.r (.r .root)))))))))) (fset f 6 (.int .i64 n_6)) h = s54_2 c k J n_6 h := by kernel_rfl
theorem e54_3 (c : Caller Prop FT) (k : KV) (J : J54) (f : FT) (h : H) (l_0 : Nat) (c_0 : Nat) (l_5 : Nat) (c_5 : Nat) : chunkA env c q54 u54 (f54 J) d54 (retA env Go.Proofs.Tryz.f54.results.toList k) (.r (.r (.l (.r (.l (.r (.r .root))))))) (fset (fset f 0 (.str l_0 c_0)) 5 (.str l_5 c_5)) h = s54_3 c k J l_0 c_0 l_5 c_5 h := by kernel_rfl
theorem w54 {c : Caller Prop FT} (hc : CallOk Go.Proofs.Tryz.prog (CP env) G (fun p => p) c) {k : KV} {n : Nat} {args : List AV} {h : H} (hg : f54 (r54 c k n) 0 (finit args) h) : SW Go.Proofs.Tryz.prog G (.func 54) args h k :=
  fn_ok mixed envOk hc q54 Go.Proofs.Tryz.func54 rfl (by kernel_rfl) (by kernel_rfl) k u54 (fun n => f54 (r54 c k n))
    (fun L f h hl => by
      match L, hl with
      | 0, hl => obtain ⟨_, _, _, hl0⟩ := asS_inv (show _ from hl); exact hl0
      | 1, hl => obtain ⟨_, _, _, hl0⟩ := asS_inv (show _ from hl); obtain ⟨_, _, hl1⟩ := asI_inv (show _ from hl0); obtain ⟨_, _, hl2⟩ := asI_inv (show _ from hl1); obtain ⟨_, _, hl3⟩ := asI_inv (show _ from hl2); exact hl3
      | 2, hl => obtain ⟨_, _, hl0⟩ := asI_inv (show _ from hl); exact hl0
      | 3, hl => obtain ⟨_, _, _, hl0⟩ := asS_inv (show _ from hl); obtain ⟨_, _, _, hl1⟩ := asS_inv (show _ from hl0); exact hl1
      | _ + 4, hl => exact hl)
    (fun n p L hm f h hl => by
      simp only [u54, List.mem_cons, Prod.mk.injEq, List.not_mem_nil, or_false] at hm
      rcases hm with ⟨rfl, rfl⟩ | ⟨rfl, rfl⟩ | ⟨rfl, rfl⟩ | ⟨rfl, rfl⟩
      · have hl : f54 (r54 c k (n + 1)) 0 f h := hl
        obtain ⟨l_0, c_0, e_0, hl0⟩ := asS_inv hl
        have hh := e54_0 c k (r54 c k n) f h l_0 c_0
        rw [fset_self e_0] at hh
        exact Eq.mpr hh hl0
      · have hl : f54 (r54 c k (n + 1)) 1 f h := hl
        obtain ⟨l_5, c_5, e_5, hl0⟩ := asS_inv hl
        obtain ⟨n_6, e_6, hl1⟩ := asI_inv hl0
        obtain ⟨n_48, e_48, hl3⟩ := asI_inv hl1
        obtain ⟨n_49, e_49, hl4⟩ := asI_inv hl3
        have hh := e54_1 c k (r54 c k n) f h l_5 c_5 n_6 (f 47) n_48 n_49
        rw [fset_self e_5] at hh
        rw [fset_self e_6] at hh
        rw [fset_self (rfl : f 47 = f 47)] at hh
        rw [fset_self e_48] at hh
        rw [fset_self e_49] at hh
        exact Eq.mpr hh hl4
      · have hl : f54 (r54 c k (n + 1)) 2 f h := hl
        obtain ⟨n_6, e_6, hl0⟩ := asI_inv hl
        have hh := e54_2 c k (r54 c k n) f h n_6
        rw [fset_self e_6] at hh
        exact Eq.mpr hh hl0
      · have hl : f54 (r54 c k (n + 1)) 3 f h := hl
        obtain ⟨l_0, c_0, e_0, hl0⟩ := asS_inv hl
        obtain ⟨l_5, c_5, e_5, hl1⟩ := asS_inv hl0
        have hh := e54_3 c k (r54 c k n) f h l_0 c_0 l_5 c_5
        rw [fset_self e_0] at hh
        rw [fset_self e_5] at hh
        exact Eq.mpr hh hl1
    ) (by simp [u54]) hg

theorem e59_0 (c : Caller Prop FT) (k : KV) (J : J59) (f : FT) (h : H) (l_0 : Nat) (c_0 : Nat) (n_1 : Int) : chunkA env c q59 u59 (f59 J) d59 (retA env Go.Proofs.Tryz.f59.results.toList k) .root (fset (fset f 0 (.str l_0 c_0)) 1 (.int .i32 n_1)) h = s59_0 c k J l_0 c_0 n_1 h := by kernel_rfl
theorem e59_1 (c : Caller Prop FT) (k : KV) (J : J59) (f : FT) (h : H) (v_175 : AV) : chunkA env c q59 u59 (f59 J) d59 (retA env Go.Proofs.Tryz.f59.results.toList k) (.l (.r (.l (.l (.r (.r (.r (.l (.r .root))))))))) (fset f 175 v_175) h = s59_1 c k J v_175 h := by kernel_rfl
theorem e59_2 (c : Caller Prop FT) (k : KV) (J : J59) (f : FT) (h : H) (l_0 : Nat) (c_0 : Nat) (n_1 : Int) (l_7 : Nat) (c_7 : Nat) (n_8 : Int) (n_9 : Int) (n_10 : Int) : chunkA env c q59 u59 (f59 J) d59 (retA env Go.Proofs.Tryz.f59.results.toList k) (.l (.l (.r (.r (.r (.r (.l (.r (.r (.r (.r (.r (.r (.l (.r .root))))))))))))))) (fset (fset (fset (fset (fset (fset f 0 (.str l_0 c_0)) 1 (.int .i32 n_1)) 7 (.str l_7 c_7)) 8 (.int .i64 n_8)) 9 (.int .i64 n_9)) 10 (.int .i64 n_10)) h = s59_2 c k J l_0 c_0 n_1 l_7 c_7 n_8 n_9 n_10 h := by kernel_rfl
theorem e59_3 (c : Caller Prop FT) (k : KV) (J : J59) (f : FT) (h : H) (l_0 : Nat) (c_0 : Nat) (n_1 : Int) (l_7 : Nat) (c_7 : Nat) (n_8 : Int) (n_9 : Int) (n_10 : Int) (n_12 : Int) : chunkA env c q59 u59 (f59 J) d59 (retA env Go.Proofs.Tryz.f59.results.toList k) (.l (.r (.l (.r (.l (.l (.r (.l (.l (.l (.r (.r (.r (.r (.l (.r (.r (.r (.r (.r (.r (.l (.r .root))))))))))))))))))))))) (fset (fset (fset (fset (fset (fset (fset f 0 (.str l_0 c_0)) 1 (.int .i32 n_1)) 7 (.str l_7 c_7)) 8 (.int .i64 n_8)) 9 (.int .i64 n_9)) 10 (.int .i64 n_10)) 12 (.int .i64 n_12)) h = s59_3 c k J l_0 c_0 n_1 l_7 c_7 n_8 n_9 n_10 n_12 h := by kernel_rfl
theorem e59_4 (c : Caller Prop FT) (k : KV) (J : J59) (f : FT) (h : H) (l_0 : Nat) (c_0 : Nat) (n_1 : Int) (l_7 : Nat) (c_7 : Nat) (n_8 : Int) (n_9 : Int) (n_10 : Int) : chunkA env c q59 u59 (f59 J) d59 (retA env Go.Proofs.Tryz.f59.results.toList k) (.r (.l (.l (.r (.l (.l (.l (.r (.r (.r (.r (.l (.r (.r (.r (.r (.r (.r (.l (.r .root)))))))))))))))))))) (fset (fset (fset (fset (fset (fset f 0 (.str l_0 c_0)) 1 (.int .i32 n_1)) 7 (.str l_7 c_7)) 8 (.int .i64 n_8)) 9 (.int .i64 n_9)) 10 (.int .i64 n_10)) h = s59_4 c k J l_0 c_0 n_1 l_7 c_7 n_8 n_9 n_10 h := by kernel_rfl
theorem e59_5 (c : Caller Prop FT) (k : KV) (J : J59) (f : FT) (h : H) (l_0 : Nat) (c_0 : Nat) (n_1 : Int) (l_7 : Nat) (c_7 : Nat) (n_8 : Int) (n_9 : Int) (n_10 : Int) : chunkA env c q59 u59 (f59 J) d59 (retA env Go.Proofs.Tryz.f59.results.toList k) (.lab (.l (.r (.l (.l (.l (.r (.r (.r (.r (.l (.r (.r (.r (.r (.r (.r (.l (.r .root)))))))))))))))))) 0) (fset (fset (fset (fset (fset (fset f 0 (.str l_0 c_0)) 1 (.int .i32 n_1)) 7 (.str l_7 c_7)) 8 (.int .i64 n_8)) 9 (.int .i64 n_9)) 10 (.int .i64 n_10)) h = s59_5 c k J l_0 c_0 n_1 l_7 c_7 n_8 n_9 n_10 h := by kernel_rfl
theorem e59_6 (c : Caller Prop FT) (k : KV) (J : J59) (f : FT) (h : H) (l_0 : Nat) (c_0 : Nat) (l_7 : Nat) (c_7 : Nat) (n_8 : Int) (n_9 : Int) (n_14 : Int) (n_15 : Int) : chunkA env c q59 u59 (f59 J) d59 (retA env Go.Proofs.Tryz.f59.results.toList k) (.l (.r (.r (.r (.l (.r (.l (.r (.r (.r (.r (.r (.r (.r (.l (.r (.r (.r (.r (.r (.r (.l (.r .root))))))))))))))))))))))) (fset (fset (fset (fset (fset (fset f 0 (.str l_0 c_0)) 7 (.str l_7 c_7)) 8 (.int .i64 n_8)) 9 (.int .i64 n_9)) 14 (.int .u8 n_14)) 15 (.int .u8 n_15)) h = s59_6 c k J l_0 c_0 l_7 c_7 n_8 n_9 n_14 n_15 h := by kernel_rfl
theorem e59_7 (c : Caller Prop FT) (k : KV) (J : J59) (f : FT) (h : H) (l_0 : Nat) (c_0 : Nat) (l_7 : Nat) (c_7 : Nat) (n_8 : Int) (n_9 : Int) (n_14 : Int) (n_15 : Int) (n_16 : Int) : chunkA env c q59 u59 (f59 J) d59 (retA env Go.Proofs.Tryz.f59.results.toList k) (.l (.r (.l (.l (.r (.l (.l (.r (.l (.l (.r (.r (.r (.l (.r (.l (.r (.r (.r (.r (.r (.r (.r (.l (.r (.r (.r (.r (.r (.r (.l (.r .root)))))))))))))))))))))))))))))))) (fset (fset (fset (fset (fset (fset (fset f 0 (.str l_0 c_0)) 7 (.str l_7 c_7)) 8 (.int .i64 n_8)) 9 (.int .i64 n_9)) 14 (.int .u8 n_14)) 15 (.int .u8 n_15)) 16 (.int .i64 n_16)) h = s59_7 c k J l_0 c_0 l_7 c_7 n_8 n_9 n_14 n_15 n_16 h := by kernel_rfl
theorem e59_8 (c : Caller Prop FT) (k : KV) (J : J59) (f : FT) (h : H) (l_0 : Nat) (c_0 : Nat) (l_7 : Nat) (c_7 : Nat) (n_8 : Int) (n_9 : Int) (n_14 : Int) (n_15 : Int) : chunkA env c q59 u59 (f59 J) d59 (retA env Go.Proofs.Tryz.f59.results.toList k) (.r (.r (.l (.l (.r (.r (.r (.l (.r (.l (.r (.r (.r (.r (.r (.r (.r (.l (.r (.r (.r (.r (.r (.r (.l (.r .root)))))))))))))))))))))))))) (fset (fset (fset (fset (fset (fset f 0 (.str l_0 c_0)) 7 (.str l_7 c_7)) 8 (.int .i64 n_8)) 9 (.int .i64 n_9)) 14 (.int .u8 n_14)) 15 (.int .u8 n_15)) h = s59_8 c k J l_0 c_0 l_7 c_7 n_8 n_9 n_14 n_15 h := by kernel_rfl
theorem e59_9 (c : Caller Prop FT) (k : KV) (J : J59) (f : FT) (h : H) (l_0 : Nat) (c_0 : Nat) (l_7 : Nat) (c_7 : Nat) (n_8 : Int) (n_9 : Int) (n_14 : Int) (n_15 : Int) : chunkA env c q59 u59 (f59 J) d59 (retA env Go.Proofs.Tryz.f59.results.toList k) (.lab (.r (.l (.r (.r (.r (.r (.r (.r (.r (.l (.r (.r (.r (.r (.r (.r (.l (.r .root)))))))))))))))))) 2) (fset (fset (fset (fset (fset (fset f 0 (.str l_0 c_0)) 7 (.str l_7 c_7)) 8 (.int .i64 n_8)) 9 (.int .i64 n_9)) 14 (.int .u8 n_14)) 15 (.int .u8 n_15)) h = s59_9 c k J l_0 c_0 l_7 c_7 n_8 n_9 n_14 n_15 h := by kernel_rfl
theorem e59_10 (c : Caller Prop FT) (k : KV) (J : J59) (f : FT) (h : H) (l_0 : Nat) (c_0 : Nat) (l_7 : Nat) (c_7 : Nat) (n_8 : Int) (n_9 : Int) (n_14 : Int) (n_15 : Int) : chunkA env c q59 u59 (f59 J) d59 (retA env Go.Proofs.Tryz.f59.results.toList k) (.l (.r (.lab (.r (.l (.r (.r (.r (.r (.r (.r (.r (.l (.r (.r (.r (.r (.r (.r (.l (.r .root)))))))))))))))))) 2))) (fset (fset (fset (fset (fset (fset f 0 (.str l_0 c_0)) 7 (.str l_7 c_7)) 8 (.int .i64 n_8)) 9 (.int .i64 n_9)) 14 (.int .u8 n_14)) 15 (.int .u8 n_15)) h = s59_10 c k J l_0 c_0 l_7 c_7 n_8 n_9 n_14 n_15 h := by kernel_rfl
theorem e59_11 (c : Caller Prop FT) (k : KV) (J : J59) (f : FT) (h : H) (l_0 : Nat) (c_0 : Nat) (l_7 : Nat) (c_7 : Nat) (n_8 : Int) (n_9 : Int) (n_14 : Int) (n_15 : Int) (n_16 : Int) : chunkA env c q59 u59 (f59 J) d59 (retA env Go.Proofs.Tryz.f59.results.toList k) (.l (.r (.l (.l (.r (.l (.l (.r (.l (.l (.r (.lab (.r (.l (.r (.r (.r (.r (.r (.r (.r (.l (.r (.r (.r (.r (.r (.r (.l (.r .root)))))))))))))))))) 2)))))))))))) (fset (fset (fset (fset (fset (fset (fset f 0 (.str l_0 c_0)) 7 (.str l_7 c_7)) 8 (.int .i64 n_8)) 9 (.int .i64 n_9)) 14 (.int .u8 n_14)) 15 (.int .u8 n_15)) 16 (.int .i64 n_16)) h = s59_11 c k J l_0 c_0 l_7 c_7 n_8 n_9 n_14 n_15 n_16 h := by kernel_rfl
theorem e59_12 (c : Caller Prop FT) (k : KV) (J : J59) (f : FT) (h : H) (l_0 : Nat) (c_0 : Nat) (l_7 : Nat) (c_7 : Nat) (n_8 : Int) (n_9 : Int) (n_14 : Int) (n_15 : Int) : chunkA env c q59 u59 (f59 J) d59 (retA env Go.Proofs.Tryz.f59.results.toList k) (.r (.r (.l (.l (.r (.lab (.r (.l (.r (.r (.r (.r (.r (.r (.r (.l (.r (.r (.r (.r (.r (.r (.l (.r .root)))))))))))))))))) 2)))))) (fset (fset (fset (fset (fset (fset f 0 (.str l_0 c_0)) 7 (.str l_7 c_7)) 8 (.int .i64 n_8)) 9 (.int .i64 n_9)) 14 (.int .u8 n_14)) 15 (.int .u8 n_15)) h = s59_12 c k J l_0 c_0 l_7 c_7 n_8 n_9 n_14 n_15 h := by kernel_rfl
theorem e59_13 (c : Caller Prop FT) (k : KV) (J : J59) (f : FT) (h : H) (l_0 : Nat) (c_0 : Nat) (n_1 : Int) (l_7 : Nat) (c_7 : Nat) (n_8 : Int) (n_9 : Int) : chunkA env c q59 u59 (f59 J) d59 (retA env Go.Proofs.Tryz.f59.results.toList k) (.lab (.r (.r (.r (.r (.r (.r (.l (.r .root)))))))) 1) (fset (fset (fset (fset (fset f 0 (.str l_0 c_0)) 1 (.int .i32 n_1)) 7 (.str l_7 c_7)) 8 (.int .i64 n_8)) 9 (.int .i64 n_9)) h = s59_13 c k J l_0 c_0 n_1 l_7 c_7 n_8 n_9 h := by kernel_rfl
theorem e59_14 (c : Caller Prop FT) (k : KV) (J : J59) (f : FT) (h : H) (l_0 : Nat) (c_0 : Nat) (l_7 : Nat) (c_7 : Nat) (n_8 : Int) (n_9 : Int) (n_14 : Int) (n_15 : Int) : chunkA env c q59 u59 (f59 J) d59 (retA env Go.Proofs.Tryz.f59.results.toList k) (.l (.r (.r (.r (.l (.r (.l (.r (.lab (.r (.r (.r (.r (.r (.r (.l (.r .root)))))))) 1))))))))) (fset (fset (fset (fset (fset (fset f 0 (.str l_0 c_0)) 7 (.str l_7 c_7)) 8 (.int .i64 n_8)) 9 (.int .i64 n_9)) 14 (.int .u8 n_14)) 15 (.int .u8 n_15)) h = s59_14 c k J l_0 c_0 l_7 c_7 n_8 n_9 n_14 n_15 h := by kernel_rfl
theorem e59_15 (c : Caller Prop FT) (k : KV) (J : J59) (f : FT) (h : H) (l_0 : Nat) (c_0 : Nat) (l_7 : Nat) (c_7 : Nat) (n_8 : Int) (n_9 : Int) (n_14 : Int) (n_15 : Int) (n_16 : Int) : chunkA env c q59 u59 (f59 J) d59 (retA env Go.Proofs.Tryz.f59.results.toList k) (.l (.r (.l (.l (.r (.l (.l (.r (.l (.l (.r (.r (.r (.l (.r (.l (.r (.lab (.r (.r (.r (.r (.r (.r (.l (.r .root)))))))) 1)))))))))))))))))) (fset (fset (fset (fset (fset (fset (fset f 0 (.str l_0 c_0)) 7 (.str l_7 c_7)) 8 (.int .i64 n_8)) 9 (.int .i64 n_9)) 14 (.int .u8 n_14)) 15 (.int .u8 n_15)) 16 (.int .i64 n_16)) h = s59_15 c k J l_0 c_0 l_7 c_7 n_8 n_9 n_14 n_15 n_16 h := by kernel_rfl
theorem e59_16 (c : Caller Prop FT) (k : KV) (J : J59) (f : FT) (h : H) (l_0 : Nat) (c_0 : Nat) (l_7 : Nat) (c_7 : Nat) (n_8 : Int) (n_9 : Int) (n_14 : Int) (n_15 : Int) : chunkA env c q59 u59 (f59 J) d59 (retA env Go.Proofs.Tryz.f59.results.toList k) (.r (.r (.l (.l (.r (.r (.r (.l (.r (.l (.r (.lab (.r (.r (.r (.r (.r (.r (.l (.r .root)))))))) 1)))))))))))) (fset (fset (fset (fset (fset (fset f 0 (.str l_0 c_0)) 7 (.str l_7 c_7)) 8 (.int .i64 n_8)) 9 (.int .i64 n_9)) 14 (.int .u8 n_14)) 15 (.int .u8 n_15)) h = s59_16 c k J l_0 c_0 l_7 c_7 n_8 n_9 n_14 n_15 h := by kernel_rfl
theorem e59_17 (c : Caller Prop FT) (k : KV) (J : J59) (f : FT) (h : H) (l_0 : Nat) (c_0 : Nat) (l_7 : Nat) (c_7 : Nat) (n_8 : Int) (n_9 : Int) (n_14 : Int) (n_15 : Int) : chunkA env c q59 u59 (f59 J) d59 (retA env Go.Proofs.Tryz.f59.results.toList k) (.lab (.r (.l (.r (.lab (.r (.r (.r (.r (.r (.r (.l (.r .root)))))))) 1)))) 2) (fset (fset (fset (fset (fset (fset f 0 (.str l_0 c_0)) 7 (.str l_7 c_7)) 8 (.int .i64 n_8)) 9 (.int .i64 n_9)) 14 (.int .u8 n_14)) 15 (.int .u8 n_15)) h = s59_17 c k J l_0 c_0 l_7 c_7 n_8 n_9 n_14 n_15 h := by kernel_rfl
theorem e59_18 (c : Caller Prop FT) (k : KV) (J : J59) (f : FT) (h : H) (l_0 : Nat) (c_0 : Nat) (l_7 : Nat) (c_7 : Nat) (n_8 : Int) (n_9 : Int) (n_14 : Int) (n_15 : Int) : chunkA env c q59 u59 (f59 J) d59 (retA env Go.Proofs.Tryz.f59.results.toList k) (.l (.r (.lab (.r (.l (.r (.lab (.r (.r (.r (.r (.r (.r (.l (.r .root)))))))) 1)))) 2))) (fset (fset (fset (fset (fset (fset f 0 (.str l_0 c_0)) 7 (.str l_7 c_7)) 8 (.int .i64 n_8)) 9 (.int .i64 n_9)) 14 (.int .u8 n_14)) 15 (.int .u8 n_15)) h = s59_18 c k J l_0 c_0 l_7 c_7 n_8 n_9 n_14 n_15 h := by kernel_rfl
theorem e59_19 (c : Caller Prop FT) (k : KV) (J : J59) (f : FT) (h : H) (l_0 : Nat) (c_0 : Nat) (l_7 : Nat) (c_7 : Nat) (n_8 : Int) (n_9 : Int) (n_14 : Int) (n_15 : Int) (n_16 : Int) : chunkA env c q59 u59 (f59 J) d59 (retA env Go.Proofs.Tryz.f59.results.toList k) (.l (.r (.l (.l (.r (.l (.l (.r (.l (.l (.r (.lab (.r (.l (.r (.lab (.r (.r (.r (.r (.r (.r (.l (.r .root)))))))) 1)))) 2)))))))))))) (fset (fset (fset (fset (fset (fset (fset f 0 (.str l_0 c_0)) 7 (.str l_7 c_7)) 8 (.int .i64 n_8)) 9 (.int .i64 n_9)) 14 (.int .u8 n_14)) 15 (.int .u8 n_15)) 16 (.int .i64 n_16)) h = s59_19 c k J l_0 c_0 l_7 c_7 n_8 n_9 n_14 n_15 n_16 h := by kernel_rfl
theorem e59_20 (c : Caller Prop FT) (k : KV) (J : J59) (f : FT) (h : H) (l_0 : Nat) (c_0 : Nat) (l_7 : Nat) (c_7 : Nat) (n_8 : Int) (n_9 : Int) (n_14 : Int) (n_15 : Int) : chunkA env c q59 u59 (f59 J) d59 (retA env Go.Proofs.Tryz.f59.results.toList k) (.r (.r (.l (.l (.r (.lab (.r (.l (.r (.lab (.r (.r (.r (.r (.r (.r (.l (.r .root)))))))) 1)))) 2)))))) (fset (fset (fset (fset (fset (fset f 0 (.str l_0 c_0)) 7 (.str l_7 c_7)) 8 (.int .i64 n_8)) 9 (.int .i64 n_9)) 14 (.int .u8 n_14)) 15 (.int .u8 n_15)) h = s59_20 c k J l_0 c_0 l_7 c_7 n_8 n_9 n_14 n_15 h := by kernel_rfl
theorem e59_21 (c : Caller Prop FT) (k : KV) (J : J59) (f : FT) (h : H) (n_8 : Int) (n_9 : Int) (n_13 : Int) : chunkA env c q59 u59 (f59 J) d59 (retA env Go.Proofs.Tryz.f59.results.toList k) (.r (.l (.l (.r (.r (.r (.r (.r (.r (.r (.l (.r (.r (.r (.r (.r (.r (.l (.r .root))))))))))))))))))) (fset (fset (fset f 8 (.int .i64 n_8)) 9 (.int .i64 n_9)) 13 (.int .i64 n_13)) h = s59_21 c k J n_8 n_9 n_13 h := by kernel_rfl
theorem e59_22 (c : Caller Prop FT) (k : KV) (J : J59) (f : FT) (h : H) (l_0 : Nat) (c_0 : Nat) (l_7 : Nat) (c_7 : Nat) (n_8 : Int) (n_9 : Int) (n_14 : Int) (n_15 : Int) : chunkA env c q59 u59 (f59 J) d59 (retA env Go.Proofs.Tryz.f59.results.toList k) (.r (.r (.l (.r (.l (.r (.r (.r (.r (.r (.r (.r (.l (.r (.r (.r (.r (.r (.r (.l (.r .root))))))))))))))))))))) (fset (fset (fset (fset (fset (fset f 0 (.str l_0 c_0)) 7 (.str l_7 c_7)) 8 (.int .i64 n_8)) 9 (.int .i64 n_9)) 14 (.int .u8 n_14)) 15 (.int .u8 n_15)) h = s59_22 c k J l_0 c_0 l_7 c_7 n_8 n_9 n_14 n_15 h := by kernel_rfl
theorem w59 {c : Caller Prop FT} (hc : CallOk Go.Proofs.Tryz.prog (CP env) G (fun p => p) c) {k : KV} {n : Nat} {args : List AV} {h : H} (hg : f59 (r59 c k n) 0 (finit args) h) : SW Go.Proofs.Tryz.prog G (.func 59) args h k :=
  fn_ok mixed envOk hc q59 Go.Proofs.Tryz.func59 rfl (by kernel_rfl) (by kernel_rfl) k u59 (fun n => f59 (r59 c k n))
    (fun L f h hl => by
      match L, hl with
      | 0, hl => obtain ⟨_, _, _, hl0⟩ := asS_inv (show _ from hl); obtain ⟨_, _, hl1⟩ := asI_inv (show _ from hl0); exact hl1
      | 1, hl => exact hl
      | 2, hl => obtain ⟨_, _, _, hl0⟩ := asS_inv (show _ from hl); obtain ⟨_, _, hl1⟩ := asI_inv (show _ from hl0); obtain ⟨_, _, _, hl2⟩ := asS_inv (show _ from hl1); obtain ⟨_, _, hl3⟩ := asI_inv (show _ from hl2); obtain ⟨_, _, hl4⟩ := asI_inv (show _ from hl3); obtain ⟨_, _, hl5⟩ := asI_inv (show _ from hl4); exact hl5
      | 3, hl => obtain ⟨_, _, _, hl0⟩ := asS_inv (show _ from hl); obtain ⟨_, _, hl1⟩ := asI_inv (show _ from hl0); obtain ⟨_, _, _, hl2⟩ := asS_inv (show _ from hl1); obtain ⟨_, _, hl3⟩ := asI_inv (show _ from hl2); obtain ⟨_, _, hl4⟩ := asI_inv (show _ from hl3); obtain ⟨_, _, hl5⟩ := asI_inv (show _ from hl4); obtain ⟨_, _, hl6⟩ := asI_inv (show _ from hl5); exact hl6
      | 4, hl => obtain ⟨_, _, _, hl0⟩ := asS_inv (show _ from hl); obtain ⟨_, _, hl1⟩ := asI_inv (show _ from hl0); obtain ⟨_, _, _, hl2⟩ := asS_inv (show _ from hl1); obtain ⟨_, _, hl3⟩ := asI_inv (show _ from hl2); obtain ⟨_, _, hl4⟩ := asI_inv (show _ from hl3); obtain ⟨_, _, hl5⟩ := asI_inv (show _ from hl4); exact hl5
      | 5, hl => obtain ⟨_, _, _, hl0⟩ := asS_inv (show _ from hl); obtain ⟨_, _, hl1⟩ := asI_inv (show _ from hl0); obtain ⟨_, _, _, hl2⟩ := asS_inv (show _ from hl1); obtain ⟨_, _, hl3⟩ := asI_inv (show _ from hl2); obtain ⟨_, _, hl4⟩ := asI_inv (show _ from hl3); obtain ⟨_, _, hl5⟩ := asI_inv (show _ from hl4); exact hl5
      | 6, hl => obtain ⟨_, _, _, hl0⟩ := asS_inv (show _ from hl); obtain ⟨_, _, _, hl1⟩ := asS_inv (show _ from hl0); obtain ⟨_, _, hl2⟩ := asI_inv (show _ from hl1); obtain ⟨_, _, hl3⟩ := asI_inv (show _ from hl2); obtain ⟨_, _, hl4⟩ := asI_inv (show _ from hl3); obtain ⟨_, _, hl5⟩ := asI_inv (show _ from hl4); exact hl5
      | 7, hl => obtain ⟨_, _, _, hl0⟩ := asS_inv (show _ from hl); obtain ⟨_, _, _, hl1⟩ := asS_inv (show _ from hl0); obtain ⟨_, _, hl2⟩ := asI_inv (show _ from hl1); obtain ⟨_, _, hl3⟩ := asI_inv (show _ from hl2); obtain ⟨_, _, hl4⟩ := asI_inv (show _ from hl3); obtain ⟨_, _, hl5⟩ := asI_inv (show _ from hl4); obtain ⟨_, _, hl6⟩ := asI_inv (show _ from hl5); exact hl6
      | 8, hl => obtain ⟨_, _, _, hl0⟩ := asS_inv (show _ from hl); obtain ⟨_, _, _, hl1⟩ := asS_inv (show _ from hl0); obtain ⟨_, _, hl2⟩ := asI_inv (show _ from hl1); obtain ⟨_, _, hl3⟩ := asI_inv (show _ from hl2); obtain ⟨_, _, hl4⟩ := asI_inv (show _ from hl3); obtain ⟨_, _, hl5⟩ := asI_inv (show _ from hl4); exact hl5
      | 9, hl => obtain ⟨_, _, _, hl0⟩ := asS_inv (show _ from hl); obtain ⟨_, _, _, hl1⟩ := asS_inv (show _ from hl0); obtain ⟨_, _, hl2⟩ := asI_inv (show _ from hl1); obtain ⟨_, _, hl3⟩ := asI_inv (show _ from hl2); obtain ⟨_, _, hl4⟩ := asI_inv (show _ from hl3); obtain ⟨_, _, hl5⟩ := asI_inv (show _ from hl4); exact hl5
      | 10, hl => obtain ⟨_, _, _, hl0⟩ := asS_inv (show _ from hl); obtain ⟨_, _, _, hl1⟩ := asS_inv (show _ from hl0); obtain ⟨_, _, hl2⟩ := asI_inv (show _ from hl1); obtain ⟨_, _, hl3⟩ := asI_inv (show _ from hl2); obtain ⟨_, _, hl4⟩ := asI_inv (show _ from hl3); obtain ⟨_, _, hl5⟩ := asI_inv (show _ from hl4); exact hl5
      | 11, hl => obtain ⟨_, _, _, hl0⟩ := asS_inv (show _ from hl); obtain ⟨_, _, _, hl1⟩ := asS_inv (show _ from hl0); obtain ⟨_, _, hl2⟩ := asI_inv (show _ from hl1); obtain ⟨_, _, hl3⟩ := asI_inv (show _ from hl2); obtain ⟨_, _, hl4⟩ := asI_inv (show _ from hl3); obtain ⟨_, _, hl5⟩ := asI_inv (show _ from hl4); obtain ⟨_, _, hl6⟩ := asI_inv (show _ from hl5); exact hl6
      | 12, hl => obtain ⟨_, _, _, hl0⟩ := asS_inv (show _ from hl); obtain ⟨_, _, _, hl1⟩ := asS_inv (show _ from hl0); obtain ⟨_, _, hl2⟩ := asI_inv (show _ from hl1); obtain ⟨_, _, hl3⟩ := asI_inv (show _ from hl2); obtain ⟨_, _, hl4⟩ := asI_inv (show _ from hl3); obtain ⟨_, _, hl5⟩ := asI_inv (show _ from hl4); exact hl5
      | 13, hl => obtain ⟨_, _, _, hl0⟩ := asS_inv (show _ from hl); obtain ⟨_, _, hl1⟩ := asI_inv (show _ from hl0); obtain ⟨_, _, _, hl2⟩ := asS_inv (show _ from hl1); obtain ⟨_, _, hl3⟩ := asI_inv (show _ from hl2); obtain ⟨_, _, hl4⟩ := asI_inv (show _ from hl3); exact hl4
      | 14, hl => obtain ⟨_, _, _, hl0⟩ := asS_inv (show _ from hl); obtain ⟨_, _, _, hl1⟩ := asS_inv (show _ from hl0); obtain ⟨_, _, hl2⟩ := asI_inv (show _ from hl1); obtain ⟨_, _, hl3⟩ := asI_inv (show _ from hl2); obtain ⟨_, _, hl4⟩ := asI_inv (show _ from hl3); obtain ⟨_, _, hl5⟩ := asI_inv (show _ from hl4); exact hl5
      | 15, hl => obtain ⟨_, _, _, hl0⟩ := asS_inv (show _ from hl); obtain ⟨_, _, _, hl1⟩ := asS_inv (show _ from hl0); obtain ⟨_, _, hl2⟩ := asI_inv (show _ from hl1); obtain ⟨_, _, hl3⟩ := asI_inv (show _ from hl2); obtain ⟨_, _, hl4⟩ := asI_inv (show _ from hl3); obtain ⟨_, _, hl5⟩ := asI_inv (show _ from hl4); obtain ⟨_, _, hl6⟩ := asI_inv (show _ from hl5); exact hl6
      | 16, hl => obtain ⟨_, _, _, hl0⟩ := asS_inv (show _ from hl); obtain ⟨_, _, _, hl1⟩ := asS_inv (show _ from hl0); obtain ⟨_, _, hl2⟩ := asI_inv (show _ from hl1); obtain ⟨_, _, hl3⟩ := asI_inv (show _ from hl2); obtain ⟨_, _, hl4⟩ := asI_inv (show _ from hl3); obtain ⟨_, _, hl5⟩ := asI_inv (show _ from hl4); exact hl5
      | 17, hl => obtain ⟨_, _, _, hl0⟩ := asS_inv (show _ from hl); obtain ⟨_, _, _, hl1⟩ := asS_inv (show _ from hl0); obtain ⟨_, _, hl2⟩ := asI_inv (show _ from hl1); obtain ⟨_, _, hl3⟩ := asI_inv (show _ from hl2); obtain ⟨_, _, hl4⟩ := asI_inv (show _ from hl3); obtain ⟨_, _, hl5⟩ := asI_inv (show _ from hl4); exact hl5
      | 18, hl => obtain ⟨_, _, _, hl0⟩ := asS_inv (show _ from hl); obtain ⟨_, _, _, hl1⟩ := asS_inv (show _ from hl0); obtain ⟨_, _, hl2⟩ := asI_inv (show _ from hl1); obtain ⟨_, _, hl3⟩ := asI_inv (show _ from hl2); obtain ⟨_, _, hl4⟩ := asI_inv (show _ from hl3); obtain ⟨_, _, hl5⟩ := asI_inv (show _ from hl4); exact hl5
      | 19, hl => obtain ⟨_, _, _, hl0⟩ := asS_inv (show _ from hl); obtain ⟨_, _, _, hl1⟩ := asS_inv (show _ from hl0); obtain ⟨_, _, hl2⟩ := asI_inv (show _ from hl1); obtain ⟨_, _, hl3⟩ := asI_inv (show _ from hl2); obtain ⟨_, _, hl4⟩ := asI_inv (show _ from hl3); obtain ⟨_, _, hl5⟩ := asI_inv (show _ from hl4); obtain ⟨_, _, hl6⟩ := asI_inv (show _ from hl5); exact hl6
      | 20, hl => obtain ⟨_, _, _, hl0⟩ := asS_inv (show _ from hl); obtain ⟨_, _, _, hl1⟩ := asS_inv (show _ from hl0); obtain ⟨_, _, hl2⟩ := asI_inv (show _ from hl1); obtain ⟨_, _, hl3⟩ := asI_inv (show _ from hl2); obtain ⟨_, _, hl4⟩ := asI_inv (show _ from hl3); obtain ⟨_, _, hl5⟩ := asI_inv (show _ from hl4); exact hl5
      | 21, hl => obtain ⟨_, _, hl0⟩ := asI_inv (show _ from hl); obtain ⟨_, _, hl1⟩ := asI_inv (show _ from hl0); obtain ⟨_, _, hl2⟩ := asI_inv (show _ from hl1); exact hl2
      | 22, hl => obtain ⟨_, _, _, hl0⟩ := asS_inv (show _ from hl); obtain ⟨_, _, _, hl1⟩ := asS_inv (show _ from hl0); obtain ⟨_, _, hl2⟩ := asI_inv (show _ from hl1); obtain ⟨_, _, hl3⟩ := asI_inv (show _ from hl2); obtain ⟨_, _, hl4⟩ := asI_inv (show _ from hl3); obtain ⟨_, _, hl5⟩ := asI_inv (show _ from hl4); exact hl5
      | _ + 23, hl => exact hl)
    (fun n p L hm f h hl => by
      simp only [u59, List.mem_cons, Prod.mk.injEq, List.not_mem_nil, or_false] at hm
      rcases hm with ⟨rfl, rfl⟩ | ⟨rfl, rfl⟩ | ⟨rfl, rfl⟩ | ⟨rfl, rfl⟩ | ⟨rfl, rfl⟩ | ⟨rfl, rfl⟩ | ⟨rfl, rfl⟩ | ⟨rfl, rfl⟩ | ⟨rfl, rfl⟩ | ⟨rfl, rfl⟩ | ⟨rfl, rfl⟩ | ⟨rfl, rfl⟩ | ⟨rfl, rfl⟩ | ⟨rfl, rfl⟩ | ⟨rfl, rfl⟩ | ⟨rfl, rfl⟩ | ⟨rfl, rfl⟩ | ⟨rfl, rfl⟩ | ⟨rfl, rfl⟩ | ⟨rfl, rfl⟩ | ⟨rfl, rfl⟩ | ⟨rfl, rfl⟩ | ⟨rfl, rfl⟩
      · have hl : f59 (r59 c k (n + 1)) 0 f h := hl
        obtain ⟨l_0, c_0, e_0, hl0⟩ := asS_inv hl
        obtain ⟨n_1, e_1, hl1⟩ := asI_inv hl0
        have hh := e59_0 c k (r59 c k n) f h l_0 c_0 n_1
        rw [fset_self e_0] at hh
        rw [fset_self e_1] at hh
        exact Eq.mpr hh hl1
      · have hl : f59 (r59 c k (n + 1)) 1 f h := hl
        have hh := e59_1 c k (r59 c k n) f h (f 175)
        rw [fset_self (rfl : f 175 = f 175)] at hh
        exact Eq.mpr hh hl
      · have hl : f59 (r59 c k (n + 1)) 2 f h := hl
        obtain ⟨l_0, c_0, e_0, hl0⟩ := asS_inv hl
        obtain ⟨n_1, e_1, hl1⟩ := asI_inv hl0
        obtain ⟨l_7, c_7, e_7, hl2⟩ := asS_inv hl1
        obtain ⟨n_8, e_8, hl3⟩ := asI_inv hl2
        obtain ⟨n_9, e_9, hl4⟩ := asI_inv hl3
        obtain ⟨n_10, e_10, hl5⟩ := asI_inv hl4
        have hh := e59_2 c k (r59 c k n) f h l_0 c_0 n_1 l_7 c_7 n_8 n_9 n_10
        rw [fset_self e_0] at hh
        rw [fset_self e_1] at hh
        rw [fset_self e_7] at hh
        rw [fset_self e_8] at hh
        rw [fset_self e_9] at hh
        rw [fset_self e_10] at hh
        exact Eq.mpr hh hl5
      · have hl : f59 (r59 c k (n + 1)) 3 f h := hl
        obtain ⟨l_0, c_0, e_0, hl0⟩ := asS_inv hl
        obtain ⟨n_1, e_1, hl1⟩ := asI_inv hl0
        obtain ⟨l_7, c_7, e_7, hl2⟩ := asS_inv hl1
        obtain ⟨n_8, e_8, hl3⟩ := asI_inv hl2
        obtain ⟨n_9, e_9, hl4⟩ := asI_inv hl3
        obtain ⟨n_10, e_10, hl5⟩ := asI_inv hl4
        obtain ⟨n_12, e_12, hl6⟩ := asI_inv hl5
        have hh := e59_3 c k (r59 c k n) f h l_0 c_0 n_1 l_7 c_7 n_8 n_9 n_10 n_12
        rw [fset_self e_0] at hh
        rw [fset_self e_1] at hh
        rw [fset_self e_7] at hh
        rw [fset_self e_8] at hh
        rw [fset_self e_9] at hh
        rw [fset_self e_10] at hh
        rw [fset_self e_12] at hh
        exact Eq.mpr hh hl6
      · have hl : f59 (r59 c k (n + 1)) 4 f h := hl
        obtain ⟨l_0, c_0, e_0, hl0⟩ := asS_inv hl
        obtain ⟨n_1, e_1, hl1⟩ := asI_inv hl0
        obtain ⟨l_7, c_7, e_7, hl2⟩ := asS_inv hl1
        obtain ⟨n_8, e_8, hl3⟩ := asI_inv hl2
        obtain ⟨n_9, e_9, hl4⟩ := asI_inv hl3
        obtain ⟨n_10, e_10, hl5⟩ := asI_inv hl4
        have hh := e59_4 c k (r59 c k n) f h l_0 c_0 n_1 l_7 c_7 n_8 n_9 n_10
        rw [fset_self e_0] at hh
        rw [fset_self e_1] at hh
        rw [fset_self e_7] at hh
        rw [fset_self e_8] at hh
        rw [fset_self e_9] at hh
        rw [fset_self e_10] at hh
        exact Eq.mpr hh hl5
      · have hl : f59 (r59 c k (n + 1)) 5 f h := hl
        obtain ⟨l_0, c_0, e_0, hl0⟩ := asS_inv hl
        obtain ⟨n_1, e_1, hl1⟩ := asI_inv hl0
        obtain ⟨l_7, c_7, e_7, hl2⟩ := asS_inv hl1
        obtain ⟨n_8, e_8, hl3⟩ := asI_inv hl2
        obtain ⟨n_9, e_9, hl4⟩ := asI_inv hl3
        obtain ⟨n_10, e_10, hl5⟩ := asI_inv hl4
        have hh := e59_5 c k (r59 c k n) f h l_0 c_0 n_1 l_7 c_7 n_8 n_9 n_10
        rw [fset_self e_0] at hh
        rw [fset_self e_1] at hh
        rw [fset_self e_7] at hh
        rw [fset_self e_8] at hh
        rw [fset_self e_9] at hh
        rw [fset_self e_10] at hh
        exact Eq.mpr hh hl5
      · have hl : f59 (r59 c k (n + 1)) 6 f h := hl
        obtain ⟨l_0, c_0, e_0, hl0⟩ := asS_inv hl
        obtain ⟨l_7, c_7, e_7, hl1⟩ := asS_inv hl0
        obtain ⟨n_8, e_8, hl2⟩ := asI_inv hl1
        obtain ⟨n_9, e_9, hl3⟩ := asI_inv hl2
        obtain ⟨n_14, e_14, hl4⟩ := asI_inv hl3
        obtain ⟨n_15, e_15, hl5⟩ := asI_inv hl4
        have hh := e59_6 c k (r59 c k n) f h l_0 c_0 l_7 c_7 n_8 n_9 n_14 n_15
        rw [fset_self e_0] at hh
        rw [fset_self e_7] at hh
        rw [fset_self e_8] at hh
        rw [fset_self e_9] at hh
        rw [fset_self e_14] at hh
        rw [fset_self e_15] at hh
        exact Eq.mpr hh hl5
      · have hl : f59 (r59 c k (n + 1)) 7 f h := hl
        obtain ⟨l_0, c_0, e_0, hl0⟩ := asS_inv hl
        obtain ⟨l_7, c_7, e_7, hl1⟩ := asS_inv hl0
        obtain ⟨n_8, e_8, hl2⟩ := asI_inv hl1
        obtain ⟨n_9, e_9, hl3⟩ := asI_inv hl2
        obtain ⟨n_14, e_14, hl4⟩ := asI_inv hl3
        obtain ⟨n_15, e_15, hl5⟩ := asI_inv hl4
        obtain ⟨n_16, e_16, hl6⟩ := asI_inv hl5
        have hh := e59_7 c k (r59 c k n) f h l_0 c_0 l_7 c_7 n_8 n_9 n_14 n_15 n_16
        rw [fset_self e_0] at hh
        rw [fset_self e_7] at hh
        rw [fset_self e_8] at hh
        rw [fset_self e_9] at hh
        rw [fset_self e_14] at hh
        rw [fset_self e_15] at hh
        rw [fset_self e_16] at hh
        exact Eq.mpr hh hl6
      · have hl : f59 (r59 c k (n + 1)) 8 f h := hl
        obtain ⟨l_0, c_0, e_0, hl0⟩ := asS_inv hl
        obtain ⟨l_7, c_7, e_7, hl1⟩ := asS_inv hl0
        obtain ⟨n_8, e_8, hl2⟩ := asI_inv hl1
        obtain ⟨n_9, e_9, hl3⟩ := asI_inv hl2
        obtain ⟨n_14, e_14, hl4⟩ := asI_inv hl3
        obtain ⟨n_15, e_15, hl5⟩ := asI_inv hl4
        have hh := e59_8 c k (r59 c k n) f h l_0 c_0 l_7 c_7 n_8 n_9 n_14 n_15
        rw [fset_self e_0] at hh
        rw [fset_self e_7] at hh
        rw [fset_self e_8] at hh
        rw [fset_self e_9] at hh
        rw [fset_self e_14] at hh
        rw [fset_self e_15] at hh
        exact Eq.mpr hh hl5
      · have hl : f59 (r59 c k (n + 1)) 9 f h := hl
        obtain ⟨l_0, c_0, e_0, hl0⟩ := asS_inv hl
        obtain ⟨l_7, c_7, e_7, hl1⟩ := asS_inv hl0
        obtain ⟨n_8, e_8, hl2⟩ := asI_inv hl1
        obtain ⟨n_9, e_9, hl3⟩ := asI_inv hl2
        obtain ⟨n_14, e_14, hl4⟩ := asI_inv hl3
        obtain ⟨n_15, e_15, hl5⟩ := asI_inv hl4
        have hh := e59_9 c k (r59 c k n) f h l_0 c_0 l_7 c_7 n_8 n_9 n_14 n_15
        rw [fset_self e_0] at hh
        rw [fset_self e_7] at hh
        rw [fset_self e_8] at hh
        rw [fset_self e_9] at hh
        rw [fset_self e_14] at hh
        rw [fset_self e_15] at hh
        exact Eq.mpr hh hl5
      · have hl : f59 (r59 c k (n + 1)) 10 f h := hl
        obtain ⟨l_0, c_0, e_0, hl0⟩ := asS_inv hl
        obtain ⟨l_7, c_7, e_7, hl1⟩ := asS_inv hl0
        obtain ⟨n_8, e_8, hl2⟩ := asI_inv hl1
        obtain ⟨n_9, e_9, hl3⟩ := asI_inv hl2
        obtain ⟨n_14, e_14, hl4⟩ := asI_inv hl3
        obtain ⟨n_15, e_15, hl5⟩ := asI_inv hl4
        have hh := e59_10 c k (r59 c k n) f h l_0 c_0 l_7 c_7 n_8 n_9 n_14 n_15
        rw [fset_self e_0] at hh
        rw [fset_self e_7] at hh
        rw [fset_self e_8] at hh
        rw [fset_self e_9] at hh
        rw [fset_self e_14] at hh
        rw [fset_self e_15] at hh
        exact Eq.mpr hh hl5
      · have hl : f59 (r59 c k (n + 1)) 11 f h := hl
        obtain ⟨l_0, c_0, e_0, hl0⟩ := asS_inv hl
        obtain ⟨l_7, c_7, e_7, hl1⟩ := asS_inv hl0
        obtain ⟨n_8, e_8, hl2⟩ := asI_inv hl1
        obtain ⟨n_9, e_9, hl3⟩ := asI_inv hl2
        obtain ⟨n_14, e_14, hl4⟩ := asI_inv hl3
        obtain ⟨n_15, e_15, hl5⟩ := asI_inv hl4
        obtain ⟨n_16, e_16, hl6⟩ := asI_inv hl5
        have hh := e59_11 c k (r59 c k n) f h l_0 c_0 l_7 c_7 n_8 n_9 n_14 n_15 n_16
        rw [fset_self e_0] at hh
        rw [fset_self e_7] at hh
        rw [fset_self e_8] at hh
        rw [fset_self e_9] at hh
        rw [fset_self e_14] at hh
        rw [fset_self e_15] at hh
        rw [fset_self e_16] at hh
        exact Eq.mpr hh hl6
      · have hl : f59 (r59 c k (n + 1)) 12 f h := hl
        obtain ⟨l_0, c_0, e_0, hl0⟩ := asS_inv hl
        obtain ⟨l_7, c_7, e_7, hl1⟩ := asS_inv hl0
        obtain ⟨n_8, e_8, hl2⟩ := asI_inv hl1
        obtain ⟨n_9, e_9, hl3⟩ := asI_inv hl2
        obtain ⟨n_14, e_14, hl4⟩ := asI_inv hl3
        obtain ⟨n_15, e_15, hl5⟩ := asI_inv hl4
        have hh := e59_12 c k (r59 c k n) f h l_0 c_0 l_7 c_7 n_8 n_9 n_14 n_15
        rw [fset_self e_0] at hh
        rw [fset_self e_7] at hh
        rw [fset_self e_8] at hh
        rw [fset_self e_9] at hh
        rw [fset_self e_14] at hh
        rw [fset_self e_15] at hh
        exact Eq.mpr hh hl5
      · have hl : f59 (r59 c k (n + 1)) 13 f h := hl
        obtain ⟨l_0, c_0, e_0, hl0⟩ := asS_inv hl
        obtain ⟨n_1, e_1, hl1⟩ := asI_inv hl0
        obtain ⟨l_7, c_7, e_7, hl2⟩ := asS_inv hl1
        obtain ⟨n_8, e_8, hl3⟩ := asI_inv hl2
        obtain ⟨n_9, e_9, hl4⟩ := asI_inv hl3
        have hh := e59_13 c k (r59 c k n) f h l_0 c_0 n_1 l_7 c_7 n_8 n_9
        rw [fset_self e_0] at hh
        rw [fset_self e_1] at hh
        rw [fset_self e_7] at hh
        rw [fset_self e_8] at hh
        rw [fset_self e_9] at hh
        exact Eq.mpr hh hl4
      · have hl : f59 (r59 c k (n + 1)) 14 f h := hl
        obtain ⟨l_0, c_0, e_0, hl0⟩ := asS_inv hl
        obtain ⟨l_7, c_7, e_7, hl1⟩ := asS_inv hl0
        obtain ⟨n_8, e_8, hl2⟩ := asI_inv hl1
        obtain ⟨n_9, e_9, hl3⟩ := asI_inv hl2
        obtain ⟨n_14, e_14, hl4⟩ := asI_inv hl3
        obtain ⟨n_15, e_15, hl5⟩ := asI_inv hl4
        have hh := e59_14 c k (r59 c k n) f h l_0 c_0 l_7 c_7 n_8 n_9 n_14 n_15
        rw [fset_self e_0] at hh
        rw [fset_self e_7] at hh
        rw [fset_self e_8] at hh
        rw [fset_self e_9] at hh
        rw [fset_self e_14] at hh
        rw [fset_self e_15] at hh
        exact Eq.mpr hh hl5
      · have hl : f59 (r59 c k (n + 1)) 15 f h := hl
        obtain ⟨l_0, c_0, e_0, hl0⟩ := asS_inv hl
        obtain ⟨l_7, c_7, e_7, hl1⟩ := asS_inv hl0
        obtain ⟨n_8, e_8, hl2⟩ := asI_inv hl1
        obtain ⟨n_9, e_9, hl3⟩ := asI_inv hl2
        obtain ⟨n_14, e_14, hl4⟩ := asI_inv hl3
        obtain ⟨n_15, e_15, hl5⟩ := asI_inv hl4
        obtain ⟨n_16, e_16, hl6⟩ := asI_inv hl5
        have hh := e59_15 c k (r59 c k n) f h l_0 c_0 l_7 c_7 n_8 n_9 n_14 n_15 n_16
        rw [fset_self e_0] at hh
        rw [fset_self e_7] at hh
        rw [fset_self e_8] at hh
        rw [fset_self e_9] at hh
        rw [fset_self e_14] at hh
        rw [fset_self e_15] at hh
        rw [fset_self e_16] at hh
        exact Eq.mpr hh hl6
      · have hl : f59 (r59 c k (n + 1)) 16 f h := hl
        obtain ⟨l_0, c_0, e_0, hl0⟩ := asS_inv hl
        obtain ⟨l_7, c_7, e_7, hl1⟩ := asS_inv hl0
        obtain ⟨n_8, e_8, hl2⟩ := asI_inv hl1
        obtain ⟨n_9, e_9, hl3⟩ := asI_inv hl2
        obtain ⟨n_14, e_14, hl4⟩ := asI_inv hl3
        obtain ⟨n_15, e_15, hl5⟩ := asI_inv hl4
        have hh := e59_16 c k (r59 c k n) f h l_0 c_0 l_7 c_7 n_8 n_9 n_14 n_15
        rw [fset_self e_0] at hh
        rw [fset_self e_7] at hh
        rw [fset_self e_8] at hh
        rw [fset_self e_9] at hh
        rw [fset_self e_14] at hh
        rw [fset_self e_15] at hh
        exact Eq.mpr hh hl5
      · have hl : f59 (r59 c k (n + 1)) 17 f h := hl
        obtain ⟨l_0, c_0, e_0, hl0⟩ := asS_inv hl
        obtain ⟨l_7, c_7, e_7, hl1⟩ := asS_inv hl0
        obtain ⟨n_8, e_8, hl2⟩ := asI_inv hl1
        obtain ⟨n_9, e_9, hl3⟩ := asI_inv hl2
        obtain ⟨n_14, e_14, hl4⟩ := asI_inv hl3
        obtain ⟨n_15, e_15, hl5⟩ := asI_inv hl4
        have hh := e59_17 c k (r59 c k n) f h l_0 c_0 l_7 c_7 n_8 n_9 n_14 n_15
        rw [fset_self e_0] at hh
        rw [fset_self e_7] at hh
        rw [fset_self e_8] at hh
        rw [fset_self e_9] at hh
        rw [fset_self e_14] at hh
        rw [fset_self e_15] at hh
        exact Eq.mpr hh hl5
      · have hl : f59 (r59 c k (n + 1)) 18 f h := hl
        obtain ⟨l_0, c_0, e_0, hl0⟩ := asS_inv hl
        obtain ⟨l_7, c_7, e_7, hl1⟩ := asS_inv hl0
        obtain ⟨n_8, e_8, hl2⟩ := asI_inv hl1
        obtain ⟨n_9, e_9, hl3⟩ := asI_inv hl2
        obtain ⟨n_14, e_14, hl4⟩ := asI_inv hl3
        obtain ⟨n_15, e_15, hl5⟩ := asI_inv hl4
        have hh := e59_18 c k (r59 c k n) f h l_0 c_0 l_7 c_7 n_8 n_9 n_14 n_15
        rw [fset_self e_0] at hh
        rw [fset_self e_7] at hh
        rw [fset_self e_8] at hh
        rw [fset_self e_9] at hh
        rw [fset_self e_14] at hh
        rw [fset_self e_15] at hh
        exact Eq.mpr hh hl5
      · have hl : f59 (r59 c k (n + 1)) 19 f h := hl
        obtain ⟨l_0, c_0, e_0, hl0⟩ := asS_inv hl
        obtain ⟨l_7, c_7, e_7, hl1⟩ := asS_inv hl0
        obtain ⟨n_8, e_8, hl2⟩ := asI_inv hl1
        obtain ⟨n_9, e_9, hl3⟩ := asI_inv hl2
        obtain ⟨n_14, e_14, hl4⟩ := asI_inv hl3
        obtain ⟨n_15, e_15, hl5⟩ := asI_inv hl4
        obtain ⟨n_16, e_16, hl6⟩ := asI_inv hl5
        have hh := e59_19 c k (r59 c k n) f h l_0 c_0 l_7 c_7 n_8 n_9 n_14 n_15 n_16
        rw [fset_self e_0] at hh
        rw [fset_self e_7] at hh
        rw [fset_self e_8] at hh
        rw [fset_self e_9] at hh
        rw [fset_self e_14] at hh
        rw [fset_self e_15] at hh
        rw [fset_self e_16] at hh
        exact Eq.mpr hh hl6
      · have hl : f59 (r59 c k (n + 1)) 20 f h := hl
        obtain ⟨l_0, c_0, e_0, hl0⟩ := asS_inv hl
        obtain ⟨l_7, c_7, e_7, hl1⟩ := asS_inv hl0
        obtain ⟨n_8, e_8, hl2⟩ := asI_inv hl1
        obtain ⟨n_9, e_9, hl3⟩ := asI_inv hl2
        obtain ⟨n_14, e_14, hl4⟩ := asI_inv hl3
        obtain ⟨n_15, e_15, hl5⟩ := asI_inv hl4
        have hh := e59_20 c k (r59 c k n) f h l_0 c_0 l_7 c_7 n_8 n_9 n_14 n_15
        rw [fset_self e_0] at hh
        rw [fset_self e_7] at hh
        rw [fset_self e_8] at hh
        rw [fset_self e_9] at hh
        rw [fset_self e_14] at hh
        rw [fset_self e_15] at hh
        exact Eq.mpr hh hl5
      · have hl : f59 (r59 c k (n + 1)) 21 f h := hl
        obtain ⟨n_8, e_8, hl0⟩ := asI_inv hl
        obtain ⟨n_9, e_9, hl1⟩ := asI_inv hl0
        obtain ⟨n_13, e_13, hl2⟩ := asI_inv hl1
        have hh := e59_21 c k (r59 c k n) f h n_8 n_9 n_13
        rw [fset_self e_8] at hh
        rw [fset_self e_9] at hh
        rw [fset_self e_13] at hh
        exact Eq.mpr hh hl2
      · have hl : f59 (r59 c k (n + 1)) 22 f h := hl
        obtain ⟨l_0, c_0, e_0, hl0⟩ := asS_inv hl
        obtain ⟨l_7, c_7, e_7, hl1⟩ := asS_inv hl0
        obtain ⟨n_8, e_8, hl2⟩ := asI_inv hl1
        obtain ⟨n_9, e_9, hl3⟩ := asI_inv hl2
        obtain ⟨n_14, e_14, hl4⟩ := asI_inv hl3
        obtain ⟨n_15, e_15, hl5⟩ := asI_inv hl4
        have hh := e59_22 c k (r59 c k n) f h l_0 c_0 l_7 c_7 n_8 n_9 n_14 n_15
        rw [fset_self e_0] at hh
        rw [fset_self e_7] at hh
        rw [fset_self e_8] at hh
        rw [fset_self e_9] at hh
        rw [fset_self e_14] at hh
        rw [fset_self e_15] at hh
        exact Eq.mpr hh hl5
    ) (by simp [u59]) hg

theorem e60_0 (c : Caller Prop FT) (k : KV) (J : J60) (f : FT) (h : H) (l_0 : Nat) (c_0 : Nat) (l_1 : Nat) (c_1 : Nat) : chunkA env c q60 u60 (f60 J) d60 (retA env Go.Proofs.Tryz.f60.results.toList k) .root (fset (fset f 0 (.str l_0 c_0)) 1 (.str l_1 c_1)) h = s60_0 c k J l_0 c_0 l_1 c_1 h := by kernel_rfl
theorem w60 {c : Caller Prop FT} (hc : CallOk Go.Proofs.Tryz.prog (CP env) G (fun p => p) c) {k : KV} {n : Nat} {args : List AV} {h : H} (hg : f60 (r60 c k n) 0 (finit args) h) : SW Go.Proofs.Tryz.prog G (.func 60) args h k :=
  fn_ok mixed envOk hc q60 Go.Proofs.Tryz.func60 rfl (by kernel_rfl) (by kernel_rfl) k u60 (fun n => f60 (r60 c k n))
    (fun L f h hl => by
      match L, hl with
      | 0, hl => obtain ⟨_, _, _, hl0⟩ := asS_inv (show _ from hl); obtain ⟨_, _, _, hl1⟩ := asS_inv (show _ from hl0); exact hl1
      | _ + 1, hl => exact hl)
    (fun n p L hm f h hl => by
      simp only [u60, List.mem_cons, Prod.mk.injEq, List.not_mem_nil, or_false] at hm
      rcases hm with ⟨rfl, rfl⟩
      · have hl : f60 (r60 c k (n + 1)) 0 f h := hl
        obtain ⟨l_0, c_0, e_0, hl0⟩ := asS_inv hl
        obtain ⟨l_1, c_1, e_1, hl1⟩ := asS_inv hl0
        have hh := e60_0 c k (r60 c k n) f h l_0 c_0 l_1 c_1
        rw [fset_self e_0] at hh
        rw [fset_self e_1] at hh
        exact Eq.mpr hh hl1
    ) (by simp [u60]) hg

theorem e61_0 (c : Caller Prop FT) (k : KV) (J : J61) (f : FT) (h : H) (n_0 : Int) : chunkA env c q61 u61 (f61 J) d61 (retA env Go.Proofs.Tryz.f61.results.toList k) .root (fset f 0 (.int .u8 n_0)) h = s61_0 c k J n_0 h := by kernel_rfl
theorem e61_1 (c : Caller Prop FT) (k : KV) (J : J61) (f : FT) (h : H) (n_0 : Int) (n_4 : Int) : chunkA env c q61 u61 (f61 J) d61 (retA env Go.Proofs.Tryz.f61.results.toList k) (.l (.r (.l (.r .root)))) (fset (fset f 0 (.int .u8 n_0)) 4 (.int .i64 n_4)) h = s61_1 c k J n_0 n_4 h := by kernel_rfl
theorem w61 {c : Caller Prop FT} (hc : CallOk Go.Proofs.Tryz.prog (CP env) G (fun p => p) c) {k : KV} {n : Nat} {args : List AV} {h : H} (hg : f61 (r61 c k n) 0 (finit args) h) : SW Go.Proofs.Tryz.prog G (.func 61) args h k :=
  fn_ok mixed envOk hc q61 Go.Proofs.Tryz.func61 rfl (by kernel_rfl) (by kernel_rfl) k u61 (fun n => f61 (r61 c k n))
    (fun L f h hl => by
      match L, hl with
      | 0, hl => obtain ⟨_, _, hl0⟩ := asI_inv (show _ from hl); exact hl0
      | 1, hl => obtain ⟨_, _, hl0⟩ := asI_inv (show _ from hl); obtain ⟨_, _, hl1⟩ := asI_inv (show _ from hl0); exact hl1
      | _ + 2, hl => exact hl)
    (fun n p L hm f h hl => by
      simp only [u61, List.mem_cons, Prod.mk.injEq, List.not_mem_nil, or_false] at hm
      rcases hm with ⟨rfl, rfl⟩ | ⟨rfl, rfl⟩
      · have hl : f61 (r61 c k (n + 1)) 0 f h := hl
        obtain ⟨n_0, e_0, hl0⟩ := asI_inv hl
        have hh := e61_0 c k (r61 c k n) f h n_0
        rw [fset_self e_0] at hh
        exact Eq.mpr hh hl0
      · have hl : f61 (r61 c k (n + 1)) 1 f h := hl
        obtain ⟨n_0, e_0, hl0⟩ := asI_inv hl
        obtain ⟨n_4, e_4, hl1⟩ := asI_inv hl0
        have hh := e61_1 c k (r61 c k n) f h n_0 n_4
        rw [fset_self e_0] at hh
        rw [fset_self e_4] at hh
        exact Eq.mpr hh hl1
    ) (by simp [u61]) hg

theorem e62_0 (c : Caller Prop FT) (k : KV) (J : J62) (f : FT) (h : H) : chunkA env c q62 u62 (f62 J) d62 (retA env Go.Proofs.Tryz.f62.results.toList k) .root f h = s62_0 c k J  h := by kernel_rfl
theorem w62 {c : Caller Prop FT} (hc : CallOk Go.Proofs.Tryz.prog (CP env) G (fun p => p) c) {k : KV} {n : Nat} {args : List AV} {h : H} (hg : f62 (r62 c k n) 0 (finit args) h) : SW Go.Proofs.Tryz.prog G (.func 62) args h k :=
  fn_ok mixed envOk hc q62 Go.Proofs.Tryz.func62 rfl (by kernel_rfl) (by kernel_rfl) k u62 (fun n => f62 (r62 c k n))
    (fun L f h hl => by
      match L, hl with
      | 0, hl => exact hl
      | _ + 1, hl => exact hl)
    (fun n p L hm f h hl => by
      simp only [u62, List.mem_cons, Prod.mk.injEq, List.not_mem_nil, or_false] at hm
      rcases hm with ⟨rfl, rfl⟩
      · have hl : f62 (r62 c k (n + 1)) 0 f h := hl
        have hh := e62_0 c k (r62 c k n) f h 
        exact Eq.mpr hh hl
    ) (by simp [u62]) hg

theorem e63_0 (c : Caller Prop FT) (k : KV) (J : J63) (f : FT) (h : H) (v_0 : AV) (n_1 : Int) : chunkA env c q63 u63 (f63 J) d63 (retA env Go.Proofs.Tryz.f63.results.toList k) .root (fset (fset f 0 v_0) 1 (.int .u8 n_1)) h = s63_0 c k J v_0 n_1 h := by kernel_rfl
theorem w63 {c : Caller Prop FT} (hc : CallOk Go.Proofs.Tryz.prog (CP env) G (fun p => p) c) {k : KV} {n : Nat} {args : List AV} {h : H} (hg : f63 (r63 c k n) 0 (finit args) h) : SW Go.Proofs.Tryz.prog G (.func 63) args h k :=
  fn_ok mixed envOk hc q63 Go.Proofs.Tryz.func63 rfl (by kernel_rfl) (by kernel_rfl) k u63 (fun n => f63 (r63 c k n))
    (fun L f h hl => by
      match L, hl with
      | 0, hl => obtain ⟨_, _, hl0⟩ := asI_inv (show _ from hl); exact hl0
      | _ + 1, hl => exact hl)
    (fun n p L hm f h hl => by
      simp only [u63, List.mem_cons, Prod.mk.injEq, List.not_mem_nil, or_false] at hm
      rcases hm with ⟨rfl, rfl⟩
      · have hl : f63 (r63 c k (n + 1)) 0 f h := hl
        obtain ⟨n_1, e_1, hl1⟩ := asI_inv hl
        have hh := e63_0 c k (r63 c k n) f h (f 0) n_1
        rw [fset_self (rfl : f 0 = f 0)] at hh
        rw [fset_self e_1] at hh
        exact Eq.mpr hh hl1
    ) (by simp [u63]) hg

theorem e72_0 (c : Caller Prop FT) (k : KV) (J : J72) (f : FT) (h : H) (l_0 : Nat) (c_0 : Nat) (n_1 : Int) : chunkA env c q72 u72 (f72 J) d72 (retA env Go.Proofs.Tryz.f72.results.toList k) .root (fset (fset f 0 (.str l_0 c_0)) 1 (.int .u8 n_1)) h = s72_0 c k J l_0 c_0 n_1 h := by kernel_rfl
theorem w72 {c : Caller Prop FT} (hc : CallOk Go.Proofs.Tryz.prog (CP env) G (fun p => p) c) {k : KV} {n : Nat} {args : List AV} {h : H} (hg : f72 (r72 c k n) 0 (finit args) h) : SW Go.Proofs.Tryz.prog G (.func 72) args h k :=
  fn_ok mixed envOk hc q72 Go.Proofs.Tryz.func72 rfl (by kernel_rfl) (by kernel_rfl) k u72 (fun n => f72 (r72 c k n))
    (fun L f h hl => by
      match L, hl with
      | 0, hl => obtain ⟨_, _, _, hl0⟩ := asS_inv (show _ from hl); obtain ⟨_, _, hl1⟩ := asI_inv (show _ from hl0); exact hl1
      | _ + 1, hl => exact hl)
    (fun n p L hm f h hl => by
      simp only [u72, List.mem_cons, Prod.mk.injEq, List.not_mem_nil, or_false] at hm
      rcases hm with ⟨rfl, rfl⟩
      · have hl : f72 (r72 c k (n + 1)) 0 f h := hl
        obtain ⟨l_0, c_0, e_0, hl0⟩ := asS_inv hl
        obtain ⟨n_1, e_1, hl1⟩ := asI_inv hl0
        have hh := e72_0 c k (r72 c k n) f h l_0 c_0 n_1
        rw [fset_self e_0] at hh
        rw [fset_self e_1] at hh
        exact Eq.mpr hh hl1
    ) (by simp [u72]) hg

theorem e73_0 (c : Caller Prop FT) (k : KV) (J : J73) (f : FT) (h : H) (l_0 : Nat) (c_0 : Nat) (l_1 : Nat) (c_1 : Nat) : chunkA env c q73 u73 (f73 J) d73 (retA env Go.Proofs.Tryz.f73.results.toList k) .root (fset (fset f 0 (.str l_0 c_0)) 1 (.str l_1 c_1)) h = s73_0 c k J l_0 c_0 l_1 c_1 h := by kernel_rfl
theorem w73 {c : Caller Prop FT} (hc : CallOk Go.Proofs.Tryz.prog (CP env) G (fun p => p) c) {k : KV} {n : Nat} {args : List AV} {h : H} (hg : f73 (r73 c k n) 0 (finit args) h) : SW Go.Proofs.Tryz.prog G (.func 73) args h k :=
  fn_ok mixed envOk hc q73 Go.Proofs.Tryz.func73 rfl (by kernel_rfl) (by kernel_rfl) k u73 (fun n => f73 (r73 c k n))
    (fun L f h hl => by
      match L, hl with
      | 0, hl => obtain ⟨_, _, _, hl0⟩ := asS_inv (show _ from hl); obtain ⟨_, _, _, hl1⟩ := asS_inv (show _ from hl0); exact hl1
      | _ + 1, hl => exact hl)
    (fun n p L hm f h hl => by
      simp only [u73, List.mem_cons, Prod.mk.injEq, List.not_mem_nil, or_false] at hm
      rcases hm with ⟨rfl, rfl⟩
      · have hl : f73 (r73 c k (n + 1)) 0 f h := hl
        obtain ⟨l_0, c_0, e_0, hl0⟩ := asS_inv hl
        obtain ⟨l_1, c_1, e_1, hl1⟩ := asS_inv hl0
        have hh := e73_0 c k (r73 c k n) f h l_0 c_0 l_1 c_1
        rw [fset_self e_0] at hh
        rw [fset_self e_1] at hh
        exact Eq.mpr hh hl1
    ) (by simp [u73]) hg

theorem e74_0 (c : Caller Prop FT) (k : KV) (J : J74) (f : FT) (h : H) (v_0 : AV) (n_1 : Int) : chunkA env c q74 u74 (f74 J) d74 (retA env Go.Proofs.Tryz.f74.results.toList k) .root (fset (fset f 0 v_0) 1 (.int .i64 n_1)) h = s74_0 c k J v_0 n_1 h := by kernel_rfl
theorem e74_1 (c : Caller Prop FT) (k : KV) (J : J74) (f : FT) (h : H) (v_0 : AV) (n_1 : Int) : chunkA env c q74 u74 (f74 J) d74 (retA env Go.Proofs.Tryz.f74.results.toList k) (.r (.r .root)) (fset (fset f 0 v_0) 1 (.int .i64 n_1)) h = s74_1 c k J v_0 n_1 h := by kernel_rfl
theorem w74 {c : Caller Prop FT} (hc : CallOk Go.Proofs.Tryz.prog (CP env) G (fun p => p) c) {k : KV} {n : Nat} {args : List AV} {h : H} (hg : f74 (r74 c k n) 0 (finit args) h) : SW Go.Proofs.Tryz.prog G (.func 74) args h k :=
  fn_ok mixed envOk hc q74 Go.Proofs.Tryz.func74 rfl (by kernel_rfl) (by kernel_rfl) k u74 (fun n => f74 (r74 c k n))
    (fun L f h hl => by
      match L, hl with
      | 0, hl => obtain ⟨_, _, hl0⟩ := asI_inv (show _ from hl); exact hl0
      | 1, hl => obtain ⟨_, _, hl0⟩ := asI_inv (show _ from hl); exact hl0
      | _ + 2, hl => exact hl)
    (fun n p L hm f h hl => by
      simp only [u74, List.mem_cons, Prod.mk.injEq, List.not_mem_nil, or_false] at hm
      rcases hm with ⟨rfl, rfl⟩ | ⟨rfl, rfl⟩
      · have hl : f74 (r74 c k (n + 1)) 0 f h := hl
        obtain ⟨n_1, e_1, hl1⟩ := asI_inv hl
        have hh := e74_0 c k (r74 c k n) f h (f 0) n_1
        rw [fset_self (rfl : f 0 = f 0)] at hh
        rw [fset_self e_1] at hh
        exact Eq.mpr hh hl1
      · have hl : f74 (r74 c k (n + 1)) 1 f h := hl
        obtain ⟨n_1, e_1, hl1⟩ := asI_inv hl
        have hh := e74_1 c k (r74 c k n) f h (f 0) n_1
        rw [fset_self (rfl : f 0 = f 0)] at hh
        rw [fset_self e_1] at hh
        exact Eq.mpr hh hl1
    ) (by simp [u74]) hg

theorem e78_0 (c : Caller Prop FT) (k : KV) (J : J78) (f : FT) (h : H) (n_0 : Int) : chunkA env c q78 u78 (f78 J) d78 (retA env Go.Proofs.Tryz.f78.results.toList k) .root (fset f 0 (.int .i64 n_0)) h = s78_0 c k J n_0 h := by kernel_rfl
theorem w78 {c : Caller Prop FT} (hc : CallOk Go.Proofs.Tryz.prog (CP env) G (fun p => p) c) {k : KV} {n : Nat} {args : List AV} {h : H} (hg : f78 (r78 c k n) 0 (finit args) h) : SW Go.Proofs.Tryz.prog G (.func 78) args h k :=
  fn_ok mixed envOk hc q78 Go.Proofs.Tryz.func78 rfl (by kernel_rfl) (by kernel_rfl) k u78 (fun n => f78 (r78 c k n))
    (fun L f h hl => by
      match L, hl with
      | 0, hl => obtain ⟨_, _, hl0⟩ := asI_inv (show _ from hl); exact hl0
      | _ + 1, hl => exact hl)
    (fun n p L hm f h hl => by
      simp only [u78, List.mem_cons, Prod.mk.injEq, List.not_mem_nil, or_false] at hm
      rcases hm with ⟨rfl, rfl⟩
      · have hl : f78 (r78 c k (n + 1)) 0 f h := hl
        obtain ⟨n_0, e_0, hl0⟩ := asI_inv hl
        have hh := e78_0 c k (r78 c k n) f h n_0
        rw [fset_self e_0] at hh
        exact Eq.mpr hh hl0
    ) (by simp [u78]) hg

theorem e87_0 (c : Caller Prop FT) (k : KV) (J : J87) (f : FT) (h : H) (v_0 : AV) (n_1 : Int) : chunkA env c q87 u87 (f87 J) d87 (retA env Go.Proofs.Tryz.f87.results.toList k) .root (fset (fset f 0 v_0) 1 (.int .i64 n_1)) h = s87_0 c k J v_0 n_1 h := by kernel_rfl
theorem w87 {c : Caller Prop FT} (hc : CallOk Go.Proofs.Tryz.prog (CP env) G (fun p => p) c) {k : KV} {n : Nat} {args : List AV} {h : H} (hg : f87 (r87 c k n) 0 (finit args) h) : SW Go.Proofs.Tryz.prog G (.func 87) args h k :=
  fn_ok mixed envOk hc q87 Go.Proofs.Tryz.func87 rfl (by kernel_rfl) (by kernel_rfl) k u87 (fun n => f87 (r87 c k n))
    (fun L f h hl => by
      match L, hl with
      | 0, hl => obtain ⟨_, _, hl0⟩ := asI_inv (show _ from hl); exact hl0
      | _ + 1, hl => exact hl)
    (fun n p L hm f h hl => by
      simp only [u87, List.mem_cons, Prod.mk.injEq, List.not_mem_nil, or_false] at hm
      rcases hm with ⟨rfl, rfl⟩
      · have hl : f87 (r87 c k (n + 1)) 0 f h := hl
        obtain ⟨n_1, e_1, hl1⟩ := asI_inv hl
        have hh := e87_0 c k (r87 c k n) f h (f 0) n_1
        rw [fset_self (rfl : f 0 = f 0)] at hh
        rw [fset_self e_1] at hh
        exact Eq.mpr hh hl1
    ) (by simp [u87]) hg

theorem e92_0 (c : Caller Prop FT) (k : KV) (J : J92) (f : FT) (h : H) (n_0 : Int) : chunkA env c q92 u92 (f92 J) d92 (retA env Go.Proofs.Tryz.f92.results.toList k) .root (fset f 0 (.int .u8 n_0)) h = s92_0 c k J n_0 h := by kernel_rfl
theorem w92 {c : Caller Prop FT} (hc : CallOk Go.Proofs.Tryz.prog (CP env) G (fun p => p) c) {k : KV} {n : Nat} {args : List AV} {h : H} (hg : f92 (r92 c k n) 0 (finit args) h) : SW Go.Proofs.Tryz.prog G (.func 92) args h k :=
  fn_ok mixed envOk hc q92 Go.Proofs.Tryz.func92 rfl (by kernel_rfl) (by kernel_rfl) k u92 (fun n => f92 (r92 c k n))
    (fun L f h hl => by
      match L, hl with
      | 0, hl => obtain ⟨_, _, hl0⟩ := asI_inv (show _ from hl); exact hl0
      | _ + 1, hl => exact hl)
    (fun n p L hm f h hl => by
      simp only [u92, List.mem_cons, Prod.mk.injEq, List.not_mem_nil, or_false] at hm
      rcases hm with ⟨rfl, rfl⟩
      · have hl : f92 (r92 c k (n + 1)) 0 f h := hl
        obtain ⟨n_0, e_0, hl0⟩ := asI_inv hl
        have hh := e92_0 c k (r92 c k n) f h n_0
        rw [fset_self e_0] at hh
        exact Eq.mpr hh hl0
    ) (by simp [u92]) hg

theorem e143_0 (c : Caller Prop FT) (k : KV) (J : J143) (f : FT) (h : H) : chunkA env c q143 u143 (f143 J) d143 (retA env Go.Proofs.Tryz.f143.results.toList k) .root f h = s143_0 c k J  h := by kernel_rfl
theorem w143 {c : Caller Prop FT} (hc : CallOk Go.Proofs.Tryz.prog (CP env) G (fun p => p) c) {k : KV} {n : Nat} {args : List AV} {h : H} (hg : f143 (r143 c k n) 0 (finit args) h) : SW Go.Proofs.Tryz.prog G (.func 143) args h k :=
  fn_ok mixed envOk hc q143 Go.Proofs.Tryz.func143 rfl (by kernel_rfl) (by kernel_rfl) k u143 (fun n => f143 (r143 c k n))
    (fun L f h hl => by
      match L, hl with
      | 0, hl => exact hl
      | _ + 1, hl => exact hl)
    (fun n p L hm f h hl => by
      simp only [u143, List.mem_cons, Prod.mk.injEq, List.not_mem_nil, or_false] at hm
      rcases hm with ⟨rfl, rfl⟩
      · have hl : f143 (r143 c k (n + 1)) 0 f h := hl
        have hh := e143_0 c k (r143 c k n) f h 
        exact Eq.mpr hh hl
    ) (by simp [u143]) hg

end Go.Den
