/-
  A part of the proof: the pieces are what the program does.
-/
import Derived.Test.YtdpnnajfmkpfjaaGreatDoorRunA
import Derived.KernelRfl
namespace Go.Den
set_option maxRecDepth 100000
theorem e5_0 (c : Caller Prop FT) (k : KV) (J : J5) (f : FT) (h : H) : chunkA env c q5 u5 (f5 J) d5 (retA env Go.Proofs.Tryz.f5.results.toList k) .root f h = s5_0 c k J  h := by kernel_rfl
theorem w5 {c : Caller Prop FT} (hc : CallOk Go.Proofs.Tryz.prog (CP env) G (fun p => p) c) {k : KV} {n : Nat} {args : List AV} {h : H} (hg : f5 (r5 c k n) 0 (finit args) h) : SW Go.Proofs.Tryz.prog G (.func 5) args h k :=
  fn_ok mixed envOk hc q5 Go.Proofs.Tryz.func5 rfl (by kernel_rfl) (by kernel_rfl) k u5 (fun n => f5 (r5 c k n))
    (fun L f h hl => by
      match L, hl with
      | 0, hl => exact hl
      | _ + 1, hl => exact hl)
    (fun n p L hm f h hl => by
      simp only [u5, List.mem_cons, Prod.mk.injEq, List.not_mem_nil, or_false] at hm
      rcases hm with ⟨rfl, rfl⟩
      · have hl : f5 (r5 c k (n + 1)) 0 f h := hl
        have hh := e5_0 c k (r5 c k n) f h 
        exact Eq.mpr hh hl
    ) (by simp [u5]) hg

theorem e6_0 (c : Caller Prop FT) (k : KV) (J : J6) (f : FT) (h : H) (v_0 : AV) : chunkA env c q6 u6 (f6 J) d6 (retA env Go.Proofs.Tryz.f6.results.toList k) .root (fset f 0 v_0) h = s6_0 c k J v_0 h := by kernel_rfl
theorem e6_1 (c : Caller Prop FT) (k : KV) (J : J6) (f : FT) (h : H) (v_2 : AV) (v_4 : AV) (v_44 : AV) (n_45 : Int) (n_46 : Int) : chunkA env c q6 u6 (f6 J) d6 (retA env Go.Proofs.Tryz.f6.results.toList k) (.l (.r (.l (.r (.r (.r (.r (.r .root)))))))) (fset (fset (fset (fset (fset f 2 v_2) 4 v_4) 44 v_44) 45 (.int .i64 n_45)) 46 (.int .i64 n_46)) h = s6_1 c k J v_2 v_4 v_44 n_45 n_46 h := by kernel_rfl
theorem e6_2 (c : Caller Prop FT) (k : KV) (J : J6) (f : FT) (h : H) (v_2 : AV) (v_4 : AV) (v_9 : AV) (v_44 : AV) (n_45 : Int) (n_46 : Int) : chunkA env c q6 u6 (f6 J) d6 (retA env Go.Proofs.Tryz.f6.results.toList k) (.r (.r (.l (.l (.r (.r (.l (.l (.r (.l (.r (.r (.r (.r (.r .root))))))))))))))) (fset (fset (fset (fset (fset (fset f 2 v_2) 4 v_4) 9 v_9) 44 v_44) 45 (.int .i64 n_45)) 46 (.int .i64 n_46)) h = s6_2 c k J v_2 v_4 v_9 v_44 n_45 n_46 h := by kernel_rfl
theorem w6 {c : Caller Prop FT} (hc : CallOk Go.Proofs.Tryz.prog (CP env) G (fun p => p) c) {k : KV} {n : Nat} {args : List AV} {h : H} (hg : f6 (r6 c k n) 0 (finit args) h) : SW Go.Proofs.Tryz.prog G (.func 6) args h k :=
  fn_ok mixed envOk hc q6 Go.Proofs.Tryz.func6 rfl (by kernel_rfl) (by kernel_rfl) k u6 (fun n => f6 (r6 c k n))
    (fun L f h hl => by
      match L, hl with
      | 0, hl => exact hl
      | 1, hl => obtain ⟨_, _, hl0⟩ := asI_inv (show _ from hl); obtain ⟨_, _, hl1⟩ := asI_inv (show _ from hl0); exact hl1
      | 2, hl => obtain ⟨_, _, hl0⟩ := asI_inv (show _ from hl); obtain ⟨_, _, hl1⟩ := asI_inv (show _ from hl0); exact hl1
      | _ + 3, hl => exact hl)
    (fun n p L hm f h hl => by
      simp only [u6, List.mem_cons, Prod.mk.injEq, List.not_mem_nil, or_false] at hm
      rcases hm with ⟨rfl, rfl⟩ | ⟨rfl, rfl⟩ | ⟨rfl, rfl⟩
      · have hl : f6 (r6 c k (n + 1)) 0 f h := hl
        have hh := e6_0 c k (r6 c k n) f h (f 0)
        rw [fset_self (rfl : f 0 = f 0)] at hh
        exact Eq.mpr hh hl
      · have hl : f6 (r6 c k (n + 1)) 1 f h := hl
        obtain ⟨n_45, e_45, hl3⟩ := asI_inv hl
        obtain ⟨n_46, e_46, hl4⟩ := asI_inv hl3
        have hh := e6_1 c k (r6 c k n) f h (f 2) (f 4) (f 44) n_45 n_46
        rw [fset_self (rfl : f 2 = f 2)] at hh
        rw [fset_self (rfl : f 4 = f 4)] at hh
        rw [fset_self (rfl : f 44 = f 44)] at hh
        rw [fset_self e_45] at hh
        rw [fset_self e_46] at hh
        exact Eq.mpr hh hl4
      · have hl : f6 (r6 c k (n + 1)) 2 f h := hl
        obtain ⟨n_45, e_45, hl4⟩ := asI_inv hl
        obtain ⟨n_46, e_46, hl5⟩ := asI_inv hl4
        have hh := e6_2 c k (r6 c k n) f h (f 2) (f 4) (f 9) (f 44) n_45 n_46
        rw [fset_self (rfl : f 2 = f 2)] at hh
        rw [fset_self (rfl : f 4 = f 4)] at hh
        rw [fset_self (rfl : f 9 = f 9)] at hh
        rw [fset_self (rfl : f 44 = f 44)] at hh
        rw [fset_self e_45] at hh
        rw [fset_self e_46] at hh
        exact Eq.mpr hh hl5
    ) (by simp [u6]) hg

theorem e10_0 (c : Caller Prop FT) (k : KV) (J : J10) (f : FT) (h : H) (n_0 : Int) (n_1 : Int) : chunkA env c q10 u10 (f10 J) d10 (retA env Go.Proofs.Tryz.f10.results.toList k) .root (fset (fset f 0 (.int .i64 n_0)) 1 (.int .i64 n_1)) h = s10_0 c k J n_0 n_1 h := by kernel_rfl
theorem w10 {c : Caller Prop FT} (hc : CallOk Go.Proofs.Tryz.prog (CP env) G (fun p => p) c) {k : KV} {n : Nat} {args : List AV} {h : H} (hg : f10 (r10 c k n) 0 (finit args) h) : SW Go.Proofs.Tryz.prog G (.func 10) args h k :=
  fn_ok mixed envOk hc q10 Go.Proofs.Tryz.func10 rfl (by kernel_rfl) (by kernel_rfl) k u10 (fun n => f10 (r10 c k n))
    (fun L f h hl => by
      match L, hl with
      | 0, hl => obtain ⟨_, _, hl0⟩ := asI_inv (show _ from hl); obtain ⟨_, _, hl1⟩ := asI_inv (show _ from hl0); exact hl1
      | _ + 1, hl => exact hl)
    (fun n p L hm f h hl => by
      simp only [u10, List.mem_cons, Prod.mk.injEq, List.not_mem_nil, or_false] at hm
      rcases hm with ⟨rfl, rfl⟩
      · have hl : f10 (r10 c k (n + 1)) 0 f h := hl
        obtain ⟨n_0, e_0, hl0⟩ := asI_inv hl
        obtain ⟨n_1, e_1, hl1⟩ := asI_inv hl0
        have hh := e10_0 c k (r10 c k n) f h n_0 n_1
        rw [fset_self e_0] at hh
        rw [fset_self e_1] at hh
        exact Eq.mpr hh hl1
    ) (by simp [u10]) hg

theorem e11_0 (c : Caller Prop FT) (k : KV) (J : J11) (f : FT) (h : H) (v_0 : AV) : chunkA env c q11 u11 (f11 J) d11 (retA env Go.Proofs.Tryz.f11.results.toList k) .root (fset f 0 v_0) h = s11_0 c k J v_0 h := by kernel_rfl
theorem w11 {c : Caller Prop FT} (hc : CallOk Go.Proofs.Tryz.prog (CP env) G (fun p => p) c) {k : KV} {n : Nat} {args : List AV} {h : H} (hg : f11 (r11 c k n) 0 (finit args) h) : SW Go.Proofs.Tryz.prog G (.func 11) args h k :=
  fn_ok mixed envOk hc q11 Go.Proofs.Tryz.func11 rfl (by kernel_rfl) (by kernel_rfl) k u11 (fun n => f11 (r11 c k n))
    (fun L f h hl => by
      match L, hl with
      | 0, hl => exact hl
      | _ + 1, hl => exact hl)
    (fun n p L hm f h hl => by
      simp only [u11, List.mem_cons, Prod.mk.injEq, List.not_mem_nil, or_false] at hm
      rcases hm with ⟨rfl, rfl⟩
      · have hl : f11 (r11 c k (n + 1)) 0 f h := hl
        have hh := e11_0 c k (r11 c k n) f h (f 0)
        rw [fset_self (rfl : f 0 = f 0)] at hh
        exact Eq.mpr hh hl
    ) (by simp [u11]) hg

theorem e13_0 (c : Caller Prop FT) (k : KV) (J : J13) (f : FT) (h : H) (v_0 : AV) (n_1 : Int) : chunkA env c q13 u13 (f13 J) d13 (retA env Go.Proofs.Tryz.f13.results.toList k) .root (fset (fset f 0 v_0) 1 (.int .u8 n_1)) h = s13_0 c k J v_0 n_1 h := by kernel_rfl
theorem w13 {c : Caller Prop FT} (hc : CallOk Go.Proofs.Tryz.prog (CP env) G (fun p => p) c) {k : KV} {n : Nat} {args : List AV} {h : H} (hg : f13 (r13 c k n) 0 (finit args) h) : SW Go.Proofs.Tryz.prog G (.func 13) args h k :=
  fn_ok mixed envOk hc q13 Go.Proofs.Tryz.func13 rfl (by kernel_rfl) (by kernel_rfl) k u13 (fun n => f13 (r13 c k n))
    (fun L f h hl => by
      match L, hl with
      | 0, hl => obtain ⟨_, _, hl0⟩ := asI_inv (show _ from hl); exact hl0
      | _ + 1, hl => exact hl)
    (fun n p L hm f h hl => by
      simp only [u13, List.mem_cons, Prod.mk.injEq, List.not_mem_nil, or_false] at hm
      rcases hm with ⟨rfl, rfl⟩
      · have hl : f13 (r13 c k (n + 1)) 0 f h := hl
        obtain ⟨n_1, e_1, hl1⟩ := asI_inv hl
        have hh := e13_0 c k (r13 c k n) f h (f 0) n_1
        rw [fset_self (rfl : f 0 = f 0)] at hh
        rw [fset_self e_1] at hh
        exact Eq.mpr hh hl1
    ) (by simp [u13]) hg

theorem e14_0 (c : Caller Prop FT) (k : KV) (J : J14) (f : FT) (h : H) (v_0 : AV) (l_1 : Nat) (c_1 : Nat) : chunkA env c q14 u14 (f14 J) d14 (retA env Go.Proofs.Tryz.f14.results.toList k) .root (fset (fset f 0 v_0) 1 (.str l_1 c_1)) h = s14_0 c k J v_0 l_1 c_1 h := by kernel_rfl
theorem w14 {c : Caller Prop FT} (hc : CallOk Go.Proofs.Tryz.prog (CP env) G (fun p => p) c) {k : KV} {n : Nat} {args : List AV} {h : H} (hg : f14 (r14 c k n) 0 (finit args) h) : SW Go.Proofs.Tryz.prog G (.func 14) args h k :=
  fn_ok mixed envOk hc q14 Go.Proofs.Tryz.func14 rfl (by kernel_rfl) (by kernel_rfl) k u14 (fun n => f14 (r14 c k n))
    (fun L f h hl => by
      match L, hl with
      | 0, hl => obtain ⟨_, _, _, hl0⟩ := asS_inv (show _ from hl); exact hl0
      | _ + 1, hl => exact hl)
    (fun n p L hm f h hl => by
      simp only [u14, List.mem_cons, Prod.mk.injEq, List.not_mem_nil, or_false] at hm
      rcases hm with ⟨rfl, rfl⟩
      · have hl : f14 (r14 c k (n + 1)) 0 f h := hl
        obtain ⟨l_1, c_1, e_1, hl1⟩ := asS_inv hl
        have hh := e14_0 c k (r14 c k n) f h (f 0) l_1 c_1
        rw [fset_self (rfl : f 0 = f 0)] at hh
        rw [fset_self e_1] at hh
        exact Eq.mpr hh hl1
    ) (by simp [u14]) hg

theorem e16_0 (c : Caller Prop FT) (k : KV) (J : J16) (f : FT) (h : H) (v_0 : AV) : chunkA env c q16 u16 (f16 J) d16 (retA env Go.Proofs.Tryz.f16.results.toList k) .root (fset f 0 v_0) h = s16_0 c k J v_0 h := by kernel_rfl
theorem w16 {c : Caller Prop FT} (hc : CallOk Go.Proofs.Tryz.prog (CP env) G (fun p => p) c) {k : KV} {n : Nat} {args : List AV} {h : H} (hg : f16 (r16 c k n) 0 (finit args) h) : SW Go.Proofs.Tryz.prog G (.func 16) args h k :=
  fn_ok mixed envOk hc q16 Go.Proofs.Tryz.func16 rfl (by kernel_rfl) (by kernel_rfl) k u16 (fun n => f16 (r16 c k n))
    (fun L f h hl => by
      match L, hl with
      | 0, hl => exact hl
      | _ + 1, hl => exact hl)
    (fun n p L hm f h hl => by
      simp only [u16, List.mem_cons, Prod.mk.injEq, List.not_mem_nil, or_false] at hm
      rcases hm with ⟨rfl, rfl⟩
      · have hl : f16 (r16 c k (n + 1)) 0 f h := hl
        have hh := e16_0 c k (r16 c k n) f h (f 0)
        rw [fset_self (rfl : f 0 = f 0)] at hh
        exact Eq.mpr hh hl
    ) (by simp [u16]) hg

theorem e20_0 (c : Caller Prop FT) (k : KV) (J : J20) (f : FT) (h : H) (l_0 : Nat) (c_0 : Nat) : chunkA env c q20 u20 (f20 J) d20 (retA env Go.Proofs.Tryz.f20.results.toList k) .root (fset f 0 (.str l_0 c_0)) h = s20_0 c k J l_0 c_0 h := by kernel_rfl
theorem e20_1 (c : Caller Prop FT) (k : KV) (J : J20) (f : FT) (h : H) (l_0 : Nat) (c_0 : Nat) (v_4 : AV) (l_5 : Nat) (c_5 : Nat) : chunkA env c q20 u20 (f20 J) d20 (retA env Go.Proofs.Tryz.f20.results.toList k) (.lab (.r .root) 1) (fset (fset (fset f 0 (.str l_0 c_0)) 4 v_4) 5 (.str l_5 c_5)) h = s20_1 c k J l_0 c_0 v_4 l_5 c_5 h := by kernel_rfl
theorem e20_2 (c : Caller Prop FT) (k : KV) (J : J20) (f : FT) (h : H) : chunkA env c q20 u20 (f20 J) d20 (retA env Go.Proofs.Tryz.f20.results.toList k) (.lab (.r .root) 0) f h = s20_2 c k J  h := by kernel_rfl
theorem e20_3 (c : Caller Prop FT) (k : KV) (J : J20) (f : FT) (h : H) (l_0 : Nat) (c_0 : Nat) (v_4 : AV) (l_5 : Nat) (c_5 : Nat) (n_8 : Int) (n_9 : Int) : chunkA env c q20 u20 (f20 J) d20 (retA env Go.Proofs.Tryz.f20.results.toList k) (.r (.l (.r (.r (.r (.r (.r (.r (.r (.l (.r .root))))))))))) (fset (fset (fset (fset (fset f 0 (.str l_0 c_0)) 4 v_4) 5 (.str l_5 c_5)) 8 (.int .u8 n_8)) 9 (.int .i64 n_9)) h = s20_3 c k J l_0 c_0 v_4 l_5 c_5 n_8 n_9 h := by kernel_rfl
theorem w20 {c : Caller Prop FT} (hc : CallOk Go.Proofs.Tryz.prog (CP env) G (fun p => p) c) {k : KV} {n : Nat} {args : List AV} {h : H} (hg : f20 (r20 c k n) 0 (finit args) h) : SW Go.Proofs.Tryz.prog G (.func 20) args h k :=
  fn_ok mixed envOk hc q20 Go.Proofs.Tryz.func20 rfl (by kernel_rfl) (by kernel_rfl) k u20 (fun n => f20 (r20 c k n))
    (fun L f h hl => by
      match L, hl with
      | 0, hl => obtain ⟨_, _, _, hl0⟩ := asS_inv (show _ from hl); exact hl0
      | 1, hl => obtain ⟨_, _, _, hl0⟩ := asS_inv (show _ from hl); obtain ⟨_, _, _, hl1⟩ := asS_inv (show _ from hl0); exact hl1
      | 2, hl => exact hl
      | 3, hl => obtain ⟨_, _, _, hl0⟩ := asS_inv (show _ from hl); obtain ⟨_, _, _, hl1⟩ := asS_inv (show _ from hl0); obtain ⟨_, _, hl2⟩ := asI_inv (show _ from hl1); obtain ⟨_, _, hl3⟩ := asI_inv (show _ from hl2); exact hl3
      | _ + 4, hl => exact hl)
    (fun n p L hm f h hl => by
      simp only [u20, List.mem_cons, Prod.mk.injEq, List.not_mem_nil, or_false] at hm
      rcases hm with ⟨rfl, rfl⟩ | ⟨rfl, rfl⟩ | ⟨rfl, rfl⟩ | ⟨rfl, rfl⟩
      · have hl : f20 (r20 c k (n + 1)) 0 f h := hl
        obtain ⟨l_0, c_0, e_0, hl0⟩ := asS_inv hl
        have hh := e20_0 c k (r20 c k n) f h l_0 c_0
        rw [fset_self e_0] at hh
        exact Eq.mpr hh hl0
      · have hl : f20 (r20 c k (n + 1)) 1 f h := hl
        obtain ⟨l_0, c_0, e_0, hl0⟩ := asS_inv hl
        obtain ⟨l_5, c_5, e_5, hl2⟩ := asS_inv hl0
        have hh := e20_1 c k (r20 c k n) f h l_0 c_0 (f 4) l_5 c_5
        rw [fset_self e_0] at hh
        rw [fset_self (rfl : f 4 = f 4)] at hh
        rw [fset_self e_5] at hh
        exact Eq.mpr hh hl2
      · have hl : f20 (r20 c k (n + 1)) 2 f h := hl
        have hh := e20_2 c k (r20 c k n) f h 
        exact Eq.mpr hh hl
      · have hl : f20 (r20 c k (n + 1)) 3 f h := hl
        obtain ⟨l_0, c_0, e_0, hl0⟩ := asS_inv hl
        obtain ⟨l_5, c_5, e_5, hl2⟩ := asS_inv hl0
        obtain ⟨n_8, e_8, hl3⟩ := asI_inv hl2
        obtain ⟨n_9, e_9, hl4⟩ := asI_inv hl3
        have hh := e20_3 c k (r20 c k n) f h l_0 c_0 (f 4) l_5 c_5 n_8 n_9
        rw [fset_self e_0] at hh
        rw [fset_self (rfl : f 4 = f 4)] at hh
        rw [fset_self e_5] at hh
        rw [fset_self e_8] at hh
        rw [fset_self e_9] at hh
        exact Eq.mpr hh hl4
    ) (by simp [u20]) hg

theorem e21_0 (c : Caller Prop FT) (k : KV) (J : J21) (f : FT) (h : H) (n_0 : Int) : chunkA env c q21 u21 (f21 J) d21 (retA env Go.Proofs.Tryz.f21.results.toList k) .root (fset f 0 (.int .i64 n_0)) h = s21_0 c k J n_0 h := by kernel_rfl
theorem e21_1 (c : Caller Prop FT) (k : KV) (J : J21) (f : FT) (h : H) (n_3 : Int) (l_4 : Nat) (c_4 : Nat) (v_5 : AV) : chunkA env c q21 u21 (f21 J) d21 (retA env Go.Proofs.Tryz.f21.results.toList k) (.l (.l (.r (.r (.r (.r (.r .root))))))) (fset (fset (fset f 3 (.int .u64 n_3)) 4 (.str l_4 c_4)) 5 v_5) h = s21_1 c k J n_3 l_4 c_4 v_5 h := by kernel_rfl
theorem e21_2 (c : Caller Prop FT) (k : KV) (J : J21) (f : FT) (h : H) (n_3 : Int) (l_4 : Nat) (c_4 : Nat) : chunkA env c q21 u21 (f21 J) d21 (retA env Go.Proofs.Tryz.f21.results.toList k) (.r (.r (.r (.r .root)))) (fset (fset f 3 (.int .u64 n_3)) 4 (.str l_4 c_4)) h = s21_2 c k J n_3 l_4 c_4 h := by kernel_rfl
theorem w21 {c : Caller Prop FT} (hc : CallOk Go.Proofs.Tryz.prog (CP env) G (fun p => p) c) {k : KV} {n : Nat} {args : List AV} {h : H} (hg : f21 (r21 c k n) 0 (finit args) h) : SW Go.Proofs.Tryz.prog G (.func 21) args h k :=
  fn_ok mixed envOk hc q21 Go.Proofs.Tryz.func21 rfl (by kernel_rfl) (by kernel_rfl) k u21 (fun n => f21 (r21 c k n))
    (fun L f h hl => by
      match L, hl with
      | 0, hl => obtain ⟨_, _, hl0⟩ := asI_inv (show _ from hl); exact hl0
      | 1, hl => obtain ⟨_, _, hl0⟩ := asI_inv (show _ from hl); obtain ⟨_, _, _, hl1⟩ := asS_inv (show _ from hl0); exact hl1
      | 2, hl => obtain ⟨_, _, hl0⟩ := asI_inv (show _ from hl); obtain ⟨_, _, _, hl1⟩ := asS_inv (show _ from hl0); exact hl1
      | _ + 3, hl => exact hl)
    (fun n p L hm f h hl => by
      simp only [u21, List.mem_cons, Prod.mk.injEq, List.not_mem_nil, or_false] at hm
      rcases hm with ⟨rfl, rfl⟩ | ⟨rfl, rfl⟩ | ⟨rfl, rfl⟩
      · have hl : f21 (r21 c k (n + 1)) 0 f h := hl
        obtain ⟨n_0, e_0, hl0⟩ := asI_inv hl
        have hh := e21_0 c k (r21 c k n) f h n_0
        rw [fset_self e_0] at hh
        exact Eq.mpr hh hl0
      · have hl : f21 (r21 c k (n + 1)) 1 f h := hl
        obtain ⟨n_3, e_3, hl0⟩ := asI_inv hl
        obtain ⟨l_4, c_4, e_4, hl1⟩ := asS_inv hl0
        have hh := e21_1 c k (r21 c k n) f h n_3 l_4 c_4 (f 5)
        rw [fset_self e_3] at hh
        rw [fset_self e_4] at hh
        rw [fset_self (rfl : f 5 = f 5)] at hh
        exact Eq.mpr hh hl1
      · have hl : f21 (r21 c k (n + 1)) 2 f h := hl
        obtain ⟨n_3, e_3, hl0⟩ := asI_inv hl
        obtain ⟨l_4, c_4, e_4, hl1⟩ := asS_inv hl0
        have hh := e21_2 c k (r21 c k n) f h n_3 l_4 c_4
        rw [fset_self e_3] at hh
        rw [fset_self e_4] at hh
        exact Eq.mpr hh hl1
    ) (by simp [u21]) hg

theorem e22_0 (c : Caller Prop FT) (k : KV) (J : J22) (f : FT) (h : H) (l_0 : Nat) (c_0 : Nat) (l_1 : Nat) (c_1 : Nat) : chunkA env c q22 u22 (f22 J) d22 (retA env Go.Proofs.Tryz.f22.results.toList k) .root (fset (fset f 0 (.str l_0 c_0)) 1 (.str l_1 c_1)) h = s22_0 c k J l_0 c_0 l_1 c_1 h := by kernel_rfl
theorem w22 {c : Caller Prop FT} (hc : CallOk Go.Proofs.Tryz.prog (CP env) G (fun p => p) c) {k : KV} {n : Nat} {args : List AV} {h : H} (hg : f22 (r22 c k n) 0 (finit args) h) : SW Go.Proofs.Tryz.prog G (.func 22) args h k :=
  fn_ok mixed envOk hc q22 Go.Proofs.Tryz.func22 rfl (by kernel_rfl) (by kernel_rfl) k u22 (fun n => f22 (r22 c k n))
    (fun L f h hl => by
      match L, hl with
      | 0, hl => obtain ⟨_, _, _, hl0⟩ := asS_inv (show _ from hl); obtain ⟨_, _, _, hl1⟩ := asS_inv (show _ from hl0); exact hl1
      | _ + 1, hl => exact hl)
    (fun n p L hm f h hl => by
      simp only [u22, List.mem_cons, Prod.mk.injEq, List.not_mem_nil, or_false] at hm
      rcases hm with ⟨rfl, rfl⟩
      · have hl : f22 (r22 c k (n + 1)) 0 f h := hl
        obtain ⟨l_0, c_0, e_0, hl0⟩ := asS_inv hl
        obtain ⟨l_1, c_1, e_1, hl1⟩ := asS_inv hl0
        have hh := e22_0 c k (r22 c k n) f h l_0 c_0 l_1 c_1
        rw [fset_self e_0] at hh
        rw [fset_self e_1] at hh
        exact Eq.mpr hh hl1
    ) (by simp [u22]) hg

theorem e24_0 (c : Caller Prop FT) (k : KV) (J : J24) (f : FT) (h : H) (v_0 : AV) : chunkA env c q24 u24 (f24 J) d24 (retA env Go.Proofs.Tryz.f24.results.toList k) .root (fset f 0 v_0) h = s24_0 c k J v_0 h := by kernel_rfl
theorem w24 {c : Caller Prop FT} (hc : CallOk Go.Proofs.Tryz.prog (CP env) G (fun p => p) c) {k : KV} {n : Nat} {args : List AV} {h : H} (hg : f24 (r24 c k n) 0 (finit args) h) : SW Go.Proofs.Tryz.prog G (.func 24) args h k :=
  fn_ok mixed envOk hc q24 Go.Proofs.Tryz.func24 rfl (by kernel_rfl) (by kernel_rfl) k u24 (fun n => f24 (r24 c k n))
    (fun L f h hl => by
      match L, hl with
      | 0, hl => exact hl
      | _ + 1, hl => exact hl)
    (fun n p L hm f h hl => by
      simp only [u24, List.mem_cons, Prod.mk.injEq, List.not_mem_nil, or_false] at hm
      rcases hm with ⟨rfl, rfl⟩
      · have hl : f24 (r24 c k (n + 1)) 0 f h := hl
        have hh := e24_0 c k (r24 c k n) f h (f 0)
        rw [fset_self (rfl : f 0 = f 0)] at hh
        exact Eq.mpr hh hl
    ) (by simp [u24]) hg

theorem e25_0 (c : Caller Prop FT) (k : KV) (J : J25) (f : FT) (h : H) (l_0 : Nat) (c_0 : Nat) : chunkA env c q25 u25 (f25 J) d25 (retA env Go.Proofs.Tryz.f25.results.toList k) .root (fset f 0 (.str l_0 c_0)) h = s25_0 c k J l_0 c_0 h := by kernel_rfl
theorem w25 {c : Caller Prop FT} (hc : CallOk Go.Proofs.Tryz.prog (CP env) G (fun p => p) c) {k : KV} {n : Nat} {args : List AV} {h : H} (hg : f25 (r25 c k n) 0 (finit args) h) : SW Go.Proofs.Tryz.prog G (.func 25) args h k :=
  fn_ok mixed envOk hc q25 Go.Proofs.Tryz.func25 rfl (by kernel_rfl) (by kernel_rfl) k u25 (fun n => f25 (r25 c k n))
    (fun L f h hl => by
      match L, hl with
      | 0, hl => obtain ⟨_, _, _, hl0⟩ := asS_inv (show _ from hl); exact hl0
      | _ + 1, hl => exact hl)
    (fun n p L hm f h hl => by
      simp only [u25, List.mem_cons, Prod.mk.injEq, List.not_mem_nil, or_false] at hm
      rcases hm with ⟨rfl, rfl⟩
      · have hl : f25 (r25 c k (n + 1)) 0 f h := hl
        obtain ⟨l_0, c_0, e_0, hl0⟩ := asS_inv hl
        have hh := e25_0 c k (r25 c k n) f h l_0 c_0
        rw [fset_self e_0] at hh
        exact Eq.mpr hh hl0
    ) (by simp [u25]) hg

theorem e28_0 (c : Caller Prop FT) (k : KV) (J : J28) (f : FT) (h : H) (v_0 : AV) (n_1 : Int) : chunkA env c q28 u28 (f28 J) d28 (retA env Go.Proofs.Tryz.f28.results.toList k) .root (fset (fset f 0 v_0) 1 (.int .i64 n_1)) h = s28_0 c k J v_0 n_1 h := by kernel_rfl
theorem e28_1 (c : Caller Prop FT) (k : KV) (J : J28) (f : FT) (h : H) (v_0 : AV) (n_9 : Int) : chunkA env c q28 u28 (f28 J) d28 (retA env Go.Proofs.Tryz.f28.results.toList k) (.l (.l (.r (.l (.r (.l (.r (.r (.r .root))))))))) (fset (fset f 0 v_0) 9 (.int .i64 n_9)) h = s28_1 c k J v_0 n_9 h := by kernel_rfl
theorem e28_2 (c : Caller Prop FT) (k : KV) (J : J28) (f : FT) (h : H) (v_0 : AV) (n_1 : Int) : chunkA env c q28 u28 (f28 J) d28 (retA env Go.Proofs.Tryz.f28.results.toList k) (.r (.r (.r .root))) (fset (fset f 0 v_0) 1 (.int .i64 n_1)) h = s28_2 c k J v_0 n_1 h := by kernel_rfl
theorem w28 {c : Caller Prop FT} (hc : CallOk Go.Proofs.Tryz.prog (CP env) G (fun p => p) c) {k : KV} {n : Nat} {args : List AV} {h : H} (hg : f28 (r28 c k n) 0 (finit args) h) : SW Go.Proofs.Tryz.prog G (.func 28) args h k :=
  fn_ok mixed envOk hc q28 Go.Proofs.Tryz.func28 rfl (by kernel_rfl) (by kernel_rfl) k u28 (fun n => f28 (r28 c k n))
    (fun L f h hl => by
      match L, hl with
      | 0, hl => obtain ⟨_, _, hl0⟩ := asI_inv (show _ from hl); exact hl0
      | 1, hl => obtain ⟨_, _, hl0⟩ := asI_inv (show _ from hl); exact hl0
      | 2, hl => obtain ⟨_, _, hl0⟩ := asI_inv (show _ from hl); exact hl0
      | _ + 3, hl => exact hl)
    (fun n p L hm f h hl => by
      simp only [u28, List.mem_cons, Prod.mk.injEq, List.not_mem_nil, or_false] at hm
      rcases hm with ⟨rfl, rfl⟩ | ⟨rfl, rfl⟩ | ⟨rfl, rfl⟩
      · have hl : f28 (r28 c k (n + 1)) 0 f h := hl
        obtain ⟨n_1, e_1, hl1⟩ := asI_inv hl
        have hh := e28_0 c k (r28 c k n) f h (f 0) n_1
        rw [fset_self (rfl : f 0 = f 0)] at hh
        rw [fset_self e_1] at hh
        exact Eq.mpr hh hl1
      · have hl : f28 (r28 c k (n + 1)) 1 f h := hl
        obtain ⟨n_9, e_9, hl1⟩ := asI_inv hl
        have hh := e28_1 c k (r28 c k n) f h (f 0) n_9
        rw [fset_self (rfl : f 0 = f 0)] at hh
        rw [fset_self e_9] at hh
        exact Eq.mpr hh hl1
      · have hl : f28 (r28 c k (n + 1)) 2 f h := hl
        obtain ⟨n_1, e_1, hl1⟩ := asI_inv hl
        have hh := e28_2 c k (r28 c k n) f h (f 0) n_1
        rw [fset_self (rfl : f 0 = f 0)] at hh
        rw [fset_self e_1] at hh
        exact Eq.mpr hh hl1
    ) (by simp [u28]) hg

theorem e29_0 (c : Caller Prop FT) (k : KV) (J : J29) (f : FT) (h : H) (v_0 : AV) : chunkA env c q29 u29 (f29 J) d29 (retA env Go.Proofs.Tryz.f29.results.toList k) .root (fset f 0 v_0) h = s29_0 c k J v_0 h := by kernel_rfl
theorem e29_1 (c : Caller Prop FT) (k : KV) (J : J29) (f : FT) (h : H) (v_0 : AV) (v_3 : AV) (n_4 : Int) : chunkA env c q29 u29 (f29 J) d29 (retA env Go.Proofs.Tryz.f29.results.toList k) (.l (.r (.l (.r (.r .root))))) (fset (fset (fset f 0 v_0) 3 v_3) 4 (.int .i64 n_4)) h = s29_1 c k J v_0 v_3 n_4 h := by kernel_rfl
theorem w29 {c : Caller Prop FT} (hc : CallOk Go.Proofs.Tryz.prog (CP env) G (fun p => p) c) {k : KV} {n : Nat} {args : List AV} {h : H} (hg : f29 (r29 c k n) 0 (finit args) h) : SW Go.Proofs.Tryz.prog G (.func 29) args h k :=
  fn_ok mixed envOk hc q29 Go.Proofs.Tryz.func29 rfl (by kernel_rfl) (by kernel_rfl) k u29 (fun n => f29 (r29 c k n))
    (fun L f h hl => by
      match L, hl with
      | 0, hl => exact hl
      | 1, hl => obtain ⟨_, _, hl0⟩ := asI_inv (show _ from hl); exact hl0
      | _ + 2, hl => exact hl)
    (fun n p L hm f h hl => by
      simp only [u29, List.mem_cons, Prod.mk.injEq, List.not_mem_nil, or_false] at hm
      rcases hm with ⟨rfl, rfl⟩ | ⟨rfl, rfl⟩
      · have hl : f29 (r29 c k (n + 1)) 0 f h := hl
        have hh := e29_0 c k (r29 c k n) f h (f 0)
        rw [fset_self (rfl : f 0 = f 0)] at hh
        exact Eq.mpr hh hl
      · have hl : f29 (r29 c k (n + 1)) 1 f h := hl
        obtain ⟨n_4, e_4, hl2⟩ := asI_inv hl
        have hh := e29_1 c k (r29 c k n) f h (f 0) (f 3) n_4
        rw [fset_self (rfl : f 0 = f 0)] at hh
        rw [fset_self (rfl : f 3 = f 3)] at hh
        rw [fset_self e_4] at hh
        exact Eq.mpr hh hl2
    ) (by simp [u29]) hg

theorem e30_0 (c : Caller Prop FT) (k : KV) (J : J30) (f : FT) (h : H) (l_0 : Nat) (c_0 : Nat) (l_1 : Nat) (c_1 : Nat) : chunkA env c q30 u30 (f30 J) d30 (retA env Go.Proofs.Tryz.f30.results.toList k) .root (fset (fset f 0 (.str l_0 c_0)) 1 (.str l_1 c_1)) h = s30_0 c k J l_0 c_0 l_1 c_1 h := by kernel_rfl
theorem w30 {c : Caller Prop FT} (hc : CallOk Go.Proofs.Tryz.prog (CP env) G (fun p => p) c) {k : KV} {n : Nat} {args : List AV} {h : H} (hg : f30 (r30 c k n) 0 (finit args) h) : SW Go.Proofs.Tryz.prog G (.func 30) args h k :=
  fn_ok mixed envOk hc q30 Go.Proofs.Tryz.func30 rfl (by kernel_rfl) (by kernel_rfl) k u30 (fun n => f30 (r30 c k n))
    (fun L f h hl => by
      match L, hl with
      | 0, hl => obtain ⟨_, _, _, hl0⟩ := asS_inv (show _ from hl); obtain ⟨_, _, _, hl1⟩ := asS_inv (show _ from hl0); exact hl1
      | _ + 1, hl => exact hl)
    (fun n p L hm f h hl => by
      simp only [u30, List.mem_cons, Prod.mk.injEq, List.not_mem_nil, or_false] at hm
      rcases hm with ⟨rfl, rfl⟩
      · have hl : f30 (r30 c k (n + 1)) 0 f h := hl
        obtain ⟨l_0, c_0, e_0, hl0⟩ := asS_inv hl
        obtain ⟨l_1, c_1, e_1, hl1⟩ := asS_inv hl0
        have hh := e30_0 c k (r30 c k n) f h l_0 c_0 l_1 c_1
        rw [fset_self e_0] at hh
        rw [fset_self e_1] at hh
        exact Eq.mpr hh hl1
    ) (by simp [u30]) hg

theorem e33_0 (c : Caller Prop FT) (k : KV) (J : J33) (f : FT) (h : H) (l_0 : Nat) (c_0 : Nat) : chunkA env c q33 u33 (f33 J) d33 (retA env Go.Proofs.Tryz.f33.results.toList k) .root (fset f 0 (.str l_0 c_0)) h = s33_0 c k J l_0 c_0 h := by kernel_rfl
theorem e33_1 (c : Caller Prop FT) (k : KV) (J : J33) (f : FT) (h : H) (l_0 : Nat) (c_0 : Nat) (v_8 : AV) (n_9 : Int) (n_10 : Int) : chunkA env c q33 u33 (f33 J) d33 (retA env Go.Proofs.Tryz.f33.results.toList k) (.l (.r (.l (.r .root)))) (fset (fset (fset (fset f 0 (.str l_0 c_0)) 8 v_8) 9 (.int .i64 n_9)) 10 (.int .i64 n_10)) h = s33_1 c k J l_0 c_0 v_8 n_9 n_10 h := by kernel_rfl
theorem w33 {c : Caller Prop FT} (hc : CallOk Go.Proofs.Tryz.prog (CP env) G (fun p => p) c) {k : KV} {n : Nat} {args : List AV} {h : H} (hg : f33 (r33 c k n) 0 (finit args) h) : SW Go.Proofs.Tryz.prog G (.func 33) args h k :=
  fn_ok mixed envOk hc q33 Go.Proofs.Tryz.func33 rfl (by kernel_rfl) (by kernel_rfl) k u33 (fun n => f33 (r33 c k n))
    (fun L f h hl => by
      match L, hl with
      | 0, hl => obtain ⟨_, _, _, hl0⟩ := asS_inv (show _ from hl); exact hl0
      | 1, hl => obtain ⟨_, _, _, hl0⟩ := asS_inv (show _ from hl); obtain ⟨_, _, hl1⟩ := asI_inv (show _ from hl0); obtain ⟨_, _, hl2⟩ := asI_inv (show _ from hl1); exact hl2
      | _ + 2, hl => exact hl)
    (fun n p L hm f h hl => by
      simp only [u33, List.mem_cons, Prod.mk.injEq, List.not_mem_nil, or_false] at hm
      rcases hm with ⟨rfl, rfl⟩ | ⟨rfl, rfl⟩
      · have hl : f33 (r33 c k (n + 1)) 0 f h := hl
        obtain ⟨l_0, c_0, e_0, hl0⟩ := asS_inv hl
        have hh := e33_0 c k (r33 c k n) f h l_0 c_0
        rw [fset_self e_0] at hh
        exact Eq.mpr hh hl0
      · have hl : f33 (r33 c k (n + 1)) 1 f h := hl
        obtain ⟨l_0, c_0, e_0, hl0⟩ := asS_inv hl
        obtain ⟨n_9, e_9, hl2⟩ := asI_inv hl0
        obtain ⟨n_10, e_10, hl3⟩ := asI_inv hl2
        have hh := e33_1 c k (r33 c k n) f h l_0 c_0 (f 8) n_9 n_10
        rw [fset_self e_0] at hh
        rw [fset_self (rfl : f 8 = f 8)] at hh
        rw [fset_self e_9] at hh
        rw [fset_self e_10] at hh
        exact Eq.mpr hh hl3
    ) (by simp [u33]) hg

theorem e34_0 (c : Caller Prop FT) (k : KV) (J : J34) (f : FT) (h : H) (l_0 : Nat) (c_0 : Nat) : chunkA env c q34 u34 (f34 J) d34 (retA env Go.Proofs.Tryz.f34.results.toList k) .root (fset f 0 (.str l_0 c_0)) h = s34_0 c k J l_0 c_0 h := by kernel_rfl
theorem e34_1 (c : Caller Prop FT) (k : KV) (J : J34) (f : FT) (h : H) (n_5 : Int) (n_6 : Int) (n_8 : Int) (v_38 : AV) : chunkA env c q34 u34 (f34 J) d34 (retA env Go.Proofs.Tryz.f34.results.toList k) (.l (.r (.l (.r (.r (.r (.r (.r (.r (.r .root)))))))))) (fset (fset (fset (fset f 5 (.int .i64 n_5)) 6 (.int .i64 n_6)) 8 (.int .i64 n_8)) 38 v_38) h = s34_1 c k J n_5 n_6 n_8 v_38 h := by kernel_rfl
theorem e34_2 (c : Caller Prop FT) (k : KV) (J : J34) (f : FT) (h : H) (l_0 : Nat) (c_0 : Nat) (n_5 : Int) (n_6 : Int) (n_7 : Int) : chunkA env c q34 u34 (f34 J) d34 (retA env Go.Proofs.Tryz.f34.results.toList k) (.r (.r (.r (.r (.r .root))))) (fset (fset (fset (fset f 0 (.str l_0 c_0)) 5 (.int .i64 n_5)) 6 (.int .i64 n_6)) 7 (.int .i64 n_7)) h = s34_2 c k J l_0 c_0 n_5 n_6 n_7 h := by kernel_rfl
theorem w34 {c : Caller Prop FT} (hc : CallOk Go.Proofs.Tryz.prog (CP env) G (fun p => p) c) {k : KV} {n : Nat} {args : List AV} {h : H} (hg : f34 (r34 c k n) 0 (finit args) h) : SW Go.Proofs.Tryz.prog G (.func 34) args h k :=
  fn_ok mixed envOk hc q34 Go.Proofs.Tryz.func34 rfl (by kernel_rfl) (by kernel_rfl) k u34 (fun n => f34 (r34 c k n))
    (fun L f h hl => by
      match L, hl with
      | 0, hl => obtain ⟨_, _, _, hl0⟩ := asS_inv (show _ from hl); exact hl0
      | 1, hl => obtain ⟨_, _, hl0⟩ := asI_inv (show _ from hl); obtain ⟨_, _, hl1⟩ := asI_inv (show _ from hl0); obtain ⟨_, _, hl2⟩ := asI_inv (show _ from hl1); exact hl2
      | 2, hl => obtain ⟨_, _, _, hl0⟩ := asS_inv (show _ from hl); obtain ⟨_, _, hl1⟩ := asI_inv (show _ from hl0); obtain ⟨_, _, hl2⟩ := asI_inv (show _ from hl1); obtain ⟨_, _, hl3⟩ := asI_inv (show _ from hl2); exact hl3
      | _ + 3, hl => exact hl)
    (fun n p L hm f h hl => by
      simp only [u34, List.mem_cons, Prod.mk.injEq, List.not_mem_nil, or_false] at hm
      rcases hm with ⟨rfl, rfl⟩ | ⟨rfl, rfl⟩ | ⟨rfl, rfl⟩
      · have hl : f34 (r34 c k (n + 1)) 0 f h := hl
        obtain ⟨l_0, c_0, e_0, hl0⟩ := asS_inv hl
        have hh := e34_0 c k (r34 c k n) f h l_0 c_0
        rw [fset_self e_0] at hh
        exact Eq.mpr hh hl0
      · have hl : f34 (r34 c k (n + 1)) 1 f h := hl
        obtain ⟨n_5, e_5, hl0⟩ := asI_inv hl
        obtain ⟨n_6, e_6, hl1⟩ := asI_inv hl0
        obtain ⟨n_8, e_8, hl2⟩ := asI_inv hl1
        have hh := e34_1 c k (r34 c k n) f h n_5 n_6 n_8 (f 38)
        rw [fset_self e_5] at hh
        rw [fset_self e_6] at hh
        rw [fset_self e_8] at hh
        rw [fset_self (rfl : f 38 = f 38)] at hh
        exact Eq.mpr hh hl2
      · have hl : f34 (r34 c k (n + 1)) 2 f h := hl
        obtain ⟨l_0, c_0, e_0, hl0⟩ := asS_inv hl
        obtain ⟨n_5, e_5, hl1⟩ := asI_inv hl0
        obtain ⟨n_6, e_6, hl2⟩ := asI_inv hl1
        obtain ⟨n_7, e_7, hl3⟩ := asI_inv hl2
        have hh := e34_2 c k (r34 c k n) f h l_0 c_0 n_5 n_6 n_7
        rw [fset_self e_0] at hh
        rw [fset_self e_5] at hh
        rw [fset_self e_6] at hh
        rw [fset_self e_7] at hh
        exact Eq.mpr hh hl3
    ) (by simp [u34]) hg

theorem e35_0 (c : Caller Prop FT) (k : KV) (J : J35) (f : FT) (h : H) (l_0 : Nat) (c_0 : Nat) (l_1 : Nat) (c_1 : Nat) : chunkA env c q35 u35 (f35 J) d35 (retA env Go.Proofs.Tryz.f35.results.toList k) .root (fset (fset f 0 (.str l_0 c_0)) 1 (.str l_1 c_1)) h = s35_0 c k J l_0 c_0 l_1 c_1 h := by kernel_rfl
theorem w35 {c : Caller Prop FT} (hc : CallOk Go.Proofs.Tryz.prog (CP env) G (fun p => p) c) {k : KV} {n : Nat} {args : List AV} {h : H} (hg : f35 (r35 c k n) 0 (finit args) h) : SW Go.Proofs.Tryz.prog G (.func 35) args h k :=
  fn_ok mixed envOk hc q35 Go.Proofs.Tryz.func35 rfl (by kernel_rfl) (by kernel_rfl) k u35 (fun n => f35 (r35 c k n))
    (fun L f h hl => by
      match L, hl with
      | 0, hl => obtain ⟨_, _, _, hl0⟩ := asS_inv (show _ from hl); obtain ⟨_, _, _, hl1⟩ := asS_inv (show _ from hl0); exact hl1
      | _ + 1, hl => exact hl)
    (fun n p L hm f h hl => by
      simp only [u35, List.mem_cons, Prod.mk.injEq, List.not_mem_nil, or_false] at hm
      rcases hm with ⟨rfl, rfl⟩
      · have hl : f35 (r35 c k (n + 1)) 0 f h := hl
        obtain ⟨l_0, c_0, e_0, hl0⟩ := asS_inv hl
        obtain ⟨l_1, c_1, e_1, hl1⟩ := asS_inv hl0
        have hh := e35_0 c k (r35 c k n) f h l_0 c_0 l_1 c_1
        rw [fset_self e_0] at hh
        rw [fset_self e_1] at hh
        exact Eq.mpr hh hl1
    ) (by simp [u35]) hg

theorem e41_0 (c : Caller Prop FT) (k : KV) (J : J41) (f : FT) (h : H) (v_0 : AV) (n_1 : Int) : chunkA env c q41 u41 (f41 J) d41 (retA env Go.Proofs.Tryz.f41.results.toList k) .root (fset (fset f 0 v_0) 1 (.int .i64 n_1)) h = s41_0 c k J v_0 n_1 h := by kernel_rfl
theorem w41 {c : Caller Prop FT} (hc : CallOk Go.Proofs.Tryz.prog (CP env) G (fun p => p) c) {k : KV} {n : Nat} {args : List AV} {h : H} (hg : f41 (r41 c k n) 0 (finit args) h) : SW Go.Proofs.Tryz.prog G (.func 41) args h k :=
  fn_ok mixed envOk hc q41 Go.Proofs.Tryz.func41 rfl (by kernel_rfl) (by kernel_rfl) k u41 (fun n => f41 (r41 c k n))
    (fun L f h hl => by
      match L, hl with
      | 0, hl => obtain ⟨_, _, hl0⟩ := asI_inv (show _ from hl); exact hl0
      | _ + 1, hl => exact hl)
    (fun n p L hm f h hl => by
      simp only [u41, List.mem_cons, Prod.mk.injEq, List.not_mem_nil, or_false] at hm
      rcases hm with ⟨rfl, rfl⟩
      · have hl : f41 (r41 c k (n + 1)) 0 f h := hl
        obtain ⟨n_1, e_1, hl1⟩ := asI_inv hl
        have hh := e41_0 c k (r41 c k n) f h (f 0) n_1
        rw [fset_self (rfl : f 0 = f 0)] at hh
        rw [fset_self e_1] at hh
        exact Eq.mpr hh hl1
    ) (by simp [u41]) hg

theorem e43_0 (c : Caller Prop FT) (k : KV) (J : J43) (f : FT) (h : H) (n_0 : Int) : chunkA env c q43 u43 (f43 J) d43 (retA env Go.Proofs.Tryz.f43.results.toList k) .root (fset f 0 (.int .u8 n_0)) h = s43_0 c k J n_0 h := by kernel_rfl
theorem w43 {c : Caller Prop FT} (hc : CallOk Go.Proofs.Tryz.prog (CP env) G (fun p => p) c) {k : KV} {n : Nat} {args : List AV} {h : H} (hg : f43 (r43 c k n) 0 (finit args) h) : SW Go.Proofs.Tryz.prog G (.func 43) args h k :=
  fn_ok mixed envOk hc q43 Go.Proofs.Tryz.func43 rfl (by kernel_rfl) (by kernel_rfl) k u43 (fun n => f43 (r43 c k n))
    (fun L f h hl => by
      match L, hl with
      | 0, hl => obtain ⟨_, _, hl0⟩ := asI_inv (show _ from hl); exact hl0
      | _ + 1, hl => exact hl)
    (fun n p L hm f h hl => by
      simp only [u43, List.mem_cons, Prod.mk.injEq, List.not_mem_nil, or_false] at hm
      rcases hm with ⟨rfl, rfl⟩
      · have hl : f43 (r43 c k (n + 1)) 0 f h := hl
        obtain ⟨n_0, e_0, hl0⟩ := asI_inv hl
        have hh := e43_0 c k (r43 c k n) f h n_0
        rw [fset_self e_0] at hh
        exact Eq.mpr hh hl0
    ) (by simp [u43]) hg

theorem e45_0 (c : Caller Prop FT) (k : KV) (J : J45) (f : FT) (h : H) (v_0 : AV) (n_1 : Int) : chunkA env c q45 u45 (f45 J) d45 (retA env Go.Proofs.Tryz.f45.results.toList k) .root (fset (fset f 0 v_0) 1 (.int .i64 n_1)) h = s45_0 c k J v_0 n_1 h := by kernel_rfl
theorem e45_1 (c : Caller Prop FT) (k : KV) (J : J45) (f : FT) (h : H) (v_0 : AV) (n_5 : Int) : chunkA env c q45 u45 (f45 J) d45 (retA env Go.Proofs.Tryz.f45.results.toList k) (.l (.r (.r (.r .root)))) (fset (fset f 0 v_0) 5 (.int .i64 n_5)) h = s45_1 c k J v_0 n_5 h := by kernel_rfl
theorem w45 {c : Caller Prop FT} (hc : CallOk Go.Proofs.Tryz.prog (CP env) G (fun p => p) c) {k : KV} {n : Nat} {args : List AV} {h : H} (hg : f45 (r45 c k n) 0 (finit args) h) : SW Go.Proofs.Tryz.prog G (.func 45) args h k :=
  fn_ok mixed envOk hc q45 Go.Proofs.Tryz.func45 rfl (by kernel_rfl) (by kernel_rfl) k u45 (fun n => f45 (r45 c k n))
    (fun L f h hl => by
      match L, hl with
      | 0, hl => obtain ⟨_, _, hl0⟩ := asI_inv (show _ from hl); exact hl0
      | 1, hl => obtain ⟨_, _, hl0⟩ := asI_inv (show _ from hl); exact hl0
      | _ + 2, hl => exact hl)
    (fun n p L hm f h hl => by
      simp only [u45, List.mem_cons, Prod.mk.injEq, List.not_mem_nil, or_false] at hm
      rcases hm with ⟨rfl, rfl⟩ | ⟨rfl, rfl⟩
      · have hl : f45 (r45 c k (n + 1)) 0 f h := hl
        obtain ⟨n_1, e_1, hl1⟩ := asI_inv hl
        have hh := e45_0 c k (r45 c k n) f h (f 0) n_1
        rw [fset_self (rfl : f 0 = f 0)] at hh
        rw [fset_self e_1] at hh
        exact Eq.mpr hh hl1
      · have hl : f45 (r45 c k (n + 1)) 1 f h := hl
        obtain ⟨n_5, e_5, hl1⟩ := asI_inv hl
        have hh := e45_1 c k (r45 c k n) f h (f 0) n_5
        rw [fset_self (rfl : f 0 = f 0)] at hh
        rw [fset_self e_5] at hh
        exact Eq.mpr hh hl1
    ) (by simp [u45]) hg

theorem e47_0 (c : Caller Prop FT) (k : KV) (J : J47) (f : FT) (h : H) (l_0 : Nat) (c_0 : Nat) (n_1 : Int) : chunkA env c q47 u47 (f47 J) d47 (retA env Go.Proofs.Tryz.f47.results.toList k) .root (fset (fset f 0 (.str l_0 c_0)) 1 (.int .u8 n_1)) h = s47_0 c k J l_0 c_0 n_1 h := by kernel_rfl
theorem e47_1 (c : Caller Prop FT) (k : KV) (J : J47) (f : FT) (h : H) (l_0 : Nat) (c_0 : Nat) (n_1 : Int) : chunkA env c q47 u47 (f47 J) d47 (retA env Go.Proofs.Tryz.f47.results.toList k) (.l (.l (.r .root))) (fset (fset f 0 (.str l_0 c_0)) 1 (.int .u8 n_1)) h = s47_1 c k J l_0 c_0 n_1 h := by kernel_rfl
theorem w47 {c : Caller Prop FT} (hc : CallOk Go.Proofs.Tryz.prog (CP env) G (fun p => p) c) {k : KV} {n : Nat} {args : List AV} {h : H} (hg : f47 (r47 c k n) 0 (finit args) h) : SW Go.Proofs.Tryz.prog G (.func 47) args h k :=
  fn_ok mixed envOk hc q47 Go.Proofs.Tryz.func47 rfl (by kernel_rfl) (by kernel_rfl) k u47 (fun n => f47 (r47 c k n))
    (fun L f h hl => by
      match L, hl with
      | 0, hl => obtain ⟨_, _, _, hl0⟩ := asS_inv (show _ from hl); obtain ⟨_, _, hl1⟩ := asI_inv (show _ from hl0); exact hl1
      | 1, hl => obtain ⟨_, _, _, hl0⟩ := asS_inv (show _ from hl); obtain ⟨_, _, hl1⟩ := asI_inv (show _ from hl0); exact hl1
      | _ + 2, hl => exact hl)
    (fun n p L hm f h hl => by
      simp only [u47, List.mem_cons, Prod.mk.injEq, List.not_mem_nil, or_false] at hm
      rcases hm with ⟨rfl, rfl⟩ | ⟨rfl, rfl⟩
      · have hl : f47 (r47 c k (n + 1)) 0 f h := hl
        obtain ⟨l_0, c_0, e_0, hl0⟩ := asS_inv hl
        obtain ⟨n_1, e_1, hl1⟩ := asI_inv hl0
        have hh := e47_0 c k (r47 c k n) f h l_0 c_0 n_1
        rw [fset_self e_0] at hh
        rw [fset_self e_1] at hh
        exact Eq.mpr hh hl1
      · have hl : f47 (r47 c k (n + 1)) 1 f h := hl
        obtain ⟨l_0, c_0, e_0, hl0⟩ := asS_inv hl
        obtain ⟨n_1, e_1, hl1⟩ := asI_inv hl0
        have hh := e47_1 c k (r47 c k n) f h l_0 c_0 n_1
        rw [fset_self e_0] at hh
        rw [fset_self e_1] at hh
        exact Eq.mpr hh hl1
    ) (by simp [u47]) hg

theorem e49_0 (c : Caller Prop FT) (k : KV) (J : J49) (f : FT) (h : H) (l_0 : Nat) (c_0 : Nat) : chunkA env c q49 u49 (f49 J) d49 (retA env Go.Proofs.Tryz.f49.results.toList k) .root (fset f 0 (.str l_0 c_0)) h = s49_0 c k J l_0 c_0 h := by kernel_rfl
theorem e49_1 (c : Caller Prop FT) (k : KV) (J : J49) (f : FT) (h : H) (l_0 : Nat) (c_0 : Nat) (v_2 : AV) (n_4 : Int) : chunkA env c q49 u49 (f49 J) d49 (retA env Go.Proofs.Tryz.f49.results.toList k) (.l (.r (.l (.r .root)))) (fset (fset (fset f 0 (.str l_0 c_0)) 2 v_2) 4 (.int .i64 n_4)) h = s49_1 c k J l_0 c_0 v_2 n_4 h := by kernel_rfl
theorem w49 {c : Caller Prop FT} (hc : CallOk Go.Proofs.Tryz.prog (CP env) G (fun p => p) c) {k : KV} {n : Nat} {args : List AV} {h : H} (hg : f49 (r49 c k n) 0 (finit args) h) : SW Go.Proofs.Tryz.prog G (.func 49) args h k :=
  fn_ok mixed envOk hc q49 Go.Proofs.Tryz.func49 rfl (by kernel_rfl) (by kernel_rfl) k u49 (fun n => f49 (r49 c k n))
    (fun L f h hl => by
      match L, hl with
      | 0, hl => obtain ⟨_, _, _, hl0⟩ := asS_inv (show _ from hl); exact hl0
      | 1, hl => obtain ⟨_, _, _, hl0⟩ := asS_inv (show _ from hl); obtain ⟨_, _, hl1⟩ := asI_inv (show _ from hl0); exact hl1
      | _ + 2, hl => exact hl)
    (fun n p L hm f h hl => by
      simp only [u49, List.mem_cons, Prod.mk.injEq, List.not_mem_nil, or_false] at hm
      rcases hm with ⟨rfl, rfl⟩ | ⟨rfl, rfl⟩
      · have hl : f49 (r49 c k (n + 1)) 0 f h := hl
        obtain ⟨l_0, c_0, e_0, hl0⟩ := asS_inv hl
        have hh := e49_0 c k (r49 c k n) f h l_0 c_0
        rw [fset_self e_0] at hh
        exact Eq.mpr hh hl0
      · have hl : f49 (r49 c k (n + 1)) 1 f h := hl
        obtain ⟨l_0, c_0, e_0, hl0⟩ := asS_inv hl
        obtain ⟨n_4, e_4, hl2⟩ := asI_inv hl0
        have hh := e49_1 c k (r49 c k n) f h l_0 c_0 (f 2) n_4
        rw [fset_self e_0] at hh
        rw [fset_self (rfl : f 2 = f 2)] at hh
        rw [fset_self e_4] at hh
        exact Eq.mpr hh hl2
    ) (by simp [u49]) hg

theorem e51_0 (c : Caller Prop FT) (k : KV) (J : J51) (f : FT) (h : H) (l_0 : Nat) (c_0 : Nat) (v_1 : AV) : chunkA env c q51 u51 (f51 J) d51 (retA env Go.Proofs.Tryz.f51.results.toList k) .root (fset (fset f 0 (.str l_0 c_0)) 1 v_1) h = s51_0 c k J l_0 c_0 v_1 h := by kernel_rfl
theorem e51_1 (c : Caller Prop FT) (k : KV) (J : J51) (f : FT) (h : H) (l_0 : Nat) (c_0 : Nat) (v_1 : AV) : chunkA env c q51 u51 (f51 J) d51 (retA env Go.Proofs.Tryz.f51.results.toList k) (.l (.l (.r .root))) (fset (fset f 0 (.str l_0 c_0)) 1 v_1) h = s51_1 c k J l_0 c_0 v_1 h := by kernel_rfl
theorem w51 {c : Caller Prop FT} (hc : CallOk Go.Proofs.Tryz.prog (CP env) G (fun p => p) c) {k : KV} {n : Nat} {args : List AV} {h : H} (hg : f51 (r51 c k n) 0 (finit args) h) : SW Go.Proofs.Tryz.prog G (.func 51) args h k :=
  fn_ok mixed envOk hc q51 Go.Proofs.Tryz.func51 rfl (by kernel_rfl) (by kernel_rfl) k u51 (fun n => f51 (r51 c k n))
    (fun L f h hl => by
      match L, hl with
      | 0, hl => obtain ⟨_, _, _, hl0⟩ := asS_inv (show _ from hl); exact hl0
      | 1, hl => obtain ⟨_, _, _, hl0⟩ := asS_inv (show _ from hl); exact hl0
      | _ + 2, hl => exact hl)
    (fun n p L hm f h hl => by
      simp only [u51, List.mem_cons, Prod.mk.injEq, List.not_mem_nil, or_false] at hm
      rcases hm with ⟨rfl, rfl⟩ | ⟨rfl, rfl⟩
      · have hl : f51 (r51 c k (n + 1)) 0 f h := hl
        obtain ⟨l_0, c_0, e_0, hl0⟩ := asS_inv hl
        have hh := e51_0 c k (r51 c k n) f h l_0 c_0 (f 1)
        rw [fset_self e_0] at hh
        rw [fset_self (rfl : f 1 = f 1)] at hh
        exact Eq.mpr hh hl0
      · have hl : f51 (r51 c k (n + 1)) 1 f h := hl
        obtain ⟨l_0, c_0, e_0, hl0⟩ := asS_inv hl
        have hh := e51_1 c k (r51 c k n) f h l_0 c_0 (f 1)
        rw [fset_self e_0] at hh
        rw [fset_self (rfl : f 1 = f 1)] at hh
        exact Eq.mpr hh hl0
    ) (by simp [u51]) hg

theorem e56_0 (c : Caller Prop FT) (k : KV) (J : J56) (f : FT) (h : H) (l_0 : Nat) (c_0 : Nat) (n_1 : Int) : chunkA env c q56 u56 (f56 J) d56 (retA env Go.Proofs.Tryz.f56.results.toList k) .root (fset (fset f 0 (.str l_0 c_0)) 1 (.int .u8 n_1)) h = s56_0 c k J l_0 c_0 n_1 h := by kernel_rfl
theorem w56 {c : Caller Prop FT} (hc : CallOk Go.Proofs.Tryz.prog (CP env) G (fun p => p) c) {k : KV} {n : Nat} {args : List AV} {h : H} (hg : f56 (r56 c k n) 0 (finit args) h) : SW Go.Proofs.Tryz.prog G (.func 56) args h k :=
  fn_ok mixed envOk hc q56 Go.Proofs.Tryz.func56 rfl (by kernel_rfl) (by kernel_rfl) k u56 (fun n => f56 (r56 c k n))
    (fun L f h hl => by
      match L, hl with
      | 0, hl => obtain ⟨_, _, _, hl0⟩ := asS_inv (show _ from hl); obtain ⟨_, _, hl1⟩ := asI_inv (show _ from hl0); exact hl1
      | _ + 1, hl => exact hl)
    (fun n p L hm f h hl => by
      simp only [u56, List.mem_cons, Prod.mk.injEq, List.not_mem_nil, or_false] at hm
      rcases hm with ⟨rfl, rfl⟩
      · have hl : f56 (r56 c k (n + 1)) 0 f h := hl
        obtain ⟨l_0, c_0, e_0, hl0⟩ := asS_inv hl
        obtain ⟨n_1, e_1, hl1⟩ := asI_inv hl0
        have hh := e56_0 c k (r56 c k n) f h l_0 c_0 n_1
        rw [fset_self e_0] at hh
        rw [fset_self e_1] at hh
        exact Eq.mpr hh hl1
    ) (by simp [u56]) hg

theorem e57_0 (c : Caller Prop FT) (k : KV) (J : J57) (f : FT) (h : H) (l_0 : Nat) (c_0 : Nat) (l_1 : Nat) (c_1 : Nat) : chunkA env c q57 u57 (f57 J) d57 (retA env Go.Proofs.Tryz.f57.results.toList k) .root (fset (fset f 0 (.str l_0 c_0)) 1 (.str l_1 c_1)) h = s57_0 c k J l_0 c_0 l_1 c_1 h := by kernel_rfl
theorem w57 {c : Caller Prop FT} (hc : CallOk Go.Proofs.Tryz.prog (CP env) G (fun p => p) c) {k : KV} {n : Nat} {args : List AV} {h : H} (hg : f57 (r57 c k n) 0 (finit args) h) : SW Go.Proofs.Tryz.prog G (.func 57) args h k :=
  fn_ok mixed envOk hc q57 Go.Proofs.Tryz.func57 rfl (by kernel_rfl) (by kernel_rfl) k u57 (fun n => f57 (r57 c k n))
    (fun L f h hl => by
      match L, hl with
      | 0, hl => obtain ⟨_, _, _, hl0⟩ := asS_inv (show _ from hl); obtain ⟨_, _, _, hl1⟩ := asS_inv (show _ from hl0); exact hl1
      | _ + 1, hl => exact hl)
    (fun n p L hm f h hl => by
      simp only [u57, List.mem_cons, Prod.mk.injEq, List.not_mem_nil, or_false] at hm
      rcases hm with ⟨rfl, rfl⟩
      · have hl : f57 (r57 c k (n + 1)) 0 f h := hl
        obtain ⟨l_0, c_0, e_0, hl0⟩ := asS_inv hl
        obtain ⟨l_1, c_1, e_1, hl1⟩ := asS_inv hl0
        have hh := e57_0 c k (r57 c k n) f h l_0 c_0 l_1 c_1
        rw [fset_self e_0] at hh
        rw [fset_self e_1] at hh
        exact Eq.mpr hh hl1
    ) (by simp [u57]) hg

theorem e59_0 (c : Caller Prop FT) (k : KV) (J : J59) (f : FT) (h : H) (l_0 : Nat) (c_0 : Nat) (n_1 : Int) : chunkA env c q59 u59 (f59 J) d59 (retA env Go.Proofs.Tryz.f59.results.toList k) .root (fset (fset f 0 (.str l_0 c_0)) 1 (.int .i32 n_1)) h = s59_0 c k J l_0 c_0 n_1 h := by kernel_rfl
theorem e59_1 (c : Caller Prop FT) (k : KV) (J : J59) (f : FT) (h : H) (v_175 : AV) : chunkA env c q59 u59 (f59 J) d59 (retA env Go.Proofs.Tryz.f59.results.toList k) (.l (.r (.l (.l (.r (.r (.r (.l (.r .root))))))))) (fset f 175 v_175) h = s59_1 c k J v_175 h := by kernel_rfl
theorem e59_2 (c : Caller Prop FT) (k : KV) (J : J59) (f : FT) (h : H) (l_0 : Nat) (c_0 : Nat) (n_1 : Int) (l_7 : Nat) (c_7 : Nat) (n_8 : Int) (n_9 : Int) (n_10 : Int) : chunkA env c q59 u59 (f59 J) d59 (retA env Go.Proofs.Tryz.f59.results.toList k) (.l (.l (.r (.r (.r (.r (.l (.r (.r (.r (.r (.r (.r (.l (.r .root))))))))))))))) (fset (fset (fset (fset (fset (fset f 0 (.str l_0 c_0)) 1 (.int .i32 n_1)) 7 (.str l_7 c_7)) 8 (.int .i64 n_8)) 9 (.int .i64 n_9)) 10 (.int .i64 n_10)) h = s59_2 c k J l_0 c_0 n_1 l_7 c_7 n_8 n_9 n_10 h := by kernel_rfl
theorem e59_3 (c : Caller Prop FT) (k : KV) (J : J59) (f : FT) (h : H) (l_0 : Nat) (c_0 : Nat) (n_1 : Int) (l_7 : Nat) (c_7 : Nat) (n_8 : Int) (n_9 : Int) (n_10 : Int) (n_12 : Int) : chunkA env c q59 u59 (f59 J) d59 (retA env Go.Proofs.Tryz.f59.results.toList k) (.l (.r (.l (.r (.l (.l (.r (.l (.l (.l (.r (.r (.r (.r (.l (.r (.r (.r (.r (.r (.r (.l (.r .root))))))))))))))))))))))) (fset (fset (fset (fset (fset (fset (fset f 0 (.str l_0 c_0)) 1 (.int .i32 n_1)) 7 (.str l_7 c_7)) 8 (.int .i64 n_8)) 9 (.int .i64 n_9)) 10 (.int .i64 n_10)) 12 (.int .i64 n_12)) h = s59_3 c k J l_0 c_0 n_1 l_7 c_7 n_8 n_9 n_10 n_12 h := by kernel_rfl
theorem e59_4 (c : Caller Prop FT) (k : KV) (J : J59) (f : FT) (h : H) (l_0 : Nat) (c_0 : Nat) (n_1 : Int) (l_7 : Nat) (c_7 : Nat) (n_8 : Int) (n_9 : Int) (n_10 : Int) : chunkA env c q59 u59 (f59 J) d59 (retA env Go.Proofs.Tryz.f59.results.toList k) (.r (.l (.l (.r (.l (.l (.l (.r (.r (.r (.r (.l (.r (.r (.r (.r (.r (.r (.l (.r .root)))))))))))))))))))) (fset (fset (fset (fset (fset (fset f 0 (.str l_0 c_0)) 1 (.int .i32 n_1)) 7 (.str l_7 c_7)) 8 (.int .i64 n_8)) 9 (.int .i64 n_9)) 10 (.int .i64 n_10)) h = s59_4 c k J l_0 c_0 n_1 l_7 c_7 n_8 n_9 n_10 h := by kernel_rfl
theorem e59_5 (c : Caller Prop FT) (k : KV) (J : J59) (f : FT) (h : H) (l_0 : Nat) (c_0 : Nat) (n_1 : Int) (l_7 : Nat) (c_7 : Nat) (n_8 : Int) (n_9 : Int) (n_10 : Int) : chunkA env c q59 u59 (f59 J) d59 (retA env Go.Proofs.Tryz.f59.results.toList k) (.lab (.l (.r (.l (.l (.l (.r (.r (.r (.r (.l (.r (.r (.r (.r (.r (.r (.l (.r .root)))))))))))))))))) 0) (fset (fset (fset (fset (fset (fset f 0 (.str l_0 c_0)) 1 (.int .i32 n_1)) 7 (.str l_7 c_7)) 8 (.int .i64 n_8)) 9 (.int .i64 n_9)) 10 (.int .i64 n_10)) h = s59_5 c k J l_0 c_0 n_1 l_7 c_7 n_8 n_9 n_10 h := by kernel_rfl
theorem e59_6 (c : Caller Prop FT) (k : KV) (J : J59) (f : FT) (h : H) (l_0 : Nat) (c_0 : Nat) (l_7 : Nat) (c_7 : Nat) (n_8 : Int) (n_9 : Int) (n_14 : Int) (n_15 : Int) : chunkA env c q59 u59 (f59 J) d59 (retA env Go.Proofs.Tryz.f59.results.toList k) (.l (.r (.r (.r (.l (.r (.l (.r (.r (.r (.r (.r (.r (.r (.l (.r (.r (.r (.r (.r (.r (.l (.r .root))))))))))))))))))))))) (fset (fset (fset (fset (fset (fset f 0 (.str l_0 c_0)) 7 (.str l_7 c_7)) 8 (.int .i64 n_8)) 9 (.int .i64 n_9)) 14 (.int .u8 n_14)) 15 (.int .u8 n_15)) h = s59_6 c k J l_0 c_0 l_7 c_7 n_8 n_9 n_14 n_15 h := by kernel_rfl
theorem e59_7 (c : Caller Prop FT) (k : KV) (J : J59) (f : FT) (h : H) (l_0 : Nat) (c_0 : Nat) (l_7 : Nat) (c_7 : Nat) (n_8 : Int) (n_9 : Int) (n_14 : Int) (n_15 : Int) (n_16 : Int) : chunkA env c q59 u59 (f59 J) d59 (retA env Go.Proofs.Tryz.f59.results.toList k) (.l (.r (.l (.l (.r (.l (.l (.r (.l (.l (.r (.r (.r (.l (.r (.l (.r (.r (.r (.r (.r (.r (.r (.l (.r (.r (.r (.r (.r (.r (.l (.r .root)))))))))))))))))))))))))))))))) (fset (fset (fset (fset (fset (fset (fset f 0 (.str l_0 c_0)) 7 (.str l_7 c_7)) 8 (.int .i64 n_8)) 9 (.int .i64 n_9)) 14 (.int .u8 n_14)) 15 (.int .u8 n_15)) 16 (.int .i64 n_16)) h = s59_7 c k J l_0 c_0 l_7 c_7 n_8 n_9 n_14 n_15 n_16 h := by kernel_rfl
theorem e59_8 (c : Caller Prop FT) (k : KV) (J : J59) (f : FT) (h : H) (l_0 : Nat) (c_0 : Nat) (l_7 : Nat) (c_7 : Nat) (n_8 : Int) (n_9 : Int) (n_14 : Int) (n_15 : Int) : chunkA env c q59 u59 (f59 J) d59 (retA env Go.Proofs.Tryz.f59.results.toList k) (.r (.r (.l (.l (.r (.r (.r (.l (.r (.l (.r (.r (.r (.r (.r (.r (.r (.l (.r (.r (.r (.r (.r (.r (.l (.r .root)))))))))))))))))))))))))) (fset (fset (fset (fset (fset (fset f 0 (.str l_0 c_0)) 7 (.str l_7 c_7)) 8 (.int .i64 n_8)) 9 (.int .i64 n_9)) 14 (.int .u8 n_14)) 15 (.int .u8 n_15)) h = s59_8 c k J l_0 c_0 l_7 c_7 n_8 n_9 n_14 n_15 h := by kernel_rfl
theorem e59_9 (c : Caller Prop FT) (k : KV) (J : J59) (f : FT) (h : H) (l_0 : Nat) (c_0 : Nat) (l_7 : Nat) (c_7 : Nat) (n_8 : Int) (n_9 : Int) (n_14 : Int) (n_15 : Int) : chunkA env c q59 u59 (f59 J) d59 (retA env Go.Proofs.Tryz.f59.results.toList k) (.lab (.r (.l (.r (.r (.r (.r (.r (.r (.r (.l (.r (.r (.r (.r (.r (.r (.l (.r .root)))))))))))))))))) 2) (fset (fset (fset (fset (fset (fset f 0 (.str l_0 c_0)) 7 (.str l_7 c_7)) 8 (.int .i64 n_8)) 9 (.int .i64 n_9)) 14 (.int .u8 n_14)) 15 (.int .u8 n_15)) h = s59_9 c k J l_0 c_0 l_7 c_7 n_8 n_9 n_14 n_15 h := by kernel_rfl
theorem e59_10 (c : Caller Prop FT) (k : KV) (J : J59) (f : FT) (h : H) (l_0 : Nat) (c_0 : Nat) (l_7 : Nat) (c_7 : Nat) (n_8 : Int) (n_9 : Int) (n_14 : Int) (n_15 : Int) : chunkA env c q59 u59 (f59 J) d59 (retA env Go.Proofs.Tryz.f59.results.toList k) (.l (.r (.lab (.r (.l (.r (.r (.r (.r (.r (.r (.r (.l (.r (.r (.r (.r (.r (.r (.l (.r .root)))))))))))))))))) 2))) (fset (fset (fset (fset (fset (fset f 0 (.str l_0 c_0)) 7 (.str l_7 c_7)) 8 (.int .i64 n_8)) 9 (.int .i64 n_9)) 14 (.int .u8 n_14)) 15 (.int .u8 n_15)) h = s59_10 c k J l_0 c_0 l_7 c_7 n_8 n_9 n_14 n_15 h := by kernel_rfl
theorem e59_11 (c : Caller Prop FT) (k : KV) (J : J59) (f : FT) (h : H) (l_0 : Nat) (c_0 : Nat) (l_7 : Nat) (c_7 : Nat) (n_8 : Int) (n_9 : Int) (n_14 : Int) (n_15 : Int) (n_16 : Int) : chunkA env c q59 u59 (f59 J) d59 (retA env Go.Proofs.Tryz.f59.results.toList k) (.l (.r (.l (.l (.r (.l (.l (.r (.l (.l (.r (.lab (.r (.l (.r (.r (.r (.r (.r (.r (.r (.l (.r (.r (.r (.r (.r (.r (.l (.r .root)))))))))))))))))) 2)))))))))))) (fset (fset (fset (fset (fset (fset (fset f 0 (.str l_0 c_0)) 7 (.str l_7 c_7)) 8 (.int .i64 n_8)) 9 (.int .i64 n_9)) 14 (.int .u8 n_14)) 15 (.int .u8 n_15)) 16 (.int .i64 n_16)) h = s59_11 c k J l_0 c_0 l_7 c_7 n_8 n_9 n_14 n_15 n_16 h := by kernel_rfl
theorem e59_12 (c : Caller Prop FT) (k : KV) (J : J59) (f : FT) (h : H) (l_0 : Nat) (c_0 : Nat) (l_7 : Nat) (c_7 : Nat) (n_8 : Int) (n_9 : Int) (n_14 : Int) (n_15 : Int) : chunkA env c q59 u59 (f59 J) d59 (retA env Go.Proofs.Tryz.f59.results.toList k) (.r (.r (.l (.l (.r (.lab (.r (.l (.r (.r (.r (.r (.r (.r (.r (.l (.r (.r (.r (.r (.r (.r (.l (.r .root)))))))))))))))))) 2)))))) (fset (fset (fset (fset (fset (fset f 0 (.str l_0 c_0)) 7 (.str l_7 c_7)) 8 (.int .i64 n_8)) 9 (.int .i64 n_9)) 14 (.int .u8 n_14)) 15 (.int .u8 n_15)) h = s59_12 c k J l_0 c_0 l_7 c_7 n_8 n_9 n_14 n_15 h := by kernel_rfl
theorem e59_13 (c : Caller Prop FT) (k : KV) (J : J59) (f : FT) (h : H) (l_0 : Nat) (c_0 : Nat) (n_1 : Int) (l_7 : Nat) (c_7 : Nat) (n_8 : Int) (n_9 : Int) : chunkA env c q59 u59 (f59 J) d59 (retA env Go.Proofs.Tryz.f59.results.toList k) (.lab (.r (.r (.r (.r (.r (.r (.l (.r .root)))))))) 1) (fset (fset (fset (fset (fset f 0 (.str l_0 c_0)) 1 (.int .i32 n_1)) 7 (.str l_7 c_7)) 8 (.int .i64 n_8)) 9 (.int .i64 n_9)) h = s59_13 c k J l_0 c_0 n_1 l_7 c_7 n_8 n_9 h := by kernel_rfl
theorem e59_14 (c : Caller Prop FT) (k : KV) (J : J59) (f : FT) (h : H) (l_0 : Nat) (c_0 : Nat) (l_7 : Nat) (c_7 : Nat) (n_8 : Int) (n_9 : Int) (n_14 : Int) (n_15 : Int) : chunkA env c q59 u59 (f59 J) d59 (retA env Go.Proofs.Tryz.f59.results.toList k) (.l (.r (.r (.r (.l (.r (.l (.r (.lab (.r (.r (.r (.r (.r (.r (.l (.r .root)))))))) 1))))))))) (fset (fset (fset (fset (fset (fset f 0 (.str l_0 c_0)) 7 (.str l_7 c_7)) 8 (.int .i64 n_8)) 9 (.int .i64 n_9)) 14 (.int .u8 n_14)) 15 (.int .u8 n_15)) h = s59_14 c k J l_0 c_0 l_7 c_7 n_8 n_9 n_14 n_15 h := by kernel_rfl
theorem e59_15 (c : Caller Prop FT) (k : KV) (J : J59) (f : FT) (h : H) (l_0 : Nat) (c_0 : Nat) (l_7 : Nat) (c_7 : Nat) (n_8 : Int) (n_9 : Int) (n_14 : Int) (n_15 : Int) (n_16 : Int) : chunkA env c q59 u59 (f59 J) d59 (retA env Go.Proofs.Tryz.f59.results.toList k) (.l (.r (.l (.l (.r (.l (.l (.r (.l (.l (.r (.r (.r (.l (.r (.l (.r (.lab (.r (.r (.r (.r (.r (.r (.l (.r .root)))))))) 1)))))))))))))))))) (fset (fset (fset (fset (fset (fset (fset f 0 (.str l_0 c_0)) 7 (.str l_7 c_7)) 8 (.int .i64 n_8)) 9 (.int .i64 n_9)) 14 (.int .u8 n_14)) 15 (.int .u8 n_15)) 16 (.int .i64 n_16)) h = s59_15 c k J l_0 c_0 l_7 c_7 n_8 n_9 n_14 n_15 n_16 h := by kernel_rfl
theorem e59_16 (c : Caller Prop FT) (k : KV) (J : J59) (f : FT) (h : H) (l_0 : Nat) (c_0 : Nat) (l_7 : Nat) (c_7 : Nat) (n_8 : Int) (n_9 : Int) (n_14 : Int) (n_15 : Int) : chunkA env c q59 u59 (f59 J) d59 (retA env Go.Proofs.Tryz.f59.results.toList k) (.r (.r (.l (.l (.r (.r (.r (.l (.r (.l (.r (.lab (.r (.r (.r (.r (.r (.r (.l (.r .root)))))))) 1)))))))))))) (fset (fset (fset (fset (fset (fset f 0 (.str l_0 c_0)) 7 (.str l_7 c_7)) 8 (.int .i64 n_8)) 9 (.int .i64 n_9)) 14 (.int .u8 n_14)) 15 (.int .u8 n_15)) h = s59_16 c k J l_0 c_0 l_7 c_7 n_8 n_9 n_14 n_15 h := by kernel_rfl
theorem e59_17 (c : Caller Prop FT) (k : KV) (J : J59) (f : FT) (h : H) (l_0 : Nat) (c_0 : Nat) (l_7 : Nat) (c_7 : Nat) (n_8 : Int) (n_9 : Int) (n_14 : Int) (n_15 : Int) : chunkA env c q59 u59 (f59 J) d59 (retA env Go.Proofs.Tryz.f59.results.toList k) (.lab (.r (.l (.r (.lab (.r (.r (.r (.r (.r (.r (.l (.r .root)))))))) 1)))) 2) (fset (fset (fset (fset (fset (fset f 0 (.str l_0 c_0)) 7 (.str l_7 c_7)) 8 (.int .i64 n_8)) 9 (.int .i64 n_9)) 14 (.int .u8 n_14)) 15 (.int .u8 n_15)) h = s59_17 c k J l_0 c_0 l_7 c_7 n_8 n_9 n_14 n_15 h := by kernel_rfl
theorem e59_18 (c : Caller Prop FT) (k : KV) (J : J59) (f : FT) (h : H) (l_0 : Nat) (c_0 : Nat) (l_7 : Nat) (c_7 : Nat) (n_8 : Int) (n_9 : Int) (n_14 : Int) (n_15 : Int) : chunkA env c q59 u59 (f59 J) d59 (retA env Go.Proofs.Tryz.f59.results.toList k) (.l (.r (.lab (.r (.l (.r (.lab (.r (.r (.r (.r (.r (.r (.l (.r .root)))))))) 1)))) 2))) (fset (fset (fset (fset (fset (fset f 0 (.str l_0 c_0)) 7 (.str l_7 c_7)) 8 (.int .i64 n_8)) 9 (.int .i64 n_9)) 14 (.int .u8 n_14)) 15 (.int .u8 n_15)) h = s59_18 c k J l_0 c_0 l_7 c_7 n_8 n_9 n_14 n_15 h := by kernel_rfl
theorem e59_19 (c : Caller Prop FT) (k : KV) (J : J59) (f : FT) (h : H) (l_0 : Nat) (c_0 : Nat) (l_7 : Nat) (c_7 : Nat) (n_8 : Int) (n_9 : Int) (n_14 : Int) (n_15 : Int) (n_16 : Int) : chunkA env c q59 u59 (f59 J) d59 (retA env Go.Proofs.Tryz.f59.results.toList k) (.l (.r (.l (.l (.r (.l (.l (.r (.l (.l (.r (.lab (.r (.l (.r (.lab (.r (.r (.r (.r (.r (.r (.l (.r .root)))))))) 1)))) 2)))))))))))) (fset (fset (fset (fset (fset (fset (fset f 0 (.str l_0 c_0)) 7 (.str l_7 c_7)) 8 (.int .i64 n_8)) 9 (.int .i64 n_9)) 14 (.int .u8 n_14)) 15 (.int .u8 n_15)) 16 (.int .i64 n_16)) h = s59_19 c k J l_0 c_0 l_7 c_7 n_8 n_9 n_14 n_15 n_16 h := by kernel_rfl
theorem e59_20 (c : Caller Prop FT) (k : KV) (J : J59) (f : FT) (h : H) (l_0 : Nat) (c_0 : Nat) (l_7 : Nat) (c_7 : Nat) (n_8 : Int) (n_9 : Int) (n_14 : Int) (n_15 : Int) : chunkA env c q59 u59 (f59 J) d59 (retA env Go.Proofs.Tryz.f59.results.toList k) (.r (.r (.l (.l (.r (.lab (.r (.l (.r (.lab (.r (.r (.r (.r (.r (.r (.l (.r .root)))))))) 1)))) 2)))))) (fset (fset (fset (fset (fset (fset f 0 (.str l_0 c_0)) 7 (.str l_7 c_7)) 8 (.int .i64 n_8)) 9 (.int .i64 n_9)) 14 (.int .u8 n_14)) 15 (.int .u8 n_15)) h = s59_20 c k J l_0 c_0 l_7 c_7 n_8 n_9 n_14 n_15 h := by kernel_rfl
theorem e59_21 (c : Caller Prop FT) (k : KV) (J : J59) (f : FT) (h : H) (n_8 : Int) (n_9 : Int) (n_13 : Int) : chunkA env c q59 u59 (f59 J) d59 (retA env Go.Proofs.Tryz.f59.results.toList k) (.r (.l (.l (.r (.r (.r (.r (.r (.r (.r (.l (.r (.r (.r (.r (.r (.r (.l (.r .root))))))))))))))))))) (fset (fset (fset f 8 (.int .i64 n_8)) 9 (.int .i64 n_9)) 13 (.int .i64 n_13)) h = s59_21 c k J n_8 n_9 n_13 h := by kernel_rfl
theorem e59_22 (c : Caller Prop FT) (k : KV) (J : J59) (f : FT) (h : H) (l_0 : Nat) (c_0 : Nat) (l_7 : Nat) (c_7 : Nat) (n_8 : Int) (n_9 : Int) (n_14 : Int) (n_15 : Int) : chunkA env c q59 u59 (f59 J) d59 (retA env Go.Proofs.Tryz.f59.results.toList k) (.r (.r (.l (.r (.l (.r (.r (.r (.r (.r (.r (.r (.l (.r (.r (.r (.r (.r (.r (.l (.r .root))))))))))))))))))))) (fset (fset (fset (fset (fset (fset f 0 (.str l_0 c_0)) 7 (.str l_7 c_7)) 8 (.int .i64 n_8)) 9 (.int .i64 n_9)) 14 (.int .u8 n_14)) 15 (.int .u8 n_15)) h = s59_22 c k J l_0 c_0 l_7 c_7 n_8 n_9 n_14 n_15 h := by kernel_rfl
theorem w59 {c : Caller Prop FT} (hc : CallOk Go.Proofs.Tryz.prog (CP env) G (fun p => p) c) {k : KV} {n : Nat} {args : List AV} {h : H} (hg : f59 (r59 c k n) 0 (finit args) h) : SW Go.Proofs.Tryz.prog G (.func 59) args h k :=
  fn_ok mixed envOk hc q59 Go.Proofs.Tryz.func59 rfl (by kernel_rfl) (by kernel_rfl) k u59 (fun n => f59 (r59 c k n))
    (fun L f h hl => by
      match L, hl with
      | 0, hl => obtain ⟨_, _, _, hl0⟩ := asS_inv (show _ from hl); obtain ⟨_, _, hl1⟩ := asI_inv (show _ from hl0); exact hl1
      | 1, hl => exact hl
      | 2, hl => obtain ⟨_, _, _, hl0⟩ := asS_inv (show _ from hl); obtain ⟨_, _, hl1⟩ := asI_inv (show _ from hl0); obtain ⟨_, _, _, hl2⟩ := asS_inv (show _ from hl1); obtain ⟨_, _, hl3⟩ := asI_inv (show _ from hl2); obtain ⟨_, _, hl4⟩ := asI_inv (show _ from hl3); obtain ⟨_, _, hl5⟩ := asI_inv (show _ from hl4); exact hl5
      | 3, hl => obtain ⟨_, _, _, hl0⟩ := asS_inv (show _ from hl); obtain ⟨_, _, hl1⟩ := asI_inv (show _ from hl0); obtain ⟨_, _, _, hl2⟩ := asS_inv (show _ from hl1); obtain ⟨_, _, hl3⟩ := asI_inv (show _ from hl2); obtain ⟨_, _, hl4⟩ := asI_inv (show _ from hl3); obtain ⟨_, _, hl5⟩ := asI_inv (show _ from hl4); obtain ⟨_, _, hl6⟩ := asI_inv (show _ from hl5); exact hl6
      | 4, hl => obtain ⟨_, _, _, hl0⟩ := asS_inv (show _ from hl); obtain ⟨_, _, hl1⟩ := asI_inv (show _ from hl0); obtain ⟨_, _, _, hl2⟩ := asS_inv (show _ from hl1); obtain ⟨_, _, hl3⟩ := asI_inv (show _ from hl2); obtain ⟨_, _, hl4⟩ := asI_inv (show _ from hl3); obtain ⟨_, _, hl5⟩ := asI_inv (show _ from hl4); exact hl5
      | 5, hl => obtain ⟨_, _, _, hl0⟩ := asS_inv (show _ from hl); obtain ⟨_, _, hl1⟩ := asI_inv (show _ from hl0); obtain ⟨_, _, _, hl2⟩ := asS_inv (show _ from hl1); obtain ⟨_, _, hl3⟩ := asI_inv (show _ from hl2); obtain ⟨_, _, hl4⟩ := asI_inv (show _ from hl3); obtain ⟨_, _, hl5⟩ := asI_inv (show _ from hl4); exact hl5
      | 6, hl => obtain ⟨_, _, _, hl0⟩ := asS_inv (show _ from hl); obtain ⟨_, _, _, hl1⟩ := asS_inv (show _ from hl0); obtain ⟨_, _, hl2⟩ := asI_inv (show _ from hl1); obtain ⟨_, _, hl3⟩ := asI_inv (show _ from hl2); obtain ⟨_, _, hl4⟩ := asI_inv (show _ from hl3); obtain ⟨_, _, hl5⟩ := asI_inv (show _ from hl4); exact hl5
      | 7, hl => obtain ⟨_, _, _, hl0⟩ := asS_inv (show _ from hl); obtain ⟨_, _, _, hl1⟩ := asS_inv (show _ from hl0); obtain ⟨_, _, hl2⟩ := asI_inv (show _ from hl1); obtain ⟨_, _, hl3⟩ := asI_inv (show _ from hl2); obtain ⟨_, _, hl4⟩ := asI_inv (show _ from hl3); obtain ⟨_, _, hl5⟩ := asI_inv (show _ from hl4); obtain ⟨_, _, hl6⟩ := asI_inv (show _ from hl5); exact hl6
      | 8, hl => obtain ⟨_, _, _, hl0⟩ := asS_inv (show _ from hl); obtain ⟨_, _, _, hl1⟩ := asS_inv (show _ from hl0); obtain ⟨_, _, hl2⟩ := asI_inv (show _ from hl1); obtain ⟨_, _, hl3⟩ := asI_inv (show _ from hl2); obtain ⟨_, _, hl4⟩ := asI_inv (show _ from hl3); obtain ⟨_, _, hl5⟩ := asI_inv (show _ from hl4); exact hl5
      | 9, hl => obtain ⟨_, _, _, hl0⟩ := asS_inv (show _ from hl); obtain ⟨_, _, _, hl1⟩ := asS_inv (show _ from hl0); obtain ⟨_, _, hl2⟩ := asI_inv (show _ from hl1); obtain ⟨_, _, hl3⟩ := asI_inv (show _ from hl2); obtain ⟨_, _, hl4⟩ := asI_inv (show _ from hl3); obtain ⟨_, _, hl5⟩ := asI_inv (show _ from hl4); exact hl5
      | 10, hl => obtain ⟨_, _, _, hl0⟩ := asS_inv (show _ from hl); obtain ⟨_, _, _, hl1⟩ := asS_inv (show _ from hl0); obtain ⟨_, _, hl2⟩ := asI_inv (show _ from hl1); obtain ⟨_, _, hl3⟩ := asI_inv (show _ from hl2); obtain ⟨_, _, hl4⟩ := asI_inv (show _ from hl3); obtain ⟨_, _, hl5⟩ := asI_inv (show _ from hl4); exact hl5
      | 11, hl => obtain ⟨_, _, _, hl0⟩ := asS_inv (show _ from hl); obtain ⟨_, _, _, hl1⟩ := asS_inv (show _ from hl0); obtain ⟨_, _, hl2⟩ := asI_inv (show _ from hl1); obtain ⟨_, _, hl3⟩ := asI_inv (show _ from hl2); obtain ⟨_, _, hl4⟩ := asI_inv (show _ from hl3); obtain ⟨_, _, hl5⟩ := asI_inv (show _ from hl4); obtain ⟨_, _, hl6⟩ := asI_inv (show _ from hl5); exact hl6
      | 12, hl => obtain ⟨_, _, _, hl0⟩ := asS_inv (show _ from hl); obtain ⟨_, _, _, hl1⟩ := asS_inv (show _ from hl0); obtain ⟨_, _, hl2⟩ := asI_inv (show _ from hl1); obtain ⟨_, _, hl3⟩ := asI_inv (show _ from hl2); obtain ⟨_, _, hl4⟩ := asI_inv (show _ from hl3); obtain ⟨_, _, hl5⟩ := asI_inv (show _ from hl4); exact hl5
      | 13, hl => obtain ⟨_, _, _, hl0⟩ := asS_inv (show _ from hl); obtain ⟨_, _, hl1⟩ := asI_inv (show _ from hl0); obtain ⟨_, _, _, hl2⟩ := asS_inv (show _ from hl1); obtain ⟨_, _, hl3⟩ := asI_inv (show _ from hl2); obtain ⟨_, _, hl4⟩ := asI_inv (show _ from hl3); exact hl4
      | 14, hl => obtain ⟨_, _, _, hl0⟩ := asS_inv (show _ from hl); obtain ⟨_, _, _, hl1⟩ := asS_inv (show _ from hl0); obtain ⟨_, _, hl2⟩ := asI_inv (show _ from hl1); obtain ⟨_, _, hl3⟩ := asI_inv (show _ from hl2); obtain ⟨_, _, hl4⟩ := asI_inv (show _ from hl3); obtain ⟨_, _, hl5⟩ := asI_inv (show _ from hl4); exact hl5
      | 15, hl => obtain ⟨_, _, _, hl0⟩ := asS_inv (show _ from hl); obtain ⟨_, _, _, hl1⟩ := asS_inv (show _ from hl0); obtain ⟨_, _, hl2⟩ := asI_inv (show _ from hl1); obtain ⟨_, _, hl3⟩ := asI_inv (show _ from hl2); obtain ⟨_, _, hl4⟩ := asI_inv (show _ from hl3); obtain ⟨_, _, hl5⟩ := asI_inv (show _ from hl4); obtain ⟨_, _, hl6⟩ := asI_inv (show _ from hl5); exact hl6
      | 16, hl => obtain ⟨_, _, _, hl0⟩ := asS_inv (show _ from hl); obtain ⟨_, _, _, hl1⟩ := asS_inv (show _ from hl0); obtain ⟨_, _, hl2⟩ := asI_inv (show _ from hl1); obtain ⟨_, _, hl3⟩ := asI_inv (show _ from hl2); obtain ⟨_, _, hl4⟩ := asI_inv (show _ from hl3); obtain ⟨_, _, hl5⟩ := asI_inv (show _ from hl4); exact hl5
      | 17, hl => obtain ⟨_, _, _, hl0⟩ := asS_inv (show _ from hl); obtain ⟨_, _, _, hl1⟩ := asS_inv (show _ from hl0); obtain ⟨_, _, hl2⟩ := asI_inv (show _ from hl1); obtain ⟨_, _, hl3⟩ := asI_inv (show _ from hl2); obtain ⟨_, _, hl4⟩ := asI_inv (show _ from hl3); obtain ⟨_, _, hl5⟩ := asI_inv (show _ from hl4); exact hl5
      | 18, hl => obtain ⟨_, _, _, hl0⟩ := asS_inv (show _ from hl); obtain ⟨_, _, _, hl1⟩ := asS_inv (show _ from hl0); obtain ⟨_, _, hl2⟩ := asI_inv (show _ from hl1); obtain ⟨_, _, hl3⟩ := asI_inv (show _ from hl2); obtain ⟨_, _, hl4⟩ := asI_inv (show _ from hl3); obtain ⟨_, _, hl5⟩ := asI_inv (show _ from hl4); exact hl5
      | 19, hl => obtain ⟨_, _, _, hl0⟩ := asS_inv (show _ from hl); obtain ⟨_, _, _, hl1⟩ := asS_inv (show _ from hl0); obtain ⟨_, _, hl2⟩ := asI_inv (show _ from hl1); obtain ⟨_, _, hl3⟩ := asI_inv (show _ from hl2); obtain ⟨_, _, hl4⟩ := asI_inv (show _ from hl3); obtain ⟨_, _, hl5⟩ := asI_inv (show _ from hl4); obtain ⟨_, _, hl6⟩ := asI_inv (show _ from hl5); exact hl6
      | 20, hl => obtain ⟨_, _, _, hl0⟩ := asS_inv (show _ from hl); obtain ⟨_, _, _, hl1⟩ := asS_inv (show _ from hl0); obtain ⟨_, _, hl2⟩ := asI_inv (show _ from hl1); obtain ⟨_, _, hl3⟩ := asI_inv (show _ from hl2); obtain ⟨_, _, hl4⟩ := asI_inv (show _ from hl3); obtain ⟨_, _, hl5⟩ := asI_inv (show _ from hl4); exact hl5
      | 21, hl => obtain ⟨_, _, hl0⟩ := asI_inv (show _ from hl); obtain ⟨_, _, hl1⟩ := asI_inv (show _ from hl0); obtain ⟨_, _, hl2⟩ := asI_inv (show _ from hl1); exact hl2
      | 22, hl => obtain ⟨_, _, _, hl0⟩ := asS_inv (show _ from hl); obtain ⟨_, _, _, hl1⟩ := asS_inv (show _ from hl0); obtain ⟨_, _, hl2⟩ := asI_inv (show _ from hl1); obtain ⟨_, _, hl3⟩ := asI_inv (show _ from hl2); obtain ⟨_, _, hl4⟩ := asI_inv (show _ from hl3); obtain ⟨_, _, hl5⟩ := asI_inv (show _ from hl4); exact hl5
      | _ + 23, hl => exact hl)
    (fun n p L hm f h hl => by
      simp only [u59, List.mem_cons, Prod.mk.injEq, List.not_mem_nil, or_false] at hm
      rcases hm with ⟨rfl, rfl⟩ | ⟨rfl, rfl⟩ | ⟨rfl, rfl⟩ | ⟨rfl, rfl⟩ | ⟨rfl, rfl⟩ | ⟨rfl, rfl⟩ | ⟨rfl, rfl⟩ | ⟨rfl, rfl⟩ | ⟨rfl, rfl⟩ | ⟨rfl, rfl⟩ | ⟨rfl, rfl⟩ | ⟨rfl, rfl⟩ | ⟨rfl, rfl⟩ | ⟨rfl, rfl⟩ | ⟨rfl, rfl⟩ | ⟨rfl, rfl⟩ | ⟨rfl, rfl⟩ | ⟨rfl, rfl⟩ | ⟨rfl, rfl⟩ | ⟨rfl, rfl⟩ | ⟨rfl, rfl⟩ | ⟨rfl, rfl⟩ | ⟨rfl, rfl⟩
      · have hl : f59 (r59 c k (n + 1)) 0 f h := hl
        obtain ⟨l_0, c_0, e_0, hl0⟩ := asS_inv hl
        obtain ⟨n_1, e_1, hl1⟩ := asI_inv hl0
        have hh := e59_0 c k (r59 c k n) f h l_0 c_0 n_1
        rw [fset_self e_0] at hh
        rw [fset_self e_1] at hh
        exact Eq.mpr hh hl1
      · have hl : f59 (r59 c k (n + 1)) 1 f h := hl
        have hh := e59_1 c k (r59 c k n) f h (f 175)
        rw [fset_self (rfl : f 175 = f 175)] at hh
        exact Eq.mpr hh hl
      · have hl : f59 (r59 c k (n + 1)) 2 f h := hl
        obtain ⟨l_0, c_0, e_0, hl0⟩ := asS_inv hl
        obtain ⟨n_1, e_1, hl1⟩ := asI_inv hl0
        obtain ⟨l_7, c_7, e_7, hl2⟩ := asS_inv hl1
        obtain ⟨n_8, e_8, hl3⟩ := asI_inv hl2
        obtain ⟨n_9, e_9, hl4⟩ := asI_inv hl3
        obtain ⟨n_10, e_10, hl5⟩ := asI_inv hl4
        have hh := e59_2 c k (r59 c k n) f h l_0 c_0 n_1 l_7 c_7 n_8 n_9 n_10
        rw [fset_self e_0] at hh
        rw [fset_self e_1] at hh
        rw [fset_self e_7] at hh
        rw [fset_self e_8] at hh
        rw [fset_self e_9] at hh
        rw [fset_self e_10] at hh
        exact Eq.mpr hh hl5
      · have hl : f59 (r59 c k (n + 1)) 3 f h := hl
        obtain ⟨l_0, c_0, e_0, hl0⟩ := asS_inv hl
        obtain ⟨n_1, e_1, hl1⟩ := asI_inv hl0
        obtain ⟨l_7, c_7, e_7, hl2⟩ := asS_inv hl1
        obtain ⟨n_8, e_8, hl3⟩ := asI_inv hl2
        obtain ⟨n_9, e_9, hl4⟩ := asI_inv hl3
        obtain ⟨n_10, e_10, hl5⟩ := asI_inv hl4
        obtain ⟨n_12, e_12, hl6⟩ := asI_inv hl5
        have hh := e59_3 c k (r59 c k n) f h l_0 c_0 n_1 l_7 c_7 n_8 n_9 n_10 n_12
        rw [fset_self e_0] at hh
        rw [fset_self e_1] at hh
        rw [fset_self e_7] at hh
        rw [fset_self e_8] at hh
        rw [fset_self e_9] at hh
        rw [fset_self e_10] at hh
        rw [fset_self e_12] at hh
        exact Eq.mpr hh hl6
      · have hl : f59 (r59 c k (n + 1)) 4 f h := hl
        obtain ⟨l_0, c_0, e_0, hl0⟩ := asS_inv hl
        obtain ⟨n_1, e_1, hl1⟩ := asI_inv hl0
        obtain ⟨l_7, c_7, e_7, hl2⟩ := asS_inv hl1
        obtain ⟨n_8, e_8, hl3⟩ := asI_inv hl2
        obtain ⟨n_9, e_9, hl4⟩ := asI_inv hl3
        obtain ⟨n_10, e_10, hl5⟩ := asI_inv hl4
        have hh := e59_4 c k (r59 c k n) f h l_0 c_0 n_1 l_7 c_7 n_8 n_9 n_10
        rw [fset_self e_0] at hh
        rw [fset_self e_1] at hh
        rw [fset_self e_7] at hh
        rw [fset_self e_8] at hh
        rw [fset_self e_9] at hh
        rw [fset_self e_10] at hh
        exact Eq.mpr hh hl5
      · have hl : f59 (r59 c k (n + 1)) 5 f h := hl
        obtain ⟨l_0, c_0, e_0, hl0⟩ := asS_inv hl
        obtain ⟨n_1, e_1, hl1⟩ := asI_inv hl0
        obtain ⟨l_7, c_7, e_7, hl2⟩ := asS_inv hl1
        obtain ⟨n_8, e_8, hl3⟩ := asI_inv hl2
        obtain ⟨n_9, e_9, hl4⟩ := asI_inv hl3
        obtain ⟨n_10, e_10, hl5⟩ := asI_inv hl4
        have hh := e59_5 c k (r59 c k n) f h l_0 c_0 n_1 l_7 c_7 n_8 n_9 n_10
        rw [fset_self e_0] at hh
        rw [fset_self e_1] at hh
        rw [fset_self e_7] at hh
        rw [fset_self e_8] at hh
        rw [fset_self e_9] at hh
        rw [fset_self e_10] at hh
        exact Eq.mpr hh hl5
      · have hl : f59 (r59 c k (n + 1)) 6 f h := hl
        obtain ⟨l_0, c_0, e_0, hl0⟩ := asS_inv hl
        obtain ⟨l_7, c_7, e_7, hl1⟩ := asS_inv hl0
        obtain ⟨n_8, e_8, hl2⟩ := asI_inv hl1
        obtain ⟨n_9, e_9, hl3⟩ := asI_inv hl2
        obtain ⟨n_14, e_14, hl4⟩ := asI_inv hl3
        obtain ⟨n_15, e_15, hl5⟩ := asI_inv hl4
        have hh := e59_6 c k (r59 c k n) f h l_0 c_0 l_7 c_7 n_8 n_9 n_14 n_15
        rw [fset_self e_0] at hh
        rw [fset_self e_7] at hh
        rw [fset_self e_8] at hh
        rw [fset_self e_9] at hh
        rw [fset_self e_14] at hh
        rw [fset_self e_15] at hh
        exact Eq.mpr hh hl5
      · have hl : f59 (r59 c k (n + 1)) 7 f h := hl
        obtain ⟨l_0, c_0, e_0, hl0⟩ := asS_inv hl
        obtain ⟨l_7, c_7, e_7, hl1⟩ := asS_inv hl0
        obtain ⟨n_8, e_8, hl2⟩ := asI_inv hl1
        obtain ⟨n_9, e_9, hl3⟩ := asI_inv hl2
        obtain ⟨n_14, e_14, hl4⟩ := asI_inv hl3
        obtain ⟨n_15, e_15, hl5⟩ := asI_inv hl4
        obtain ⟨n_16, e_16, hl6⟩ := asI_inv hl5
        have hh := e59_7 c k (r59 c k n) f h l_0 c_0 l_7 c_7 n_8 n_9 n_14 n_15 n_16
        rw [fset_self e_0] at hh
        rw [fset_self e_7] at hh
        rw [fset_self e_8] at hh
        rw [fset_self e_9] at hh
        rw [fset_self e_14] at hh
        rw [fset_self e_15] at hh
        rw [fset_self e_16] at hh
        exact Eq.mpr hh hl6
      · have hl : f59 (r59 c k (n + 1)) 8 f h := hl
        obtain ⟨l_0, c_0, e_0, hl0⟩ := asS_inv hl
        obtain ⟨l_7, c_7, e_7, hl1⟩ := asS_inv hl0
        obtain ⟨n_8, e_8, hl2⟩ := asI_inv hl1
        obtain ⟨n_9, e_9, hl3⟩ := asI_inv hl2
        obtain ⟨n_14, e_14, hl4⟩ := asI_inv hl3
        obtain ⟨n_15, e_15, hl5⟩ := asI_inv hl4
        have hh := e59_8 c k (r59 c k n) f h l_0 c_0 l_7 c_7 n_8 n_9 n_14 n_15
        rw [fset_self e_0] at hh
        rw [fset_self e_7] at hh
        rw [fset_self e_8] at hh
        rw [fset_self e_9] at hh
        rw [fset_self e_14] at hh
        rw [fset_self e_15] at hh
        exact Eq.mpr hh hl5
      · have hl : f59 (r59 c k (n + 1)) 9 f h := hl
        obtain ⟨l_0, c_0, e_0, hl0⟩ := asS_inv hl
        obtain ⟨l_7, c_7, e_7, hl1⟩ := asS_inv hl0
        obtain ⟨n_8, e_8, hl2⟩ := asI_inv hl1
        obtain ⟨n_9, e_9, hl3⟩ := asI_inv hl2
        obtain ⟨n_14, e_14, hl4⟩ := asI_inv hl3
        obtain ⟨n_15, e_15, hl5⟩ := asI_inv hl4
        have hh := e59_9 c k (r59 c k n) f h l_0 c_0 l_7 c_7 n_8 n_9 n_14 n_15
        rw [fset_self e_0] at hh
        rw [fset_self e_7] at hh
        rw [fset_self e_8] at hh
        rw [fset_self e_9] at hh
        rw [fset_self e_14] at hh
        rw [fset_self e_15] at hh
        exact Eq.mpr hh hl5
      · have hl : f59 (r59 c k (n + 1)) 10 f h := hl
        obtain ⟨l_0, c_0, e_0, hl0⟩ := asS_inv hl
        obtain ⟨l_7, c_7, e_7, hl1⟩ := asS_inv hl0
        obtain ⟨n_8, e_8, hl2⟩ := asI_inv hl1
        obtain ⟨n_9, e_9, hl3⟩ := asI_inv hl2
        obtain ⟨n_14, e_14, hl4⟩ := asI_inv hl3
        obtain ⟨n_15, e_15, hl5⟩ := asI_inv hl4
        have hh := e59_10 c k (r59 c k n) f h l_0 c_0 l_7 c_7 n_8 n_9 n_14 n_15
        rw [fset_self e_0] at hh
        rw [fset_self e_7] at hh
        rw [fset_self e_8] at hh
        rw [fset_self e_9] at hh
        rw [fset_self e_14] at hh
        rw [fset_self e_15] at hh
        exact Eq.mpr hh hl5
      · have hl : f59 (r59 c k (n + 1)) 11 f h := hl
        obtain ⟨l_0, c_0, e_0, hl0⟩ := asS_inv hl
        obtain ⟨l_7, c_7, e_7, hl1⟩ := asS_inv hl0
        obtain ⟨n_8, e_8, hl2⟩ := asI_inv hl1
        obtain ⟨n_9, e_9, hl3⟩ := asI_inv hl2
        obtain ⟨n_14, e_14, hl4⟩ := asI_inv hl3
        obtain ⟨n_15, e_15, hl5⟩ := asI_inv hl4
        obtain ⟨n_16, e_16, hl6⟩ := asI_inv hl5
        have hh := e59_11 c k (r59 c k n) f h l_0 c_0 l_7 c_7 n_8 n_9 n_14 n_15 n_16
        rw [fset_self e_0] at hh
        rw [fset_self e_7] at hh
        rw [fset_self e_8] at hh
        rw [fset_self e_9] at hh
        rw [fset_self e_14] at hh
        rw [fset_self e_15] at hh
        rw [fset_self e_16] at hh
        exact Eq.mpr hh hl6
      · have hl : f59 (r59 c k (n + 1)) 12 f h := hl
        obtain ⟨l_0, c_0, e_0, hl0⟩ := asS_inv hl
        obtain ⟨l_7, c_7, e_7, hl1⟩ := asS_inv hl0
        obtain ⟨n_8, e_8, hl2⟩ := asI_inv hl1
        obtain ⟨n_9, e_9, hl3⟩ := asI_inv hl2
        obtain ⟨n_14, e_14, hl4⟩ := asI_inv hl3
        obtain ⟨n_15, e_15, hl5⟩ := asI_inv hl4
        have hh := e59_12 c k (r59 c k n) f h l_0 c_0 l_7 c_7 n_8 n_9 n_14 n_15
        rw [fset_self e_0] at hh
        rw [fset_self e_7] at hh
        rw [fset_self e_8] at hh
        rw [fset_self e_9] at hh
        rw [fset_self e_14] at hh
        rw [fset_self e_15] at hh
        exact Eq.mpr hh hl5
      · have hl : f59 (r59 c k (n + 1)) 13 f h := hl
        obtain ⟨l_0, c_0, e_0, hl0⟩ := asS_inv hl
        obtain ⟨n_1, e_1, hl1⟩ := asI_inv hl0
        obtain ⟨l_7, c_7, e_7, hl2⟩ := asS_inv hl1
        obtain ⟨n_8, e_8, hl3⟩ := asI_inv hl2
        obtain ⟨n_9, e_9, hl4⟩ := asI_inv hl3
        have hh := e59_13 c k (r59 c k n) f h l_0 c_0 n_1 l_7 c_7 n_8 n_9
        rw [fset_self e_0] at hh
        rw [fset_self e_1] at hh
        rw [fset_self e_7] at hh
        rw [fset_self e_8] at hh
        rw [fset_self e_9] at hh
        exact Eq.mpr hh hl4
      · have hl : f59 (r59 c k (n + 1)) 14 f h := hl
        obtain ⟨l_0, c_0, e_0, hl0⟩ := asS_inv hl
        obtain ⟨l_7, c_7, e_7, hl1⟩ := asS_inv hl0
        obtain ⟨n_8, e_8, hl2⟩ := asI_inv hl1
        obtain ⟨n_9, e_9, hl3⟩ := asI_inv hl2
        obtain ⟨n_14, e_14, hl4⟩ := asI_inv hl3
        obtain ⟨n_15, e_15, hl5⟩ := asI_inv hl4
        have hh := e59_14 c k (r59 c k n) f h l_0 c_0 l_7 c_7 n_8 n_9 n_14 n_15
        rw [fset_self e_0] at hh
        rw [fset_self e_7] at hh
        rw [fset_self e_8] at hh
        rw [fset_self e_9] at hh
        rw [fset_self e_14] at hh
        rw [fset_self e_15] at hh
        exact Eq.mpr hh hl5
      · have hl : f59 (r59 c k (n + 1)) 15 f h := hl
        obtain ⟨l_0, c_0, e_0, hl0⟩ := asS_inv hl
        obtain ⟨l_7, c_7, e_7, hl1⟩ := asS_inv hl0
        obtain ⟨n_8, e_8, hl2⟩ := asI_inv hl1
        obtain ⟨n_9, e_9, hl3⟩ := asI_inv hl2
        obtain ⟨n_14, e_14, hl4⟩ := asI_inv hl3
        obtain ⟨n_15, e_15, hl5⟩ := asI_inv hl4
        obtain ⟨n_16, e_16, hl6⟩ := asI_inv hl5
        have hh := e59_15 c k (r59 c k n) f h l_0 c_0 l_7 c_7 n_8 n_9 n_14 n_15 n_16
        rw [fset_self e_0] at hh
        rw [fset_self e_7] at hh
        rw [fset_self e_8] at hh
        rw [fset_self e_9] at hh
        rw [fset_self e_14] at hh
        rw [fset_self e_15] at hh
        rw [fset_self e_16] at hh
        exact Eq.mpr hh hl6
      · have hl : f59 (r59 c k (n + 1)) 16 f h := hl
        obtain ⟨l_0, c_0, e_0, hl0⟩ := asS_inv hl
        obtain ⟨l_7, c_7, e_7, hl1⟩ := asS_inv hl0
        obtain ⟨n_8, e_8, hl2⟩ := asI_inv hl1
        obtain ⟨n_9, e_9, hl3⟩ := asI_inv hl2
        obtain ⟨n_14, e_14, hl4⟩ := asI_inv hl3
        obtain ⟨n_15, e_15, hl5⟩ := asI_inv hl4
        have hh := e59_16 c k (r59 c k n) f h l_0 c_0 l_7 c_7 n_8 n_9 n_14 n_15
        rw [fset_self e_0] at hh
        rw [fset_self e_7] at hh
        rw [fset_self e_8] at hh
        rw [fset_self e_9] at hh
        rw [fset_self e_14] at hh
        rw [fset_self e_15] at hh
        exact Eq.mpr hh hl5
      · have hl : f59 (r59 c k (n + 1)) 17 f h := hl
        obtain ⟨l_0, c_0, e_0, hl0⟩ := asS_inv hl
        obtain ⟨l_7, c_7, e_7, hl1⟩ := asS_inv hl0
        obtain ⟨n_8, e_8, hl2⟩ := asI_inv hl1
        obtain ⟨n_9, e_9, hl3⟩ := asI_inv hl2
        obtain ⟨n_14, e_14, hl4⟩ := asI_inv hl3
        obtain ⟨n_15, e_15, hl5⟩ := asI_inv hl4
        have hh := e59_17 c k (r59 c k n) f h l_0 c_0 l_7 c_7 n_8 n_9 n_14 n_15
        rw [fset_self e_0] at hh
        rw [fset_self e_7] at hh
        rw [fset_self e_8] at hh
        rw [fset_self e_9] at hh
        rw [fset_self e_14] at hh
        rw [fset_self e_15] at hh
        exact Eq.mpr hh hl5
      · have hl : f59 (r59 c k (n + 1)) 18 f h := hl
        obtain ⟨l_0, c_0, e_0, hl0⟩ := asS_inv hl
        obtain ⟨l_7, c_7, e_7, hl1⟩ := asS_inv hl0
        obtain ⟨n_8, e_8, hl2⟩ := asI_inv hl1
        obtain ⟨n_9, e_9, hl3⟩ := asI_inv hl2
        obtain ⟨n_14, e_14, hl4⟩ := asI_inv hl3
        obtain ⟨n_15, e_15, hl5⟩ := asI_inv hl4
        have hh := e59_18 c k (r59 c k n) f h l_0 c_0 l_7 c_7 n_8 n_9 n_14 n_15
        rw [fset_self e_0] at hh
        rw [fset_self e_7] at hh
        rw [fset_self e_8] at hh
        rw [fset_self e_9] at hh
        rw [fset_self e_14] at hh
        rw [fset_self e_15] at hh
        exact Eq.mpr hh hl5
      · have hl : f59 (r59 c k (n + 1)) 19 f h := hl
        obtain ⟨l_0, c_0, e_0, hl0⟩ := asS_inv hl
        obtain ⟨l_7, c_7, e_7, hl1⟩ := asS_inv hl0
        obtain ⟨n_8, e_8, hl2⟩ := asI_inv hl1
        obtain ⟨n_9, e_9, hl3⟩ := asI_inv hl2
        obtain ⟨n_14, e_14, hl4⟩ := asI_inv hl3
        obtain ⟨n_15, e_15, hl5⟩ := asI_inv hl4
        obtain ⟨n_16, e_16, hl6⟩ := asI_inv hl5
        have hh := e59_19 c k (r59 c k n) f h l_0 c_0 l_7 c_7 n_8 n_9 n_14 n_15 n_16
        rw [fset_self e_0] at hh
        rw [fset_self e_7] at hh
        rw [fset_self e_8] at hh
        rw [fset_self e_9] at hh
        rw [fset_self e_14] at hh
        rw [fset_self e_15] at hh
        rw [fset_self e_16] at hh
        exact Eq.mpr hh hl6
      · have hl : f59 (r59 c k (n + 1)) 20 f h := hl
        obtain ⟨l_0, c_0, e_0, hl0⟩ := asS_inv hl
        obtain ⟨l_7, c_7, e_7, hl1⟩ := asS_inv hl0
        obtain ⟨n_8, e_8, hl2⟩ := asI_inv hl1
        obtain ⟨n_9, e_9, hl3⟩ := asI_inv hl2
        obtain ⟨n_14, e_14, hl4⟩ := asI_inv hl3
        obtain ⟨n_15, e_15, hl5⟩ := asI_inv hl4
        have hh := e59_20 c k (r59 c k n) f h l_0 c_0 l_7 c_7 n_8 n_9 n_14 n_15
        rw [fset_self e_0] at hh
        rw [fset_self e_7] at hh
        rw [fset_self e_8] at hh
        rw [fset_self e_9] at hh
        rw [fset_self e_14] at hh
        rw [fset_self e_15] at hh
        exact Eq.mpr hh hl5
      · have hl : f59 (r59 c k (n + 1)) 21 f h := hl
        obtain ⟨n_8, e_8, hl0⟩ := asI_inv hl
        obtain ⟨n_9, e_9, hl1⟩ := asI_inv hl0
        obtain ⟨n_13, e_13, hl2⟩ := asI_inv hl1
        have hh := e59_21 c k (r59 c k n) f h n_8 n_9 n_13
        rw [fset_self e_8] at hh
        rw [fset_self e_9] at hh
        rw [fset_self e_13] at hh
        exact Eq.mpr hh hl2
      · have hl : f59 (r59 c k (n + 1)) 22 f h := hl
        obtain ⟨l_0, c_0, e_0, hl0⟩ := asS_inv hl
        obtain ⟨l_7, c_7, e_7, hl1⟩ := asS_inv hl0
        obtain ⟨n_8, e_8, hl2⟩ := asI_inv hl1
        obtain ⟨n_9, e_9, hl3⟩ := asI_inv hl2
        obtain ⟨n_14, e_14, hl4⟩ := asI_inv hl3
        obtain ⟨n_15, e_15, hl5⟩ := asI_inv hl4
        have hh := e59_22 c k (r59 c k n) f h l_0 c_0 l_7 c_7 n_8 n_9 n_14 n_15
        rw [fset_self e_0] at hh
        rw [fset_self e_7] at hh
        rw [fset_self e_8] at hh
        rw [fset_self e_9] at hh
        rw [fset_self e_14] at hh
        rw [fset_self e_15] at hh
        exact Eq.mpr hh hl5
    ) (by simp [u59]) hg

theorem e62_0 (c : Caller Prop FT) (k : KV) (J : J62) (f : FT) (h : H) : chunkA env c q62 u62 (f62 J) d62 (retA env Go.Proofs.Tryz.f62.results.toList k) .root f h = s62_0 c k J  h := by kernel_rfl
theorem w62 {c : Caller Prop FT} (hc : CallOk Go.Proofs.Tryz.prog (CP env) G (fun p => p) c) {k : KV} {n : Nat} {args : List AV} {h : H} (hg : f62 (r62 c k n) 0 (finit args) h) : SW Go.Proofs.Tryz.prog G (.func 62) args h k :=
  fn_ok mixed envOk hc q62 Go.Proofs.Tryz.func62 rfl (by kernel_rfl) (by kernel_rfl) k u62 (fun n => f62 (r62 c k n))
    (fun L f h hl => by
      match L, hl with
      | 0, hl => exact hl
      | _ + 1, hl => exact hl)
    (fun n p L hm f h hl => by
      simp only [u62, List.mem_cons, Prod.mk.injEq, List.not_mem_nil, or_false] at hm
      rcases hm with ⟨rfl, rfl⟩
      · have hl : f62 (r62 c k (n + 1)) 0 f h := hl
        have hh := e62_0 c k (r62 c k n) f h 
        exact Eq.mpr hh hl
    ) (by simp [u62]) hg

theorem e68_0 (c : Caller Prop FT) (k : KV) (J : J68) (f : FT) (h : H) (l_0 : Nat) (c_0 : Nat) (l_1 : Nat) (c_1 : Nat) : chunkA env c q68 u68 (f68 J) d68 (retA env Go.Proofs.Tryz.f68.results.toList k) .root (fset (fset f 0 (.str l_0 c_0)) 1 (.str l_1 c_1)) h = s68_0 c k J l_0 c_0 l_1 c_1 h := by kernel_rfl
theorem w68 {c : Caller Prop FT} (hc : CallOk Go.Proofs.Tryz.prog (CP env) G (fun p => p) c) {k : KV} {n : Nat} {args : List AV} {h : H} (hg : f68 (r68 c k n) 0 (finit args) h) : SW Go.Proofs.Tryz.prog G (.func 68) args h k :=
  fn_ok mixed envOk hc q68 Go.Proofs.Tryz.func68 rfl (by kernel_rfl) (by kernel_rfl) k u68 (fun n => f68 (r68 c k n))
    (fun L f h hl => by
      match L, hl with
      | 0, hl => obtain ⟨_, _, _, hl0⟩ := asS_inv (show _ from hl); obtain ⟨_, _, _, hl1⟩ := asS_inv (show _ from hl0); exact hl1
      | _ + 1, hl => exact hl)
    (fun n p L hm f h hl => by
      simp only [u68, List.mem_cons, Prod.mk.injEq, List.not_mem_nil, or_false] at hm
      rcases hm with ⟨rfl, rfl⟩
      · have hl : f68 (r68 c k (n + 1)) 0 f h := hl
        obtain ⟨l_0, c_0, e_0, hl0⟩ := asS_inv hl
        obtain ⟨l_1, c_1, e_1, hl1⟩ := asS_inv hl0
        have hh := e68_0 c k (r68 c k n) f h l_0 c_0 l_1 c_1
        rw [fset_self e_0] at hh
        rw [fset_self e_1] at hh
        exact Eq.mpr hh hl1
    ) (by simp [u68]) hg

theorem e78_0 (c : Caller Prop FT) (k : KV) (J : J78) (f : FT) (h : H) (n_0 : Int) : chunkA env c q78 u78 (f78 J) d78 (retA env Go.Proofs.Tryz.f78.results.toList k) .root (fset f 0 (.int .i64 n_0)) h = s78_0 c k J n_0 h := by kernel_rfl
theorem w78 {c : Caller Prop FT} (hc : CallOk Go.Proofs.Tryz.prog (CP env) G (fun p => p) c) {k : KV} {n : Nat} {args : List AV} {h : H} (hg : f78 (r78 c k n) 0 (finit args) h) : SW Go.Proofs.Tryz.prog G (.func 78) args h k :=
  fn_ok mixed envOk hc q78 Go.Proofs.Tryz.func78 rfl (by kernel_rfl) (by kernel_rfl) k u78 (fun n => f78 (r78 c k n))
    (fun L f h hl => by
      match L, hl with
      | 0, hl => obtain ⟨_, _, hl0⟩ := asI_inv (show _ from hl); exact hl0
      | _ + 1, hl => exact hl)
    (fun n p L hm f h hl => by
      simp only [u78, List.mem_cons, Prod.mk.injEq, List.not_mem_nil, or_false] at hm
      rcases hm with ⟨rfl, rfl⟩
      · have hl : f78 (r78 c k (n + 1)) 0 f h := hl
        obtain ⟨n_0, e_0, hl0⟩ := asI_inv hl
        have hh := e78_0 c k (r78 c k n) f h n_0
        rw [fset_self e_0] at hh
        exact Eq.mpr hh hl0
    ) (by simp [u78]) hg

theorem e83_0 (c : Caller Prop FT) (k : KV) (J : J83) (f : FT) (h : H) (l_0 : Nat) (c_0 : Nat) : chunkA env c q83 u83 (f83 J) d83 (retA env Go.Proofs.Tryz.f83.results.toList k) .root (fset f 0 (.str l_0 c_0)) h = s83_0 c k J l_0 c_0 h := by kernel_rfl
theorem w83 {c : Caller Prop FT} (hc : CallOk Go.Proofs.Tryz.prog (CP env) G (fun p => p) c) {k : KV} {n : Nat} {args : List AV} {h : H} (hg : f83 (r83 c k n) 0 (finit args) h) : SW Go.Proofs.Tryz.prog G (.func 83) args h k :=
  fn_ok mixed envOk hc q83 Go.Proofs.Tryz.func83 rfl (by kernel_rfl) (by kernel_rfl) k u83 (fun n => f83 (r83 c k n))
    (fun L f h hl => by
      match L, hl with
      | 0, hl => obtain ⟨_, _, _, hl0⟩ := asS_inv (show _ from hl); exact hl0
      | _ + 1, hl => exact hl)
    (fun n p L hm f h hl => by
      simp only [u83, List.mem_cons, Prod.mk.injEq, List.not_mem_nil, or_false] at hm
      rcases hm with ⟨rfl, rfl⟩
      · have hl : f83 (r83 c k (n + 1)) 0 f h := hl
        obtain ⟨l_0, c_0, e_0, hl0⟩ := asS_inv hl
        have hh := e83_0 c k (r83 c k n) f h l_0 c_0
        rw [fset_self e_0] at hh
        exact Eq.mpr hh hl0
    ) (by simp [u83]) hg

theorem e92_0 (c : Caller Prop FT) (k : KV) (J : J92) (f : FT) (h : H) (n_0 : Int) : chunkA env c q92 u92 (f92 J) d92 (retA env Go.Proofs.Tryz.f92.results.toList k) .root (fset f 0 (.int .u8 n_0)) h = s92_0 c k J n_0 h := by kernel_rfl
theorem w92 {c : Caller Prop FT} (hc : CallOk Go.Proofs.Tryz.prog (CP env) G (fun p => p) c) {k : KV} {n : Nat} {args : List AV} {h : H} (hg : f92 (r92 c k n) 0 (finit args) h) : SW Go.Proofs.Tryz.prog G (.func 92) args h k :=
  fn_ok mixed envOk hc q92 Go.Proofs.Tryz.func92 rfl (by kernel_rfl) (by kernel_rfl) k u92 (fun n => f92 (r92 c k n))
    (fun L f h hl => by
      match L, hl with
      | 0, hl => obtain ⟨_, _, hl0⟩ := asI_inv (show _ from hl); exact hl0
      | _ + 1, hl => exact hl)
    (fun n p L hm f h hl => by
      simp only [u92, List.mem_cons, Prod.mk.injEq, List.not_mem_nil, or_false] at hm
      rcases hm with ⟨rfl, rfl⟩
      · have hl : f92 (r92 c k (n + 1)) 0 f h := hl
        obtain ⟨n_0, e_0, hl0⟩ := asI_inv hl
        have hh := e92_0 c k (r92 c k n) f h n_0
        rw [fset_self e_0] at hh
        exact Eq.mpr hh hl0
    ) (by simp [u92]) hg

end Go.Den
