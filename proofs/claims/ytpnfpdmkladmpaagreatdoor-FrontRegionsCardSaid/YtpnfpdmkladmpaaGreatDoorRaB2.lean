/-
  A part of the proof: the pieces are what the program does.
-/
import Derived.Test.YtpnfpdmkladmpaaGreatDoorRaA1
import Derived.Test.YtpnfpdmkladmpaaGreatDoorRaA2
import Derived.KernelRfl
namespace Go.Den
set_option maxRecDepth 100000
theorem e8_0 (c : Caller Prop FT) (k : KV) (J : J8) (f : FT) (h : H) (n_0 : Int) (n_1 : Int) : chunkA env c q8 u8 (f8 J) d8 (retA env Go.Proofs.Tryz.f8.results.toList k) .root (fset (fset f 0 (.int .i64 n_0)) 1 (.int .i64 n_1)) h = s8_0 c k J n_0 n_1 h := by kernel_rfl
theorem w8 {c : Caller Prop FT} (hc : CallOk Go.Proofs.Tryz.prog (CP env) G (fun p => p) c) {k : KV} {n : Nat} {args : List AV} {h : H} (hg : f8 (r8 c k n) 0 (finit args) h) : SW Go.Proofs.Tryz.prog G (.func 8) args h k :=
  fn_ok mixed envOk hc q8 Go.Proofs.Tryz.func8 rfl (by kernel_rfl) (by kernel_rfl) k u8 (fun n => f8 (r8 c k n))
    (fun L f h hl => by
      match L, hl with
      | 0, hl => obtain ⟨_, _, hl0⟩ := asI_inv (show _ from hl); obtain ⟨_, _, hl1⟩ := asI_inv (show _ from hl0); exact hl1
      | _ + 1, hl => exact hl)
    (fun n p L hm f h hl => by
      simp only [u8, List.mem_cons, Prod.mk.injEq, List.not_mem_nil, or_false] at hm
      rcases hm with ⟨rfl, rfl⟩
      · have hl : f8 (r8 c k (n + 1)) 0 f h := hl
        obtain ⟨n_0, e_0, hl0⟩ := asI_inv hl
        obtain ⟨n_1, e_1, hl1⟩ := asI_inv hl0
        have hh := e8_0 c k (r8 c k n) f h n_0 n_1
        rw [fset_self e_0] at hh
        rw [fset_self e_1] at hh
        exact Eq.mpr hh hl1
    ) (by simp [u8]) hg

theorem e14_0 (c : Caller Prop FT) (k : KV) (J : J14) (f : FT) (h : H) (v_0 : AV) (l_1 : Nat) (c_1 : Nat) (v_2 : AV) : chunkA env c q14 u14 (f14 J) d14 (retA env Go.Proofs.Tryz.f14.results.toList k) .root (fset (fset (fset f 0 v_0) 1 (.str l_1 c_1)) 2 v_2) h = s14_0 c k J v_0 l_1 c_1 v_2 h := by kernel_rfl
theorem w14 {c : Caller Prop FT} (hc : CallOk Go.Proofs.Tryz.prog (CP env) G (fun p => p) c) {k : KV} {n : Nat} {args : List AV} {h : H} (hg : f14 (r14 c k n) 0 (finit args) h) : SW Go.Proofs.Tryz.prog G (.func 14) args h k :=
  fn_ok mixed envOk hc q14 Go.Proofs.Tryz.func14 rfl (by kernel_rfl) (by kernel_rfl) k u14 (fun n => f14 (r14 c k n))
    (fun L f h hl => by
      match L, hl with
      | 0, hl => obtain ⟨_, _, _, hl0⟩ := asS_inv (show _ from hl); exact hl0
      | _ + 1, hl => exact hl)
    (fun n p L hm f h hl => by
      simp only [u14, List.mem_cons, Prod.mk.injEq, List.not_mem_nil, or_false] at hm
      rcases hm with ⟨rfl, rfl⟩
      · have hl : f14 (r14 c k (n + 1)) 0 f h := hl
        obtain ⟨l_1, c_1, e_1, hl1⟩ := asS_inv hl
        have hh := e14_0 c k (r14 c k n) f h (f 0) l_1 c_1 (f 2)
        rw [fset_self (rfl : f 0 = f 0)] at hh
        rw [fset_self e_1] at hh
        rw [fset_self (rfl : f 2 = f 2)] at hh
        exact Eq.mpr hh hl1
    ) (by simp [u14]) hg

theorem e20_0 (c : Caller Prop FT) (k : KV) (J : J20) (f : FT) (h : H) (v_0 : AV) (v_1 : AV) : chunkA env c q20 u20 (f20 J) d20 (retA env Go.Proofs.Tryz.f20.results.toList k) .root (fset (fset f 0 v_0) 1 v_1) h = s20_0 c k J v_0 v_1 h := by kernel_rfl
theorem e20_1 (c : Caller Prop FT) (k : KV) (J : J20) (f : FT) (h : H) (v_1 : AV) (v_7 : AV) (v_9 : AV) (n_10 : Int) : chunkA env c q20 u20 (f20 J) d20 (retA env Go.Proofs.Tryz.f20.results.toList k) (.l (.r (.l (.r (.r (.r (.r .root))))))) (fset (fset (fset (fset f 1 v_1) 7 v_7) 9 v_9) 10 (.int .i64 n_10)) h = s20_1 c k J v_1 v_7 v_9 n_10 h := by kernel_rfl
theorem w20 {c : Caller Prop FT} (hc : CallOk Go.Proofs.Tryz.prog (CP env) G (fun p => p) c) {k : KV} {n : Nat} {args : List AV} {h : H} (hg : f20 (r20 c k n) 0 (finit args) h) : SW Go.Proofs.Tryz.prog G (.func 20) args h k :=
  fn_ok mixed envOk hc q20 Go.Proofs.Tryz.func20 rfl (by kernel_rfl) (by kernel_rfl) k u20 (fun n => f20 (r20 c k n))
    (fun L f h hl => by
      match L, hl with
      | 0, hl => exact hl
      | 1, hl => obtain ⟨_, _, hl0⟩ := asI_inv (show _ from hl); exact hl0
      | _ + 2, hl => exact hl)
    (fun n p L hm f h hl => by
      simp only [u20, List.mem_cons, Prod.mk.injEq, List.not_mem_nil, or_false] at hm
      rcases hm with ⟨rfl, rfl⟩ | ⟨rfl, rfl⟩
      · have hl : f20 (r20 c k (n + 1)) 0 f h := hl
        have hh := e20_0 c k (r20 c k n) f h (f 0) (f 1)
        rw [fset_self (rfl : f 0 = f 0)] at hh
        rw [fset_self (rfl : f 1 = f 1)] at hh
        exact Eq.mpr hh hl
      · have hl : f20 (r20 c k (n + 1)) 1 f h := hl
        obtain ⟨n_10, e_10, hl3⟩ := asI_inv hl
        have hh := e20_1 c k (r20 c k n) f h (f 1) (f 7) (f 9) n_10
        rw [fset_self (rfl : f 1 = f 1)] at hh
        rw [fset_self (rfl : f 7 = f 7)] at hh
        rw [fset_self (rfl : f 9 = f 9)] at hh
        rw [fset_self e_10] at hh
        exact Eq.mpr hh hl3
    ) (by simp [u20]) hg

theorem e23_0 (c : Caller Prop FT) (k : KV) (J : J23) (f : FT) (h : H) (v_0 : AV) : chunkA env c q23 u23 (f23 J) d23 (retA env Go.Proofs.Tryz.f23.results.toList k) .root (fset f 0 v_0) h = s23_0 c k J v_0 h := by kernel_rfl
theorem w23 {c : Caller Prop FT} (hc : CallOk Go.Proofs.Tryz.prog (CP env) G (fun p => p) c) {k : KV} {n : Nat} {args : List AV} {h : H} (hg : f23 (r23 c k n) 0 (finit args) h) : SW Go.Proofs.Tryz.prog G (.func 23) args h k :=
  fn_ok mixed envOk hc q23 Go.Proofs.Tryz.func23 rfl (by kernel_rfl) (by kernel_rfl) k u23 (fun n => f23 (r23 c k n))
    (fun L f h hl => by
      match L, hl with
      | 0, hl => exact hl
      | _ + 1, hl => exact hl)
    (fun n p L hm f h hl => by
      simp only [u23, List.mem_cons, Prod.mk.injEq, List.not_mem_nil, or_false] at hm
      rcases hm with ⟨rfl, rfl⟩
      · have hl : f23 (r23 c k (n + 1)) 0 f h := hl
        have hh := e23_0 c k (r23 c k n) f h (f 0)
        rw [fset_self (rfl : f 0 = f 0)] at hh
        exact Eq.mpr hh hl
    ) (by simp [u23]) hg

theorem e28_0 (c : Caller Prop FT) (k : KV) (J : J28) (f : FT) (h : H) (v_0 : AV) (v_1 : AV) (v_2 : AV) (v_3 : AV) : chunkA env c q28 u28 (f28 J) d28 (retA env Go.Proofs.Tryz.f28.results.toList k) .root (fset (fset (fset (fset f 0 v_0) 1 v_1) 2 v_2) 3 v_3) h = s28_0 c k J v_0 v_1 v_2 v_3 h := by kernel_rfl
theorem e28_1 (c : Caller Prop FT) (k : KV) (J : J28) (f : FT) (h : H) (v_8 : AV) (v_9 : AV) (v_42 : AV) (n_43 : Int) (n_44 : Int) : chunkA env c q28 u28 (f28 J) d28 (retA env Go.Proofs.Tryz.f28.results.toList k) (.l (.r (.l (.r (.r (.r .root)))))) (fset (fset (fset (fset (fset f 8 v_8) 9 v_9) 42 v_42) 43 (.int .i64 n_43)) 44 (.int .i64 n_44)) h = s28_1 c k J v_8 v_9 v_42 n_43 n_44 h := by kernel_rfl
theorem w28 {c : Caller Prop FT} (hc : CallOk Go.Proofs.Tryz.prog (CP env) G (fun p => p) c) {k : KV} {n : Nat} {args : List AV} {h : H} (hg : f28 (r28 c k n) 0 (finit args) h) : SW Go.Proofs.Tryz.prog G (.func 28) args h k :=
  fn_ok mixed envOk hc q28 Go.Proofs.Tryz.func28 rfl (by kernel_rfl) (by kernel_rfl) k u28 (fun n => f28 (r28 c k n))
    (fun L f h hl => by
      match L, hl with
      | 0, hl => exact hl
      | 1, hl => obtain ⟨_, _, hl0⟩ := asI_inv (show _ from hl); obtain ⟨_, _, hl1⟩ := asI_inv (show _ from hl0); exact hl1
      | _ + 2, hl => exact hl)
    (fun n p L hm f h hl => by
      simp only [u28, List.mem_cons, Prod.mk.injEq, List.not_mem_nil, or_false] at hm
      rcases hm with ⟨rfl, rfl⟩ | ⟨rfl, rfl⟩
      · have hl : f28 (r28 c k (n + 1)) 0 f h := hl
        have hh := e28_0 c k (r28 c k n) f h (f 0) (f 1) (f 2) (f 3)
        rw [fset_self (rfl : f 0 = f 0)] at hh
        rw [fset_self (rfl : f 1 = f 1)] at hh
        rw [fset_self (rfl : f 2 = f 2)] at hh
        rw [fset_self (rfl : f 3 = f 3)] at hh
        exact Eq.mpr hh hl
      · have hl : f28 (r28 c k (n + 1)) 1 f h := hl
        obtain ⟨n_43, e_43, hl3⟩ := asI_inv hl
        obtain ⟨n_44, e_44, hl4⟩ := asI_inv hl3
        have hh := e28_1 c k (r28 c k n) f h (f 8) (f 9) (f 42) n_43 n_44
        rw [fset_self (rfl : f 8 = f 8)] at hh
        rw [fset_self (rfl : f 9 = f 9)] at hh
        rw [fset_self (rfl : f 42 = f 42)] at hh
        rw [fset_self e_43] at hh
        rw [fset_self e_44] at hh
        exact Eq.mpr hh hl4
    ) (by simp [u28]) hg

theorem e32_0 (c : Caller Prop FT) (k : KV) (J : J32) (f : FT) (h : H) (l_0 : Nat) (c_0 : Nat) : chunkA env c q32 u32 (f32 J) d32 (retA env Go.Proofs.Tryz.f32.results.toList k) .root (fset f 0 (.str l_0 c_0)) h = s32_0 c k J l_0 c_0 h := by kernel_rfl
theorem w32 {c : Caller Prop FT} (hc : CallOk Go.Proofs.Tryz.prog (CP env) G (fun p => p) c) {k : KV} {n : Nat} {args : List AV} {h : H} (hg : f32 (r32 c k n) 0 (finit args) h) : SW Go.Proofs.Tryz.prog G (.func 32) args h k :=
  fn_ok mixed envOk hc q32 Go.Proofs.Tryz.func32 rfl (by kernel_rfl) (by kernel_rfl) k u32 (fun n => f32 (r32 c k n))
    (fun L f h hl => by
      match L, hl with
      | 0, hl => obtain ⟨_, _, _, hl0⟩ := asS_inv (show _ from hl); exact hl0
      | _ + 1, hl => exact hl)
    (fun n p L hm f h hl => by
      simp only [u32, List.mem_cons, Prod.mk.injEq, List.not_mem_nil, or_false] at hm
      rcases hm with ⟨rfl, rfl⟩
      · have hl : f32 (r32 c k (n + 1)) 0 f h := hl
        obtain ⟨l_0, c_0, e_0, hl0⟩ := asS_inv hl
        have hh := e32_0 c k (r32 c k n) f h l_0 c_0
        rw [fset_self e_0] at hh
        exact Eq.mpr hh hl0
    ) (by simp [u32]) hg

theorem e33_0 (c : Caller Prop FT) (k : KV) (J : J33) (f : FT) (h : H) (v_0 : AV) (v_1 : AV) : chunkA env c q33 u33 (f33 J) d33 (retA env Go.Proofs.Tryz.f33.results.toList k) .root (fset (fset f 0 v_0) 1 v_1) h = s33_0 c k J v_0 v_1 h := by kernel_rfl
theorem w33 {c : Caller Prop FT} (hc : CallOk Go.Proofs.Tryz.prog (CP env) G (fun p => p) c) {k : KV} {n : Nat} {args : List AV} {h : H} (hg : f33 (r33 c k n) 0 (finit args) h) : SW Go.Proofs.Tryz.prog G (.func 33) args h k :=
  fn_ok mixed envOk hc q33 Go.Proofs.Tryz.func33 rfl (by kernel_rfl) (by kernel_rfl) k u33 (fun n => f33 (r33 c k n))
    (fun L f h hl => by
      match L, hl with
      | 0, hl => exact hl
      | _ + 1, hl => exact hl)
    (fun n p L hm f h hl => by
      simp only [u33, List.mem_cons, Prod.mk.injEq, List.not_mem_nil, or_false] at hm
      rcases hm with ⟨rfl, rfl⟩
      · have hl : f33 (r33 c k (n + 1)) 0 f h := hl
        have hh := e33_0 c k (r33 c k n) f h (f 0) (f 1)
        rw [fset_self (rfl : f 0 = f 0)] at hh
        rw [fset_self (rfl : f 1 = f 1)] at hh
        exact Eq.mpr hh hl
    ) (by simp [u33]) hg

theorem e39_0 (c : Caller Prop FT) (k : KV) (J : J39) (f : FT) (h : H) (v_0 : AV) (l_1 : Nat) (c_1 : Nat) (l_2 : Nat) (c_2 : Nat) : chunkA env c q39 u39 (f39 J) d39 (retA env Go.Proofs.Tryz.f39.results.toList k) .root (fset (fset (fset f 0 v_0) 1 (.str l_1 c_1)) 2 (.str l_2 c_2)) h = s39_0 c k J v_0 l_1 c_1 l_2 c_2 h := by kernel_rfl
theorem e39_1 (c : Caller Prop FT) (k : KV) (J : J39) (f : FT) (h : H) (v_0 : AV) (l_1 : Nat) (c_1 : Nat) (l_2 : Nat) (c_2 : Nat) (n_6 : Int) (v_8 : AV) : chunkA env c q39 u39 (f39 J) d39 (retA env Go.Proofs.Tryz.f39.results.toList k) (.r (.r (.r .root))) (fset (fset (fset (fset (fset f 0 v_0) 1 (.str l_1 c_1)) 2 (.str l_2 c_2)) 6 (.int .i64 n_6)) 8 v_8) h = s39_1 c k J v_0 l_1 c_1 l_2 c_2 n_6 v_8 h := by kernel_rfl
theorem w39 {c : Caller Prop FT} (hc : CallOk Go.Proofs.Tryz.prog (CP env) G (fun p => p) c) {k : KV} {n : Nat} {args : List AV} {h : H} (hg : f39 (r39 c k n) 0 (finit args) h) : SW Go.Proofs.Tryz.prog G (.func 39) args h k :=
  fn_ok mixed envOk hc q39 Go.Proofs.Tryz.func39 rfl (by kernel_rfl) (by kernel_rfl) k u39 (fun n => f39 (r39 c k n))
    (fun L f h hl => by
      match L, hl with
      | 0, hl => obtain ⟨_, _, _, hl0⟩ := asS_inv (show _ from hl); obtain ⟨_, _, _, hl1⟩ := asS_inv (show _ from hl0); exact hl1
      | 1, hl => obtain ⟨_, _, _, hl0⟩ := asS_inv (show _ from hl); obtain ⟨_, _, _, hl1⟩ := asS_inv (show _ from hl0); obtain ⟨_, _, hl2⟩ := asI_inv (show _ from hl1); exact hl2
      | _ + 2, hl => exact hl)
    (fun n p L hm f h hl => by
      simp only [u39, List.mem_cons, Prod.mk.injEq, List.not_mem_nil, or_false] at hm
      rcases hm with ⟨rfl, rfl⟩ | ⟨rfl, rfl⟩
      · have hl : f39 (r39 c k (n + 1)) 0 f h := hl
        obtain ⟨l_1, c_1, e_1, hl1⟩ := asS_inv hl
        obtain ⟨l_2, c_2, e_2, hl2⟩ := asS_inv hl1
        have hh := e39_0 c k (r39 c k n) f h (f 0) l_1 c_1 l_2 c_2
        rw [fset_self (rfl : f 0 = f 0)] at hh
        rw [fset_self e_1] at hh
        rw [fset_self e_2] at hh
        exact Eq.mpr hh hl2
      · have hl : f39 (r39 c k (n + 1)) 1 f h := hl
        obtain ⟨l_1, c_1, e_1, hl1⟩ := asS_inv hl
        obtain ⟨l_2, c_2, e_2, hl2⟩ := asS_inv hl1
        obtain ⟨n_6, e_6, hl3⟩ := asI_inv hl2
        have hh := e39_1 c k (r39 c k n) f h (f 0) l_1 c_1 l_2 c_2 n_6 (f 8)
        rw [fset_self (rfl : f 0 = f 0)] at hh
        rw [fset_self e_1] at hh
        rw [fset_self e_2] at hh
        rw [fset_self e_6] at hh
        rw [fset_self (rfl : f 8 = f 8)] at hh
        exact Eq.mpr hh hl3
    ) (by simp [u39]) hg

theorem e40_0 (c : Caller Prop FT) (k : KV) (J : J40) (f : FT) (h : H) (v_0 : AV) (l_1 : Nat) (c_1 : Nat) : chunkA env c q40 u40 (f40 J) d40 (retA env Go.Proofs.Tryz.f40.results.toList k) .root (fset (fset f 0 v_0) 1 (.str l_1 c_1)) h = s40_0 c k J v_0 l_1 c_1 h := by kernel_rfl
theorem w40 {c : Caller Prop FT} (hc : CallOk Go.Proofs.Tryz.prog (CP env) G (fun p => p) c) {k : KV} {n : Nat} {args : List AV} {h : H} (hg : f40 (r40 c k n) 0 (finit args) h) : SW Go.Proofs.Tryz.prog G (.func 40) args h k :=
  fn_ok mixed envOk hc q40 Go.Proofs.Tryz.func40 rfl (by kernel_rfl) (by kernel_rfl) k u40 (fun n => f40 (r40 c k n))
    (fun L f h hl => by
      match L, hl with
      | 0, hl => obtain ⟨_, _, _, hl0⟩ := asS_inv (show _ from hl); exact hl0
      | _ + 1, hl => exact hl)
    (fun n p L hm f h hl => by
      simp only [u40, List.mem_cons, Prod.mk.injEq, List.not_mem_nil, or_false] at hm
      rcases hm with ⟨rfl, rfl⟩
      · have hl : f40 (r40 c k (n + 1)) 0 f h := hl
        obtain ⟨l_1, c_1, e_1, hl1⟩ := asS_inv hl
        have hh := e40_0 c k (r40 c k n) f h (f 0) l_1 c_1
        rw [fset_self (rfl : f 0 = f 0)] at hh
        rw [fset_self e_1] at hh
        exact Eq.mpr hh hl1
    ) (by simp [u40]) hg

theorem e42_0 (c : Caller Prop FT) (k : KV) (J : J42) (f : FT) (h : H) (n_0 : Int) : chunkA env c q42 u42 (f42 J) d42 (retA env Go.Proofs.Tryz.f42.results.toList k) .root (fset f 0 (.int .i64 n_0)) h = s42_0 c k J n_0 h := by kernel_rfl
theorem w42 {c : Caller Prop FT} (hc : CallOk Go.Proofs.Tryz.prog (CP env) G (fun p => p) c) {k : KV} {n : Nat} {args : List AV} {h : H} (hg : f42 (r42 c k n) 0 (finit args) h) : SW Go.Proofs.Tryz.prog G (.func 42) args h k :=
  fn_ok mixed envOk hc q42 Go.Proofs.Tryz.func42 rfl (by kernel_rfl) (by kernel_rfl) k u42 (fun n => f42 (r42 c k n))
    (fun L f h hl => by
      match L, hl with
      | 0, hl => obtain ⟨_, _, hl0⟩ := asI_inv (show _ from hl); exact hl0
      | _ + 1, hl => exact hl)
    (fun n p L hm f h hl => by
      simp only [u42, List.mem_cons, Prod.mk.injEq, List.not_mem_nil, or_false] at hm
      rcases hm with ⟨rfl, rfl⟩
      · have hl : f42 (r42 c k (n + 1)) 0 f h := hl
        obtain ⟨n_0, e_0, hl0⟩ := asI_inv hl
        have hh := e42_0 c k (r42 c k n) f h n_0
        rw [fset_self e_0] at hh
        exact Eq.mpr hh hl0
    ) (by simp [u42]) hg

theorem e43_0 (c : Caller Prop FT) (k : KV) (J : J43) (f : FT) (h : H) (v_0 : AV) (l_1 : Nat) (c_1 : Nat) : chunkA env c q43 u43 (f43 J) d43 (retA env Go.Proofs.Tryz.f43.results.toList k) .root (fset (fset f 0 v_0) 1 (.str l_1 c_1)) h = s43_0 c k J v_0 l_1 c_1 h := by kernel_rfl
theorem e43_1 (c : Caller Prop FT) (k : KV) (J : J43) (f : FT) (h : H) (v_0 : AV) (v_69 : AV) (n_70 : Int) (n_71 : Int) : chunkA env c q43 u43 (f43 J) d43 (retA env Go.Proofs.Tryz.f43.results.toList k) (.l (.r (.l (.r (.r (.r (.r (.r (.r (.r .root)))))))))) (fset (fset (fset (fset f 0 v_0) 69 v_69) 70 (.int .i64 n_70)) 71 (.int .i64 n_71)) h = s43_1 c k J v_0 v_69 n_70 n_71 h := by kernel_rfl
theorem e43_2 (c : Caller Prop FT) (k : KV) (J : J43) (f : FT) (h : H) (v_0 : AV) (v_7 : AV) : chunkA env c q43 u43 (f43 J) d43 (retA env Go.Proofs.Tryz.f43.results.toList k) (.r (.r (.r (.r (.r (.r (.r .root))))))) (fset (fset f 0 v_0) 7 v_7) h = s43_2 c k J v_0 v_7 h := by kernel_rfl
theorem w43 {c : Caller Prop FT} (hc : CallOk Go.Proofs.Tryz.prog (CP env) G (fun p => p) c) {k : KV} {n : Nat} {args : List AV} {h : H} (hg : f43 (r43 c k n) 0 (finit args) h) : SW Go.Proofs.Tryz.prog G (.func 43) args h k :=
  fn_ok mixed envOk hc q43 Go.Proofs.Tryz.func43 rfl (by kernel_rfl) (by kernel_rfl) k u43 (fun n => f43 (r43 c k n))
    (fun L f h hl => by
      match L, hl with
      | 0, hl => obtain ⟨_, _, _, hl0⟩ := asS_inv (show _ from hl); exact hl0
      | 1, hl => obtain ⟨_, _, hl0⟩ := asI_inv (show _ from hl); obtain ⟨_, _, hl1⟩ := asI_inv (show _ from hl0); exact hl1
      | 2, hl => exact hl
      | _ + 3, hl => exact hl)
    (fun n p L hm f h hl => by
      simp only [u43, List.mem_cons, Prod.mk.injEq, List.not_mem_nil, or_false] at hm
      rcases hm with ⟨rfl, rfl⟩ | ⟨rfl, rfl⟩ | ⟨rfl, rfl⟩
      · have hl : f43 (r43 c k (n + 1)) 0 f h := hl
        obtain ⟨l_1, c_1, e_1, hl1⟩ := asS_inv hl
        have hh := e43_0 c k (r43 c k n) f h (f 0) l_1 c_1
        rw [fset_self (rfl : f 0 = f 0)] at hh
        rw [fset_self e_1] at hh
        exact Eq.mpr hh hl1
      · have hl : f43 (r43 c k (n + 1)) 1 f h := hl
        obtain ⟨n_70, e_70, hl2⟩ := asI_inv hl
        obtain ⟨n_71, e_71, hl3⟩ := asI_inv hl2
        have hh := e43_1 c k (r43 c k n) f h (f 0) (f 69) n_70 n_71
        rw [fset_self (rfl : f 0 = f 0)] at hh
        rw [fset_self (rfl : f 69 = f 69)] at hh
        rw [fset_self e_70] at hh
        rw [fset_self e_71] at hh
        exact Eq.mpr hh hl3
      · have hl : f43 (r43 c k (n + 1)) 2 f h := hl
        have hh := e43_2 c k (r43 c k n) f h (f 0) (f 7)
        rw [fset_self (rfl : f 0 = f 0)] at hh
        rw [fset_self (rfl : f 7 = f 7)] at hh
        exact Eq.mpr hh hl
    ) (by simp [u43]) hg

theorem e45_0 (c : Caller Prop FT) (k : KV) (J : J45) (f : FT) (h : H) (v_0 : AV) : chunkA env c q45 u45 (f45 J) d45 (retA env Go.Proofs.Tryz.f45.results.toList k) .root (fset f 0 v_0) h = s45_0 c k J v_0 h := by kernel_rfl
theorem w45 {c : Caller Prop FT} (hc : CallOk Go.Proofs.Tryz.prog (CP env) G (fun p => p) c) {k : KV} {n : Nat} {args : List AV} {h : H} (hg : f45 (r45 c k n) 0 (finit args) h) : SW Go.Proofs.Tryz.prog G (.func 45) args h k :=
  fn_ok mixed envOk hc q45 Go.Proofs.Tryz.func45 rfl (by kernel_rfl) (by kernel_rfl) k u45 (fun n => f45 (r45 c k n))
    (fun L f h hl => by
      match L, hl with
      | 0, hl => exact hl
      | _ + 1, hl => exact hl)
    (fun n p L hm f h hl => by
      simp only [u45, List.mem_cons, Prod.mk.injEq, List.not_mem_nil, or_false] at hm
      rcases hm with ⟨rfl, rfl⟩
      · have hl : f45 (r45 c k (n + 1)) 0 f h := hl
        have hh := e45_0 c k (r45 c k n) f h (f 0)
        rw [fset_self (rfl : f 0 = f 0)] at hh
        exact Eq.mpr hh hl
    ) (by simp [u45]) hg

theorem e49_0 (c : Caller Prop FT) (k : KV) (J : J49) (f : FT) (h : H) (v_0 : AV) : chunkA env c q49 u49 (f49 J) d49 (retA env Go.Proofs.Tryz.f49.results.toList k) .root (fset f 0 v_0) h = s49_0 c k J v_0 h := by kernel_rfl
theorem e49_1 (c : Caller Prop FT) (k : KV) (J : J49) (f : FT) (h : H) (v_0 : AV) : chunkA env c q49 u49 (f49 J) d49 (retA env Go.Proofs.Tryz.f49.results.toList k) (.l (.l (.r .root))) (fset f 0 v_0) h = s49_1 c k J v_0 h := by kernel_rfl
theorem w49 {c : Caller Prop FT} (hc : CallOk Go.Proofs.Tryz.prog (CP env) G (fun p => p) c) {k : KV} {n : Nat} {args : List AV} {h : H} (hg : f49 (r49 c k n) 0 (finit args) h) : SW Go.Proofs.Tryz.prog G (.func 49) args h k :=
  fn_ok mixed envOk hc q49 Go.Proofs.Tryz.func49 rfl (by kernel_rfl) (by kernel_rfl) k u49 (fun n => f49 (r49 c k n))
    (fun L f h hl => by
      match L, hl with
      | 0, hl => exact hl
      | 1, hl => exact hl
      | _ + 2, hl => exact hl)
    (fun n p L hm f h hl => by
      simp only [u49, List.mem_cons, Prod.mk.injEq, List.not_mem_nil, or_false] at hm
      rcases hm with ⟨rfl, rfl⟩ | ⟨rfl, rfl⟩
      · have hl : f49 (r49 c k (n + 1)) 0 f h := hl
        have hh := e49_0 c k (r49 c k n) f h (f 0)
        rw [fset_self (rfl : f 0 = f 0)] at hh
        exact Eq.mpr hh hl
      · have hl : f49 (r49 c k (n + 1)) 1 f h := hl
        have hh := e49_1 c k (r49 c k n) f h (f 0)
        rw [fset_self (rfl : f 0 = f 0)] at hh
        exact Eq.mpr hh hl
    ) (by simp [u49]) hg

theorem e50_0 (c : Caller Prop FT) (k : KV) (J : J50) (f : FT) (h : H) (v_0 : AV) : chunkA env c q50 u50 (f50 J) d50 (retA env Go.Proofs.Tryz.f50.results.toList k) .root (fset f 0 v_0) h = s50_0 c k J v_0 h := by kernel_rfl
theorem w50 {c : Caller Prop FT} (hc : CallOk Go.Proofs.Tryz.prog (CP env) G (fun p => p) c) {k : KV} {n : Nat} {args : List AV} {h : H} (hg : f50 (r50 c k n) 0 (finit args) h) : SW Go.Proofs.Tryz.prog G (.func 50) args h k :=
  fn_ok mixed envOk hc q50 Go.Proofs.Tryz.func50 rfl (by kernel_rfl) (by kernel_rfl) k u50 (fun n => f50 (r50 c k n))
    (fun L f h hl => by
      match L, hl with
      | 0, hl => exact hl
      | _ + 1, hl => exact hl)
    (fun n p L hm f h hl => by
      simp only [u50, List.mem_cons, Prod.mk.injEq, List.not_mem_nil, or_false] at hm
      rcases hm with ⟨rfl, rfl⟩
      · have hl : f50 (r50 c k (n + 1)) 0 f h := hl
        have hh := e50_0 c k (r50 c k n) f h (f 0)
        rw [fset_self (rfl : f 0 = f 0)] at hh
        exact Eq.mpr hh hl
    ) (by simp [u50]) hg

theorem e53_0 (c : Caller Prop FT) (k : KV) (J : J53) (f : FT) (h : H) (l_0 : Nat) (c_0 : Nat) (l_1 : Nat) (c_1 : Nat) : chunkA env c q53 u53 (f53 J) d53 (retA env Go.Proofs.Tryz.f53.results.toList k) .root (fset (fset f 0 (.str l_0 c_0)) 1 (.str l_1 c_1)) h = s53_0 c k J l_0 c_0 l_1 c_1 h := by kernel_rfl
theorem w53 {c : Caller Prop FT} (hc : CallOk Go.Proofs.Tryz.prog (CP env) G (fun p => p) c) {k : KV} {n : Nat} {args : List AV} {h : H} (hg : f53 (r53 c k n) 0 (finit args) h) : SW Go.Proofs.Tryz.prog G (.func 53) args h k :=
  fn_ok mixed envOk hc q53 Go.Proofs.Tryz.func53 rfl (by kernel_rfl) (by kernel_rfl) k u53 (fun n => f53 (r53 c k n))
    (fun L f h hl => by
      match L, hl with
      | 0, hl => obtain ⟨_, _, _, hl0⟩ := asS_inv (show _ from hl); obtain ⟨_, _, _, hl1⟩ := asS_inv (show _ from hl0); exact hl1
      | _ + 1, hl => exact hl)
    (fun n p L hm f h hl => by
      simp only [u53, List.mem_cons, Prod.mk.injEq, List.not_mem_nil, or_false] at hm
      rcases hm with ⟨rfl, rfl⟩
      · have hl : f53 (r53 c k (n + 1)) 0 f h := hl
        obtain ⟨l_0, c_0, e_0, hl0⟩ := asS_inv hl
        obtain ⟨l_1, c_1, e_1, hl1⟩ := asS_inv hl0
        have hh := e53_0 c k (r53 c k n) f h l_0 c_0 l_1 c_1
        rw [fset_self e_0] at hh
        rw [fset_self e_1] at hh
        exact Eq.mpr hh hl1
    ) (by simp [u53]) hg

theorem e54_0 (c : Caller Prop FT) (k : KV) (J : J54) (f : FT) (h : H) (l_0 : Nat) (c_0 : Nat) : chunkA env c q54 u54 (f54 J) d54 (retA env Go.Proofs.Tryz.f54.results.toList k) .root (fset f 0 (.str l_0 c_0)) h = s54_0 c k J l_0 c_0 h := by kernel_rfl
theorem e54_1 (c : Caller Prop FT) (k : KV) (J : J54) (f : FT) (h : H) (l_0 : Nat) (c_0 : Nat) (b_3 : Bool) (n_4 : Int) : chunkA env c q54 u54 (f54 J) d54 (retA env Go.Proofs.Tryz.f54.results.toList k) (.l (.r (.l (.r (.r .root))))) (fset (fset (fset f 0 (.str l_0 c_0)) 3 (.bool b_3)) 4 (.int .i64 n_4)) h = s54_1 c k J l_0 c_0 b_3 n_4 h := by kernel_rfl
theorem w54 {c : Caller Prop FT} (hc : CallOk Go.Proofs.Tryz.prog (CP env) G (fun p => p) c) {k : KV} {n : Nat} {args : List AV} {h : H} (hg : f54 (r54 c k n) 0 (finit args) h) : SW Go.Proofs.Tryz.prog G (.func 54) args h k :=
  fn_ok mixed envOk hc q54 Go.Proofs.Tryz.func54 rfl (by kernel_rfl) (by kernel_rfl) k u54 (fun n => f54 (r54 c k n))
    (fun L f h hl => by
      match L, hl with
      | 0, hl => obtain ⟨_, _, _, hl0⟩ := asS_inv (show _ from hl); exact hl0
      | 1, hl => obtain ⟨_, _, _, hl0⟩ := asS_inv (show _ from hl); obtain ⟨_, _, hl1⟩ := asB_inv (show _ from hl0); obtain ⟨_, _, hl2⟩ := asI_inv (show _ from hl1); exact hl2
      | _ + 2, hl => exact hl)
    (fun n p L hm f h hl => by
      simp only [u54, List.mem_cons, Prod.mk.injEq, List.not_mem_nil, or_false] at hm
      rcases hm with ⟨rfl, rfl⟩ | ⟨rfl, rfl⟩
      · have hl : f54 (r54 c k (n + 1)) 0 f h := hl
        obtain ⟨l_0, c_0, e_0, hl0⟩ := asS_inv hl
        have hh := e54_0 c k (r54 c k n) f h l_0 c_0
        rw [fset_self e_0] at hh
        exact Eq.mpr hh hl0
      · have hl : f54 (r54 c k (n + 1)) 1 f h := hl
        obtain ⟨l_0, c_0, e_0, hl0⟩ := asS_inv hl
        obtain ⟨b_3, e_3, hl1⟩ := asB_inv hl0
        obtain ⟨n_4, e_4, hl2⟩ := asI_inv hl1
        have hh := e54_1 c k (r54 c k n) f h l_0 c_0 b_3 n_4
        rw [fset_self e_0] at hh
        rw [fset_self e_3] at hh
        rw [fset_self e_4] at hh
        exact Eq.mpr hh hl2
    ) (by simp [u54]) hg

theorem e57_0 (c : Caller Prop FT) (k : KV) (J : J57) (f : FT) (h : H) (l_0 : Nat) (c_0 : Nat) : chunkA env c q57 u57 (f57 J) d57 (retA env Go.Proofs.Tryz.f57.results.toList k) .root (fset f 0 (.str l_0 c_0)) h = s57_0 c k J l_0 c_0 h := by kernel_rfl
theorem w57 {c : Caller Prop FT} (hc : CallOk Go.Proofs.Tryz.prog (CP env) G (fun p => p) c) {k : KV} {n : Nat} {args : List AV} {h : H} (hg : f57 (r57 c k n) 0 (finit args) h) : SW Go.Proofs.Tryz.prog G (.func 57) args h k :=
  fn_ok mixed envOk hc q57 Go.Proofs.Tryz.func57 rfl (by kernel_rfl) (by kernel_rfl) k u57 (fun n => f57 (r57 c k n))
    (fun L f h hl => by
      match L, hl with
      | 0, hl => obtain ⟨_, _, _, hl0⟩ := asS_inv (show _ from hl); exact hl0
      | _ + 1, hl => exact hl)
    (fun n p L hm f h hl => by
      simp only [u57, List.mem_cons, Prod.mk.injEq, List.not_mem_nil, or_false] at hm
      rcases hm with ⟨rfl, rfl⟩
      · have hl : f57 (r57 c k (n + 1)) 0 f h := hl
        obtain ⟨l_0, c_0, e_0, hl0⟩ := asS_inv hl
        have hh := e57_0 c k (r57 c k n) f h l_0 c_0
        rw [fset_self e_0] at hh
        exact Eq.mpr hh hl0
    ) (by simp [u57]) hg

theorem e61_0 (c : Caller Prop FT) (k : KV) (J : J61) (f : FT) (h : H) (v_0 : AV) (l_1 : Nat) (c_1 : Nat) : chunkA env c q61 u61 (f61 J) d61 (retA env Go.Proofs.Tryz.f61.results.toList k) .root (fset (fset f 0 v_0) 1 (.str l_1 c_1)) h = s61_0 c k J v_0 l_1 c_1 h := by kernel_rfl
theorem e61_1 (c : Caller Prop FT) (k : KV) (J : J61) (f : FT) (h : H) (v_0 : AV) (l_1 : Nat) (c_1 : Nat) (n_4 : Int) : chunkA env c q61 u61 (f61 J) d61 (retA env Go.Proofs.Tryz.f61.results.toList k) (.l (.r (.l .root))) (fset (fset (fset f 0 v_0) 1 (.str l_1 c_1)) 4 (.int .i64 n_4)) h = s61_1 c k J v_0 l_1 c_1 n_4 h := by kernel_rfl
theorem w61 {c : Caller Prop FT} (hc : CallOk Go.Proofs.Tryz.prog (CP env) G (fun p => p) c) {k : KV} {n : Nat} {args : List AV} {h : H} (hg : f61 (r61 c k n) 0 (finit args) h) : SW Go.Proofs.Tryz.prog G (.func 61) args h k :=
  fn_ok mixed envOk hc q61 Go.Proofs.Tryz.func61 rfl (by kernel_rfl) (by kernel_rfl) k u61 (fun n => f61 (r61 c k n))
    (fun L f h hl => by
      match L, hl with
      | 0, hl => obtain ⟨_, _, _, hl0⟩ := asS_inv (show _ from hl); exact hl0
      | 1, hl => obtain ⟨_, _, _, hl0⟩ := asS_inv (show _ from hl); obtain ⟨_, _, hl1⟩ := asI_inv (show _ from hl0); exact hl1
      | _ + 2, hl => exact hl)
    (fun n p L hm f h hl => by
      simp only [u61, List.mem_cons, Prod.mk.injEq, List.not_mem_nil, or_false] at hm
      rcases hm with ⟨rfl, rfl⟩ | ⟨rfl, rfl⟩
      · have hl : f61 (r61 c k (n + 1)) 0 f h := hl
        obtain ⟨l_1, c_1, e_1, hl1⟩ := asS_inv hl
        have hh := e61_0 c k (r61 c k n) f h (f 0) l_1 c_1
        rw [fset_self (rfl : f 0 = f 0)] at hh
        rw [fset_self e_1] at hh
        exact Eq.mpr hh hl1
      · have hl : f61 (r61 c k (n + 1)) 1 f h := hl
        obtain ⟨l_1, c_1, e_1, hl1⟩ := asS_inv hl
        obtain ⟨n_4, e_4, hl2⟩ := asI_inv hl1
        have hh := e61_1 c k (r61 c k n) f h (f 0) l_1 c_1 n_4
        rw [fset_self (rfl : f 0 = f 0)] at hh
        rw [fset_self e_1] at hh
        rw [fset_self e_4] at hh
        exact Eq.mpr hh hl2
    ) (by simp [u61]) hg

theorem e63_0 (c : Caller Prop FT) (k : KV) (J : J63) (f : FT) (h : H) (v_0 : AV) (v_1 : AV) : chunkA env c q63 u63 (f63 J) d63 (retA env Go.Proofs.Tryz.f63.results.toList k) .root (fset (fset f 0 v_0) 1 v_1) h = s63_0 c k J v_0 v_1 h := by kernel_rfl
theorem e63_1 (c : Caller Prop FT) (k : KV) (J : J63) (f : FT) (h : H) (v_0 : AV) (v_1 : AV) (v_4 : AV) (n_5 : Int) : chunkA env c q63 u63 (f63 J) d63 (retA env Go.Proofs.Tryz.f63.results.toList k) (.l (.r (.r .root))) (fset (fset (fset (fset f 0 v_0) 1 v_1) 4 v_4) 5 (.int .i64 n_5)) h = s63_1 c k J v_0 v_1 v_4 n_5 h := by kernel_rfl
theorem e63_2 (c : Caller Prop FT) (k : KV) (J : J63) (f : FT) (h : H) (v_0 : AV) (v_1 : AV) (v_4 : AV) (n_5 : Int) (v_7 : AV) (n_8 : Int) : chunkA env c q63 u63 (f63 J) d63 (retA env Go.Proofs.Tryz.f63.results.toList k) (.l (.l (.r (.r (.r (.r (.l (.r (.l (.l (.r (.r .root)))))))))))) (fset (fset (fset (fset (fset (fset f 0 v_0) 1 v_1) 4 v_4) 5 (.int .i64 n_5)) 7 v_7) 8 (.int .i64 n_8)) h = s63_2 c k J v_0 v_1 v_4 n_5 v_7 n_8 h := by kernel_rfl
theorem e63_3 (c : Caller Prop FT) (k : KV) (J : J63) (f : FT) (h : H) (v_0 : AV) (v_1 : AV) (v_4 : AV) (n_5 : Int) (v_7 : AV) (n_8 : Int) : chunkA env c q63 u63 (f63 J) d63 (retA env Go.Proofs.Tryz.f63.results.toList k) (.r (.r (.l (.l (.l (.r (.r (.r (.r (.l (.r (.l (.l (.r (.r .root))))))))))))))) (fset (fset (fset (fset (fset (fset f 0 v_0) 1 v_1) 4 v_4) 5 (.int .i64 n_5)) 7 v_7) 8 (.int .i64 n_8)) h = s63_3 c k J v_0 v_1 v_4 n_5 v_7 n_8 h := by kernel_rfl
theorem w63 {c : Caller Prop FT} (hc : CallOk Go.Proofs.Tryz.prog (CP env) G (fun p => p) c) {k : KV} {n : Nat} {args : List AV} {h : H} (hg : f63 (r63 c k n) 0 (finit args) h) : SW Go.Proofs.Tryz.prog G (.func 63) args h k :=
  fn_ok mixed envOk hc q63 Go.Proofs.Tryz.func63 rfl (by kernel_rfl) (by kernel_rfl) k u63 (fun n => f63 (r63 c k n))
    (fun L f h hl => by
      match L, hl with
      | 0, hl => exact hl
      | 1, hl => obtain ⟨_, _, hl0⟩ := asI_inv (show _ from hl); exact hl0
      | 2, hl => obtain ⟨_, _, hl0⟩ := asI_inv (show _ from hl); obtain ⟨_, _, hl1⟩ := asI_inv (show _ from hl0); exact hl1
      | 3, hl => obtain ⟨_, _, hl0⟩ := asI_inv (show _ from hl); obtain ⟨_, _, hl1⟩ := asI_inv (show _ from hl0); exact hl1
      | _ + 4, hl => exact hl)
    (fun n p L hm f h hl => by
      simp only [u63, List.mem_cons, Prod.mk.injEq, List.not_mem_nil, or_false] at hm
      rcases hm with ⟨rfl, rfl⟩ | ⟨rfl, rfl⟩ | ⟨rfl, rfl⟩ | ⟨rfl, rfl⟩
      · have hl : f63 (r63 c k (n + 1)) 0 f h := hl
        have hh := e63_0 c k (r63 c k n) f h (f 0) (f 1)
        rw [fset_self (rfl : f 0 = f 0)] at hh
        rw [fset_self (rfl : f 1 = f 1)] at hh
        exact Eq.mpr hh hl
      · have hl : f63 (r63 c k (n + 1)) 1 f h := hl
        obtain ⟨n_5, e_5, hl3⟩ := asI_inv hl
        have hh := e63_1 c k (r63 c k n) f h (f 0) (f 1) (f 4) n_5
        rw [fset_self (rfl : f 0 = f 0)] at hh
        rw [fset_self (rfl : f 1 = f 1)] at hh
        rw [fset_self (rfl : f 4 = f 4)] at hh
        rw [fset_self e_5] at hh
        exact Eq.mpr hh hl3
      · have hl : f63 (r63 c k (n + 1)) 2 f h := hl
        obtain ⟨n_5, e_5, hl3⟩ := asI_inv hl
        obtain ⟨n_8, e_8, hl5⟩ := asI_inv hl3
        have hh := e63_2 c k (r63 c k n) f h (f 0) (f 1) (f 4) n_5 (f 7) n_8
        rw [fset_self (rfl : f 0 = f 0)] at hh
        rw [fset_self (rfl : f 1 = f 1)] at hh
        rw [fset_self (rfl : f 4 = f 4)] at hh
        rw [fset_self e_5] at hh
        rw [fset_self (rfl : f 7 = f 7)] at hh
        rw [fset_self e_8] at hh
        exact Eq.mpr hh hl5
      · have hl : f63 (r63 c k (n + 1)) 3 f h := hl
        obtain ⟨n_5, e_5, hl3⟩ := asI_inv hl
        obtain ⟨n_8, e_8, hl5⟩ := asI_inv hl3
        have hh := e63_3 c k (r63 c k n) f h (f 0) (f 1) (f 4) n_5 (f 7) n_8
        rw [fset_self (rfl : f 0 = f 0)] at hh
        rw [fset_self (rfl : f 1 = f 1)] at hh
        rw [fset_self (rfl : f 4 = f 4)] at hh
        rw [fset_self e_5] at hh
        rw [fset_self (rfl : f 7 = f 7)] at hh
        rw [fset_self e_8] at hh
        exact Eq.mpr hh hl5
    ) (by simp [u63]) hg

theorem e65_0 (c : Caller Prop FT) (k : KV) (J : J65) (f : FT) (h : H) (v_0 : AV) : chunkA env c q65 u65 (f65 J) d65 (retA env Go.Proofs.Tryz.f65.results.toList k) .root (fset f 0 v_0) h = s65_0 c k J v_0 h := by kernel_rfl
theorem w65 {c : Caller Prop FT} (hc : CallOk Go.Proofs.Tryz.prog (CP env) G (fun p => p) c) {k : KV} {n : Nat} {args : List AV} {h : H} (hg : f65 (r65 c k n) 0 (finit args) h) : SW Go.Proofs.Tryz.prog G (.func 65) args h k :=
  fn_ok mixed envOk hc q65 Go.Proofs.Tryz.func65 rfl (by kernel_rfl) (by kernel_rfl) k u65 (fun n => f65 (r65 c k n))
    (fun L f h hl => by
      match L, hl with
      | 0, hl => exact hl
      | _ + 1, hl => exact hl)
    (fun n p L hm f h hl => by
      simp only [u65, List.mem_cons, Prod.mk.injEq, List.not_mem_nil, or_false] at hm
      rcases hm with ⟨rfl, rfl⟩
      · have hl : f65 (r65 c k (n + 1)) 0 f h := hl
        have hh := e65_0 c k (r65 c k n) f h (f 0)
        rw [fset_self (rfl : f 0 = f 0)] at hh
        exact Eq.mpr hh hl
    ) (by simp [u65]) hg

theorem e67_0 (c : Caller Prop FT) (k : KV) (J : J67) (f : FT) (h : H) (v_0 : AV) (v_1 : AV) : chunkA env c q67 u67 (f67 J) d67 (retA env Go.Proofs.Tryz.f67.results.toList k) .root (fset (fset f 0 v_0) 1 v_1) h = s67_0 c k J v_0 v_1 h := by kernel_rfl
theorem e67_1 (c : Caller Prop FT) (k : KV) (J : J67) (f : FT) (h : H) (v_0 : AV) (v_5 : AV) : chunkA env c q67 u67 (f67 J) d67 (retA env Go.Proofs.Tryz.f67.results.toList k) (.l (.r .root)) (fset (fset f 0 v_0) 5 v_5) h = s67_1 c k J v_0 v_5 h := by kernel_rfl
theorem w67 {c : Caller Prop FT} (hc : CallOk Go.Proofs.Tryz.prog (CP env) G (fun p => p) c) {k : KV} {n : Nat} {args : List AV} {h : H} (hg : f67 (r67 c k n) 0 (finit args) h) : SW Go.Proofs.Tryz.prog G (.func 67) args h k :=
  fn_ok mixed envOk hc q67 Go.Proofs.Tryz.func67 rfl (by kernel_rfl) (by kernel_rfl) k u67 (fun n => f67 (r67 c k n))
    (fun L f h hl => by
      match L, hl with
      | 0, hl => exact hl
      | 1, hl => exact hl
      | _ + 2, hl => exact hl)
    (fun n p L hm f h hl => by
      simp only [u67, List.mem_cons, Prod.mk.injEq, List.not_mem_nil, or_false] at hm
      rcases hm with ⟨rfl, rfl⟩ | ⟨rfl, rfl⟩
      · have hl : f67 (r67 c k (n + 1)) 0 f h := hl
        have hh := e67_0 c k (r67 c k n) f h (f 0) (f 1)
        rw [fset_self (rfl : f 0 = f 0)] at hh
        rw [fset_self (rfl : f 1 = f 1)] at hh
        exact Eq.mpr hh hl
      · have hl : f67 (r67 c k (n + 1)) 1 f h := hl
        have hh := e67_1 c k (r67 c k n) f h (f 0) (f 5)
        rw [fset_self (rfl : f 0 = f 0)] at hh
        rw [fset_self (rfl : f 5 = f 5)] at hh
        exact Eq.mpr hh hl
    ) (by simp [u67]) hg

theorem e74_0 (c : Caller Prop FT) (k : KV) (J : J74) (f : FT) (h : H) (v_0 : AV) (n_1 : Int) : chunkA env c q74 u74 (f74 J) d74 (retA env Go.Proofs.Tryz.f74.results.toList k) .root (fset (fset f 0 v_0) 1 (.int .u8 n_1)) h = s74_0 c k J v_0 n_1 h := by kernel_rfl
theorem w74 {c : Caller Prop FT} (hc : CallOk Go.Proofs.Tryz.prog (CP env) G (fun p => p) c) {k : KV} {n : Nat} {args : List AV} {h : H} (hg : f74 (r74 c k n) 0 (finit args) h) : SW Go.Proofs.Tryz.prog G (.func 74) args h k :=
  fn_ok mixed envOk hc q74 Go.Proofs.Tryz.func74 rfl (by kernel_rfl) (by kernel_rfl) k u74 (fun n => f74 (r74 c k n))
    (fun L f h hl => by
      match L, hl with
      | 0, hl => obtain ⟨_, _, hl0⟩ := asI_inv (show _ from hl); exact hl0
      | _ + 1, hl => exact hl)
    (fun n p L hm f h hl => by
      simp only [u74, List.mem_cons, Prod.mk.injEq, List.not_mem_nil, or_false] at hm
      rcases hm with ⟨rfl, rfl⟩
      · have hl : f74 (r74 c k (n + 1)) 0 f h := hl
        obtain ⟨n_1, e_1, hl1⟩ := asI_inv hl
        have hh := e74_0 c k (r74 c k n) f h (f 0) n_1
        rw [fset_self (rfl : f 0 = f 0)] at hh
        rw [fset_self e_1] at hh
        exact Eq.mpr hh hl1
    ) (by simp [u74]) hg

theorem e79_0 (c : Caller Prop FT) (k : KV) (J : J79) (f : FT) (h : H) (l_0 : Nat) (c_0 : Nat) (l_1 : Nat) (c_1 : Nat) (n_2 : Int) : chunkA env c q79 u79 (f79 J) d79 (retA env Go.Proofs.Tryz.f79.results.toList k) .root (fset (fset (fset f 0 (.str l_0 c_0)) 1 (.str l_1 c_1)) 2 (.int .i64 n_2)) h = s79_0 c k J l_0 c_0 l_1 c_1 n_2 h := by kernel_rfl
theorem w79 {c : Caller Prop FT} (hc : CallOk Go.Proofs.Tryz.prog (CP env) G (fun p => p) c) {k : KV} {n : Nat} {args : List AV} {h : H} (hg : f79 (r79 c k n) 0 (finit args) h) : SW Go.Proofs.Tryz.prog G (.func 79) args h k :=
  fn_ok mixed envOk hc q79 Go.Proofs.Tryz.func79 rfl (by kernel_rfl) (by kernel_rfl) k u79 (fun n => f79 (r79 c k n))
    (fun L f h hl => by
      match L, hl with
      | 0, hl => obtain ⟨_, _, _, hl0⟩ := asS_inv (show _ from hl); obtain ⟨_, _, _, hl1⟩ := asS_inv (show _ from hl0); obtain ⟨_, _, hl2⟩ := asI_inv (show _ from hl1); exact hl2
      | _ + 1, hl => exact hl)
    (fun n p L hm f h hl => by
      simp only [u79, List.mem_cons, Prod.mk.injEq, List.not_mem_nil, or_false] at hm
      rcases hm with ⟨rfl, rfl⟩
      · have hl : f79 (r79 c k (n + 1)) 0 f h := hl
        obtain ⟨l_0, c_0, e_0, hl0⟩ := asS_inv hl
        obtain ⟨l_1, c_1, e_1, hl1⟩ := asS_inv hl0
        obtain ⟨n_2, e_2, hl2⟩ := asI_inv hl1
        have hh := e79_0 c k (r79 c k n) f h l_0 c_0 l_1 c_1 n_2
        rw [fset_self e_0] at hh
        rw [fset_self e_1] at hh
        rw [fset_self e_2] at hh
        exact Eq.mpr hh hl2
    ) (by simp [u79]) hg

theorem e85_0 (c : Caller Prop FT) (k : KV) (J : J85) (f : FT) (h : H) (v_0 : AV) (v_1 : AV) : chunkA env c q85 u85 (f85 J) d85 (retA env Go.Proofs.Tryz.f85.results.toList k) .root (fset (fset f 0 v_0) 1 v_1) h = s85_0 c k J v_0 v_1 h := by kernel_rfl
theorem w85 {c : Caller Prop FT} (hc : CallOk Go.Proofs.Tryz.prog (CP env) G (fun p => p) c) {k : KV} {n : Nat} {args : List AV} {h : H} (hg : f85 (r85 c k n) 0 (finit args) h) : SW Go.Proofs.Tryz.prog G (.func 85) args h k :=
  fn_ok mixed envOk hc q85 Go.Proofs.Tryz.func85 rfl (by kernel_rfl) (by kernel_rfl) k u85 (fun n => f85 (r85 c k n))
    (fun L f h hl => by
      match L, hl with
      | 0, hl => exact hl
      | _ + 1, hl => exact hl)
    (fun n p L hm f h hl => by
      simp only [u85, List.mem_cons, Prod.mk.injEq, List.not_mem_nil, or_false] at hm
      rcases hm with ⟨rfl, rfl⟩
      · have hl : f85 (r85 c k (n + 1)) 0 f h := hl
        have hh := e85_0 c k (r85 c k n) f h (f 0) (f 1)
        rw [fset_self (rfl : f 0 = f 0)] at hh
        rw [fset_self (rfl : f 1 = f 1)] at hh
        exact Eq.mpr hh hl
    ) (by simp [u85]) hg

theorem e87_0 (c : Caller Prop FT) (k : KV) (J : J87) (f : FT) (h : H) (v_0 : AV) : chunkA env c q87 u87 (f87 J) d87 (retA env Go.Proofs.Tryz.f87.results.toList k) .root (fset f 0 v_0) h = s87_0 c k J v_0 h := by kernel_rfl
theorem w87 {c : Caller Prop FT} (hc : CallOk Go.Proofs.Tryz.prog (CP env) G (fun p => p) c) {k : KV} {n : Nat} {args : List AV} {h : H} (hg : f87 (r87 c k n) 0 (finit args) h) : SW Go.Proofs.Tryz.prog G (.func 87) args h k :=
  fn_ok mixed envOk hc q87 Go.Proofs.Tryz.func87 rfl (by kernel_rfl) (by kernel_rfl) k u87 (fun n => f87 (r87 c k n))
    (fun L f h hl => by
      match L, hl with
      | 0, hl => exact hl
      | _ + 1, hl => exact hl)
    (fun n p L hm f h hl => by
      simp only [u87, List.mem_cons, Prod.mk.injEq, List.not_mem_nil, or_false] at hm
      rcases hm with ⟨rfl, rfl⟩
      · have hl : f87 (r87 c k (n + 1)) 0 f h := hl
        have hh := e87_0 c k (r87 c k n) f h (f 0)
        rw [fset_self (rfl : f 0 = f 0)] at hh
        exact Eq.mpr hh hl
    ) (by simp [u87]) hg

theorem e90_0 (c : Caller Prop FT) (k : KV) (J : J90) (f : FT) (h : H) (v_0 : AV) (n_1 : Int) (n_2 : Int) (n_3 : Int) : chunkA env c q90 u90 (f90 J) d90 (retA env Go.Proofs.Tryz.f90.results.toList k) .root (fset (fset (fset (fset f 0 v_0) 1 (.int .i64 n_1)) 2 (.int .i64 n_2)) 3 (.int .i64 n_3)) h = s90_0 c k J v_0 n_1 n_2 n_3 h := by kernel_rfl
theorem e90_1 (c : Caller Prop FT) (k : KV) (J : J90) (f : FT) (h : H) (v_0 : AV) (n_1 : Int) (n_2 : Int) (n_3 : Int) (b_8 : Bool) (b_9 : Bool) : chunkA env c q90 u90 (f90 J) d90 (retA env Go.Proofs.Tryz.f90.results.toList k) (.l (.r (.r .root))) (fset (fset (fset (fset (fset (fset f 0 v_0) 1 (.int .i64 n_1)) 2 (.int .i64 n_2)) 3 (.int .i64 n_3)) 8 (.bool b_8)) 9 (.bool b_9)) h = s90_1 c k J v_0 n_1 n_2 n_3 b_8 b_9 h := by kernel_rfl
theorem e90_2 (c : Caller Prop FT) (k : KV) (J : J90) (f : FT) (h : H) (v_0 : AV) (n_1 : Int) (n_2 : Int) (n_3 : Int) (b_8 : Bool) (b_9 : Bool) (n_10 : Int) (n_11 : Int) : chunkA env c q90 u90 (f90 J) d90 (retA env Go.Proofs.Tryz.f90.results.toList k) (.r (.r (.r (.r (.r (.r (.r (.l (.l (.l (.r (.r .root)))))))))))) (fset (fset (fset (fset (fset (fset (fset (fset f 0 v_0) 1 (.int .i64 n_1)) 2 (.int .i64 n_2)) 3 (.int .i64 n_3)) 8 (.bool b_8)) 9 (.bool b_9)) 10 (.int .i64 n_10)) 11 (.int .i64 n_11)) h = s90_2 c k J v_0 n_1 n_2 n_3 b_8 b_9 n_10 n_11 h := by kernel_rfl
theorem e90_3 (c : Caller Prop FT) (k : KV) (J : J90) (f : FT) (h : H) (v_0 : AV) (n_1 : Int) (n_2 : Int) (n_3 : Int) (b_8 : Bool) (b_9 : Bool) (n_10 : Int) (n_11 : Int) (n_12 : Int) : chunkA env c q90 u90 (f90 J) d90 (retA env Go.Proofs.Tryz.f90.results.toList k) (.r (.r (.r (.r (.r (.r (.l (.l (.l (.r (.r .root))))))))))) (fset (fset (fset (fset (fset (fset (fset (fset (fset f 0 v_0) 1 (.int .i64 n_1)) 2 (.int .i64 n_2)) 3 (.int .i64 n_3)) 8 (.bool b_8)) 9 (.bool b_9)) 10 (.int .i64 n_10)) 11 (.int .i64 n_11)) 12 (.int .i64 n_12)) h = s90_3 c k J v_0 n_1 n_2 n_3 b_8 b_9 n_10 n_11 n_12 h := by kernel_rfl
theorem e90_4 (c : Caller Prop FT) (k : KV) (J : J90) (f : FT) (h : H) (v_0 : AV) (n_1 : Int) (n_2 : Int) (n_3 : Int) (b_8 : Bool) (b_9 : Bool) (n_10 : Int) : chunkA env c q90 u90 (f90 J) d90 (retA env Go.Proofs.Tryz.f90.results.toList k) (.r (.r (.r (.r (.l (.l (.l (.r (.r .root))))))))) (fset (fset (fset (fset (fset (fset (fset f 0 v_0) 1 (.int .i64 n_1)) 2 (.int .i64 n_2)) 3 (.int .i64 n_3)) 8 (.bool b_8)) 9 (.bool b_9)) 10 (.int .i64 n_10)) h = s90_4 c k J v_0 n_1 n_2 n_3 b_8 b_9 n_10 h := by kernel_rfl
theorem w90 {c : Caller Prop FT} (hc : CallOk Go.Proofs.Tryz.prog (CP env) G (fun p => p) c) {k : KV} {n : Nat} {args : List AV} {h : H} (hg : f90 (r90 c k n) 0 (finit args) h) : SW Go.Proofs.Tryz.prog G (.func 90) args h k :=
  fn_ok mixed envOk hc q90 Go.Proofs.Tryz.func90 rfl (by kernel_rfl) (by kernel_rfl) k u90 (fun n => f90 (r90 c k n))
    (fun L f h hl => by
      match L, hl with
      | 0, hl => obtain ⟨_, _, hl0⟩ := asI_inv (show _ from hl); obtain ⟨_, _, hl1⟩ := asI_inv (show _ from hl0); obtain ⟨_, _, hl2⟩ := asI_inv (show _ from hl1); exact hl2
      | 1, hl => obtain ⟨_, _, hl0⟩ := asI_inv (show _ from hl); obtain ⟨_, _, hl1⟩ := asI_inv (show _ from hl0); obtain ⟨_, _, hl2⟩ := asI_inv (show _ from hl1); obtain ⟨_, _, hl3⟩ := asB_inv (show _ from hl2); obtain ⟨_, _, hl4⟩ := asB_inv (show _ from hl3); exact hl4
      | 2, hl => obtain ⟨_, _, hl0⟩ := asI_inv (show _ from hl); obtain ⟨_, _, hl1⟩ := asI_inv (show _ from hl0); obtain ⟨_, _, hl2⟩ := asI_inv (show _ from hl1); obtain ⟨_, _, hl3⟩ := asB_inv (show _ from hl2); obtain ⟨_, _, hl4⟩ := asB_inv (show _ from hl3); obtain ⟨_, _, hl5⟩ := asI_inv (show _ from hl4); obtain ⟨_, _, hl6⟩ := asI_inv (show _ from hl5); exact hl6
      | 3, hl => obtain ⟨_, _, hl0⟩ := asI_inv (show _ from hl); obtain ⟨_, _, hl1⟩ := asI_inv (show _ from hl0); obtain ⟨_, _, hl2⟩ := asI_inv (show _ from hl1); obtain ⟨_, _, hl3⟩ := asB_inv (show _ from hl2); obtain ⟨_, _, hl4⟩ := asB_inv (show _ from hl3); obtain ⟨_, _, hl5⟩ := asI_inv (show _ from hl4); obtain ⟨_, _, hl6⟩ := asI_inv (show _ from hl5); obtain ⟨_, _, hl7⟩ := asI_inv (show _ from hl6); exact hl7
      | 4, hl => obtain ⟨_, _, hl0⟩ := asI_inv (show _ from hl); obtain ⟨_, _, hl1⟩ := asI_inv (show _ from hl0); obtain ⟨_, _, hl2⟩ := asI_inv (show _ from hl1); obtain ⟨_, _, hl3⟩ := asB_inv (show _ from hl2); obtain ⟨_, _, hl4⟩ := asB_inv (show _ from hl3); obtain ⟨_, _, hl5⟩ := asI_inv (show _ from hl4); exact hl5
      | _ + 5, hl => exact hl)
    (fun n p L hm f h hl => by
      simp only [u90, List.mem_cons, Prod.mk.injEq, List.not_mem_nil, or_false] at hm
      rcases hm with ⟨rfl, rfl⟩ | ⟨rfl, rfl⟩ | ⟨rfl, rfl⟩ | ⟨rfl, rfl⟩ | ⟨rfl, rfl⟩
      · have hl : f90 (r90 c k (n + 1)) 0 f h := hl
        obtain ⟨n_1, e_1, hl1⟩ := asI_inv hl
        obtain ⟨n_2, e_2, hl2⟩ := asI_inv hl1
        obtain ⟨n_3, e_3, hl3⟩ := asI_inv hl2
        have hh := e90_0 c k (r90 c k n) f h (f 0) n_1 n_2 n_3
        rw [fset_self (rfl : f 0 = f 0)] at hh
        rw [fset_self e_1] at hh
        rw [fset_self e_2] at hh
        rw [fset_self e_3] at hh
        exact Eq.mpr hh hl3
      · have hl : f90 (r90 c k (n + 1)) 1 f h := hl
        obtain ⟨n_1, e_1, hl1⟩ := asI_inv hl
        obtain ⟨n_2, e_2, hl2⟩ := asI_inv hl1
        obtain ⟨n_3, e_3, hl3⟩ := asI_inv hl2
        obtain ⟨b_8, e_8, hl4⟩ := asB_inv hl3
        obtain ⟨b_9, e_9, hl5⟩ := asB_inv hl4
        have hh := e90_1 c k (r90 c k n) f h (f 0) n_1 n_2 n_3 b_8 b_9
        rw [fset_self (rfl : f 0 = f 0)] at hh
        rw [fset_self e_1] at hh
        rw [fset_self e_2] at hh
        rw [fset_self e_3] at hh
        rw [fset_self e_8] at hh
        rw [fset_self e_9] at hh
        exact Eq.mpr hh hl5
      · have hl : f90 (r90 c k (n + 1)) 2 f h := hl
        obtain ⟨n_1, e_1, hl1⟩ := asI_inv hl
        obtain ⟨n_2, e_2, hl2⟩ := asI_inv hl1
        obtain ⟨n_3, e_3, hl3⟩ := asI_inv hl2
        obtain ⟨b_8, e_8, hl4⟩ := asB_inv hl3
        obtain ⟨b_9, e_9, hl5⟩ := asB_inv hl4
        obtain ⟨n_10, e_10, hl6⟩ := asI_inv hl5
        obtain ⟨n_11, e_11, hl7⟩ := asI_inv hl6
        have hh := e90_2 c k (r90 c k n) f h (f 0) n_1 n_2 n_3 b_8 b_9 n_10 n_11
        rw [fset_self (rfl : f 0 = f 0)] at hh
        rw [fset_self e_1] at hh
        rw [fset_self e_2] at hh
        rw [fset_self e_3] at hh
        rw [fset_self e_8] at hh
        rw [fset_self e_9] at hh
        rw [fset_self e_10] at hh
        rw [fset_self e_11] at hh
        exact Eq.mpr hh hl7
      · have hl : f90 (r90 c k (n + 1)) 3 f h := hl
        obtain ⟨n_1, e_1, hl1⟩ := asI_inv hl
        obtain ⟨n_2, e_2, hl2⟩ := asI_inv hl1
        obtain ⟨n_3, e_3, hl3⟩ := asI_inv hl2
        obtain ⟨b_8, e_8, hl4⟩ := asB_inv hl3
        obtain ⟨b_9, e_9, hl5⟩ := asB_inv hl4
        obtain ⟨n_10, e_10, hl6⟩ := asI_inv hl5
        obtain ⟨n_11, e_11, hl7⟩ := asI_inv hl6
        obtain ⟨n_12, e_12, hl8⟩ := asI_inv hl7
        have hh := e90_3 c k (r90 c k n) f h (f 0) n_1 n_2 n_3 b_8 b_9 n_10 n_11 n_12
        rw [fset_self (rfl : f 0 = f 0)] at hh
        rw [fset_self e_1] at hh
        rw [fset_self e_2] at hh
        rw [fset_self e_3] at hh
        rw [fset_self e_8] at hh
        rw [fset_self e_9] at hh
        rw [fset_self e_10] at hh
        rw [fset_self e_11] at hh
        rw [fset_self e_12] at hh
        exact Eq.mpr hh hl8
      · have hl : f90 (r90 c k (n + 1)) 4 f h := hl
        obtain ⟨n_1, e_1, hl1⟩ := asI_inv hl
        obtain ⟨n_2, e_2, hl2⟩ := asI_inv hl1
        obtain ⟨n_3, e_3, hl3⟩ := asI_inv hl2
        obtain ⟨b_8, e_8, hl4⟩ := asB_inv hl3
        obtain ⟨b_9, e_9, hl5⟩ := asB_inv hl4
        obtain ⟨n_10, e_10, hl6⟩ := asI_inv hl5
        have hh := e90_4 c k (r90 c k n) f h (f 0) n_1 n_2 n_3 b_8 b_9 n_10
        rw [fset_self (rfl : f 0 = f 0)] at hh
        rw [fset_self e_1] at hh
        rw [fset_self e_2] at hh
        rw [fset_self e_3] at hh
        rw [fset_self e_8] at hh
        rw [fset_self e_9] at hh
        rw [fset_self e_10] at hh
        exact Eq.mpr hh hl6
    ) (by simp [u90]) hg

theorem e93_0 (c : Caller Prop FT) (k : KV) (J : J93) (f : FT) (h : H) (v_0 : AV) (l_1 : Nat) (c_1 : Nat) : chunkA env c q93 u93 (f93 J) d93 (retA env Go.Proofs.Tryz.f93.results.toList k) .root (fset (fset f 0 v_0) 1 (.str l_1 c_1)) h = s93_0 c k J v_0 l_1 c_1 h := by kernel_rfl
theorem w93 {c : Caller Prop FT} (hc : CallOk Go.Proofs.Tryz.prog (CP env) G (fun p => p) c) {k : KV} {n : Nat} {args : List AV} {h : H} (hg : f93 (r93 c k n) 0 (finit args) h) : SW Go.Proofs.Tryz.prog G (.func 93) args h k :=
  fn_ok mixed envOk hc q93 Go.Proofs.Tryz.func93 rfl (by kernel_rfl) (by kernel_rfl) k u93 (fun n => f93 (r93 c k n))
    (fun L f h hl => by
      match L, hl with
      | 0, hl => obtain ⟨_, _, _, hl0⟩ := asS_inv (show _ from hl); exact hl0
      | _ + 1, hl => exact hl)
    (fun n p L hm f h hl => by
      simp only [u93, List.mem_cons, Prod.mk.injEq, List.not_mem_nil, or_false] at hm
      rcases hm with ⟨rfl, rfl⟩
      · have hl : f93 (r93 c k (n + 1)) 0 f h := hl
        obtain ⟨l_1, c_1, e_1, hl1⟩ := asS_inv hl
        have hh := e93_0 c k (r93 c k n) f h (f 0) l_1 c_1
        rw [fset_self (rfl : f 0 = f 0)] at hh
        rw [fset_self e_1] at hh
        exact Eq.mpr hh hl1
    ) (by simp [u93]) hg

theorem w99 {c : Caller Prop FT} (hc : CallOk Go.Proofs.Tryz.prog (CP env) G (fun p => p) c) {k : KV} {m : Nat} {a : List AV} {h : H} (hg : runJ env c q99 u99 d99 (retA env Go.Proofs.Tryz.f99.results.toList k) m 0 (finit a) h) : SW Go.Proofs.Tryz.prog G (.func 99) a h k := fnI_ok mixed envOk hc q99 Go.Proofs.Tryz.func99 rfl (by kernel_rfl) (by kernel_rfl) (by kernel_rfl) (by simp [u99]) hg
theorem w100 {c : Caller Prop FT} (hc : CallOk Go.Proofs.Tryz.prog (CP env) G (fun p => p) c) {k : KV} {m : Nat} {a : List AV} {h : H} (hg : runJ env c q100 u100 d100 (retA env Go.Proofs.Tryz.f100.results.toList k) m 0 (finit a) h) : SW Go.Proofs.Tryz.prog G (.func 100) a h k := fnI_ok mixed envOk hc q100 Go.Proofs.Tryz.func100 rfl (by kernel_rfl) (by kernel_rfl) (by kernel_rfl) (by simp [u100]) hg
theorem e101_0 (c : Caller Prop FT) (k : KV) (J : J101) (f : FT) (h : H) (l_0 : Nat) (c_0 : Nat) (n_1 : Int) : chunkA env c q101 u101 (f101 J) d101 (retA env Go.Proofs.Tryz.f101.results.toList k) .root (fset (fset f 0 (.str l_0 c_0)) 1 (.int .i64 n_1)) h = s101_0 c k J l_0 c_0 n_1 h := by kernel_rfl
theorem e101_1 (c : Caller Prop FT) (k : KV) (J : J101) (f : FT) (h : H) (l_0 : Nat) (c_0 : Nat) (n_1 : Int) (v_4 : AV) : chunkA env c q101 u101 (f101 J) d101 (retA env Go.Proofs.Tryz.f101.results.toList k) (.r (.r .root)) (fset (fset (fset f 0 (.str l_0 c_0)) 1 (.int .i64 n_1)) 4 v_4) h = s101_1 c k J l_0 c_0 n_1 v_4 h := by kernel_rfl
theorem w101 {c : Caller Prop FT} (hc : CallOk Go.Proofs.Tryz.prog (CP env) G (fun p => p) c) {k : KV} {n : Nat} {args : List AV} {h : H} (hg : f101 (r101 c k n) 0 (finit args) h) : SW Go.Proofs.Tryz.prog G (.func 101) args h k :=
  fn_ok mixed envOk hc q101 Go.Proofs.Tryz.func101 rfl (by kernel_rfl) (by kernel_rfl) k u101 (fun n => f101 (r101 c k n))
    (fun L f h hl => by
      match L, hl with
      | 0, hl => obtain ⟨_, _, _, hl0⟩ := asS_inv (show _ from hl); obtain ⟨_, _, hl1⟩ := asI_inv (show _ from hl0); exact hl1
      | 1, hl => obtain ⟨_, _, _, hl0⟩ := asS_inv (show _ from hl); obtain ⟨_, _, hl1⟩ := asI_inv (show _ from hl0); exact hl1
      | _ + 2, hl => exact hl)
    (fun n p L hm f h hl => by
      simp only [u101, List.mem_cons, Prod.mk.injEq, List.not_mem_nil, or_false] at hm
      rcases hm with ⟨rfl, rfl⟩ | ⟨rfl, rfl⟩
      · have hl : f101 (r101 c k (n + 1)) 0 f h := hl
        obtain ⟨l_0, c_0, e_0, hl0⟩ := asS_inv hl
        obtain ⟨n_1, e_1, hl1⟩ := asI_inv hl0
        have hh := e101_0 c k (r101 c k n) f h l_0 c_0 n_1
        rw [fset_self e_0] at hh
        rw [fset_self e_1] at hh
        exact Eq.mpr hh hl1
      · have hl : f101 (r101 c k (n + 1)) 1 f h := hl
        obtain ⟨l_0, c_0, e_0, hl0⟩ := asS_inv hl
        obtain ⟨n_1, e_1, hl1⟩ := asI_inv hl0
        have hh := e101_1 c k (r101 c k n) f h l_0 c_0 n_1 (f 4)
        rw [fset_self e_0] at hh
        rw [fset_self e_1] at hh
        rw [fset_self (rfl : f 4 = f 4)] at hh
        exact Eq.mpr hh hl1
    ) (by simp [u101]) hg

theorem e102_0 (c : Caller Prop FT) (k : KV) (J : J102) (f : FT) (h : H) (v_0 : AV) : chunkA env c q102 u102 (f102 J) d102 (retA env Go.Proofs.Tryz.f102.results.toList k) .root (fset f 0 v_0) h = s102_0 c k J v_0 h := by kernel_rfl
theorem w102 {c : Caller Prop FT} (hc : CallOk Go.Proofs.Tryz.prog (CP env) G (fun p => p) c) {k : KV} {n : Nat} {args : List AV} {h : H} (hg : f102 (r102 c k n) 0 (finit args) h) : SW Go.Proofs.Tryz.prog G (.func 102) args h k :=
  fn_ok mixed envOk hc q102 Go.Proofs.Tryz.func102 rfl (by kernel_rfl) (by kernel_rfl) k u102 (fun n => f102 (r102 c k n))
    (fun L f h hl => by
      match L, hl with
      | 0, hl => exact hl
      | _ + 1, hl => exact hl)
    (fun n p L hm f h hl => by
      simp only [u102, List.mem_cons, Prod.mk.injEq, List.not_mem_nil, or_false] at hm
      rcases hm with ⟨rfl, rfl⟩
      · have hl : f102 (r102 c k (n + 1)) 0 f h := hl
        have hh := e102_0 c k (r102 c k n) f h (f 0)
        rw [fset_self (rfl : f 0 = f 0)] at hh
        exact Eq.mpr hh hl
    ) (by simp [u102]) hg

theorem w110 {c : Caller Prop FT} (hc : CallOk Go.Proofs.Tryz.prog (CP env) G (fun p => p) c) {k : KV} {m : Nat} {a : List AV} {h : H} (hg : runJ env c q110 u110 d110 (retA env Go.Proofs.Tryz.f110.results.toList k) m 0 (finit a) h) : SW Go.Proofs.Tryz.prog G (.func 110) a h k := fnI_ok mixed envOk hc q110 Go.Proofs.Tryz.func110 rfl (by kernel_rfl) (by kernel_rfl) (by kernel_rfl) (by simp [u110]) hg
theorem e112_0 (c : Caller Prop FT) (k : KV) (J : J112) (f : FT) (h : H) (v_0 : AV) (n_1 : Int) : chunkA env c q112 u112 (f112 J) d112 (retA env Go.Proofs.Tryz.f112.results.toList k) .root (fset (fset f 0 v_0) 1 (.int .i64 n_1)) h = s112_0 c k J v_0 n_1 h := by kernel_rfl
theorem w112 {c : Caller Prop FT} (hc : CallOk Go.Proofs.Tryz.prog (CP env) G (fun p => p) c) {k : KV} {n : Nat} {args : List AV} {h : H} (hg : f112 (r112 c k n) 0 (finit args) h) : SW Go.Proofs.Tryz.prog G (.func 112) args h k :=
  fn_ok mixed envOk hc q112 Go.Proofs.Tryz.func112 rfl (by kernel_rfl) (by kernel_rfl) k u112 (fun n => f112 (r112 c k n))
    (fun L f h hl => by
      match L, hl with
      | 0, hl => obtain ⟨_, _, hl0⟩ := asI_inv (show _ from hl); exact hl0
      | _ + 1, hl => exact hl)
    (fun n p L hm f h hl => by
      simp only [u112, List.mem_cons, Prod.mk.injEq, List.not_mem_nil, or_false] at hm
      rcases hm with ⟨rfl, rfl⟩
      · have hl : f112 (r112 c k (n + 1)) 0 f h := hl
        obtain ⟨n_1, e_1, hl1⟩ := asI_inv hl
        have hh := e112_0 c k (r112 c k n) f h (f 0) n_1
        rw [fset_self (rfl : f 0 = f 0)] at hh
        rw [fset_self e_1] at hh
        exact Eq.mpr hh hl1
    ) (by simp [u112]) hg

theorem e113_0 (c : Caller Prop FT) (k : KV) (J : J113) (f : FT) (h : H) (v_0 : AV) (n_1 : Int) (n_2 : Int) : chunkA env c q113 u113 (f113 J) d113 (retA env Go.Proofs.Tryz.f113.results.toList k) .root (fset (fset (fset f 0 v_0) 1 (.int .i64 n_1)) 2 (.int .i64 n_2)) h = s113_0 c k J v_0 n_1 n_2 h := by kernel_rfl
theorem e113_1 (c : Caller Prop FT) (k : KV) (J : J113) (f : FT) (h : H) (v_0 : AV) (n_1 : Int) (n_2 : Int) (n_6 : Int) : chunkA env c q113 u113 (f113 J) d113 (retA env Go.Proofs.Tryz.f113.results.toList k) (.l (.r .root)) (fset (fset (fset (fset f 0 v_0) 1 (.int .i64 n_1)) 2 (.int .i64 n_2)) 6 (.int .i64 n_6)) h = s113_1 c k J v_0 n_1 n_2 n_6 h := by kernel_rfl
theorem e113_2 (c : Caller Prop FT) (k : KV) (J : J113) (f : FT) (h : H) (v_0 : AV) (n_1 : Int) (n_2 : Int) (n_6 : Int) (n_7 : Int) : chunkA env c q113 u113 (f113 J) d113 (retA env Go.Proofs.Tryz.f113.results.toList k) (.l (.r (.l (.l (.r (.l (.l (.r .root)))))))) (fset (fset (fset (fset (fset f 0 v_0) 1 (.int .i64 n_1)) 2 (.int .i64 n_2)) 6 (.int .i64 n_6)) 7 (.int .i64 n_7)) h = s113_2 c k J v_0 n_1 n_2 n_6 n_7 h := by kernel_rfl
theorem w113 {c : Caller Prop FT} (hc : CallOk Go.Proofs.Tryz.prog (CP env) G (fun p => p) c) {k : KV} {n : Nat} {args : List AV} {h : H} (hg : f113 (r113 c k n) 0 (finit args) h) : SW Go.Proofs.Tryz.prog G (.func 113) args h k :=
  fn_ok mixed envOk hc q113 Go.Proofs.Tryz.func113 rfl (by kernel_rfl) (by kernel_rfl) k u113 (fun n => f113 (r113 c k n))
    (fun L f h hl => by
      match L, hl with
      | 0, hl => obtain ⟨_, _, hl0⟩ := asI_inv (show _ from hl); obtain ⟨_, _, hl1⟩ := asI_inv (show _ from hl0); exact hl1
      | 1, hl => obtain ⟨_, _, hl0⟩ := asI_inv (show _ from hl); obtain ⟨_, _, hl1⟩ := asI_inv (show _ from hl0); obtain ⟨_, _, hl2⟩ := asI_inv (show _ from hl1); exact hl2
      | 2, hl => obtain ⟨_, _, hl0⟩ := asI_inv (show _ from hl); obtain ⟨_, _, hl1⟩ := asI_inv (show _ from hl0); obtain ⟨_, _, hl2⟩ := asI_inv (show _ from hl1); obtain ⟨_, _, hl3⟩ := asI_inv (show _ from hl2); exact hl3
      | _ + 3, hl => exact hl)
    (fun n p L hm f h hl => by
      simp only [u113, List.mem_cons, Prod.mk.injEq, List.not_mem_nil, or_false] at hm
      rcases hm with ⟨rfl, rfl⟩ | ⟨rfl, rfl⟩ | ⟨rfl, rfl⟩
      · have hl : f113 (r113 c k (n + 1)) 0 f h := hl
        obtain ⟨n_1, e_1, hl1⟩ := asI_inv hl
        obtain ⟨n_2, e_2, hl2⟩ := asI_inv hl1
        have hh := e113_0 c k (r113 c k n) f h (f 0) n_1 n_2
        rw [fset_self (rfl : f 0 = f 0)] at hh
        rw [fset_self e_1] at hh
        rw [fset_self e_2] at hh
        exact Eq.mpr hh hl2
      · have hl : f113 (r113 c k (n + 1)) 1 f h := hl
        obtain ⟨n_1, e_1, hl1⟩ := asI_inv hl
        obtain ⟨n_2, e_2, hl2⟩ := asI_inv hl1
        obtain ⟨n_6, e_6, hl3⟩ := asI_inv hl2
        have hh := e113_1 c k (r113 c k n) f h (f 0) n_1 n_2 n_6
        rw [fset_self (rfl : f 0 = f 0)] at hh
        rw [fset_self e_1] at hh
        rw [fset_self e_2] at hh
        rw [fset_self e_6] at hh
        exact Eq.mpr hh hl3
      · have hl : f113 (r113 c k (n + 1)) 2 f h := hl
        obtain ⟨n_1, e_1, hl1⟩ := asI_inv hl
        obtain ⟨n_2, e_2, hl2⟩ := asI_inv hl1
        obtain ⟨n_6, e_6, hl3⟩ := asI_inv hl2
        obtain ⟨n_7, e_7, hl4⟩ := asI_inv hl3
        have hh := e113_2 c k (r113 c k n) f h (f 0) n_1 n_2 n_6 n_7
        rw [fset_self (rfl : f 0 = f 0)] at hh
        rw [fset_self e_1] at hh
        rw [fset_self e_2] at hh
        rw [fset_self e_6] at hh
        rw [fset_self e_7] at hh
        exact Eq.mpr hh hl4
    ) (by simp [u113]) hg

theorem e119_0 (c : Caller Prop FT) (k : KV) (J : J119) (f : FT) (h : H) (l_0 : Nat) (c_0 : Nat) (l_1 : Nat) (c_1 : Nat) : chunkA env c q119 u119 (f119 J) d119 (retA env Go.Proofs.Tryz.f119.results.toList k) .root (fset (fset f 0 (.str l_0 c_0)) 1 (.str l_1 c_1)) h = s119_0 c k J l_0 c_0 l_1 c_1 h := by kernel_rfl
theorem w119 {c : Caller Prop FT} (hc : CallOk Go.Proofs.Tryz.prog (CP env) G (fun p => p) c) {k : KV} {n : Nat} {args : List AV} {h : H} (hg : f119 (r119 c k n) 0 (finit args) h) : SW Go.Proofs.Tryz.prog G (.func 119) args h k :=
  fn_ok mixed envOk hc q119 Go.Proofs.Tryz.func119 rfl (by kernel_rfl) (by kernel_rfl) k u119 (fun n => f119 (r119 c k n))
    (fun L f h hl => by
      match L, hl with
      | 0, hl => obtain ⟨_, _, _, hl0⟩ := asS_inv (show _ from hl); obtain ⟨_, _, _, hl1⟩ := asS_inv (show _ from hl0); exact hl1
      | _ + 1, hl => exact hl)
    (fun n p L hm f h hl => by
      simp only [u119, List.mem_cons, Prod.mk.injEq, List.not_mem_nil, or_false] at hm
      rcases hm with ⟨rfl, rfl⟩
      · have hl : f119 (r119 c k (n + 1)) 0 f h := hl
        obtain ⟨l_0, c_0, e_0, hl0⟩ := asS_inv hl
        obtain ⟨l_1, c_1, e_1, hl1⟩ := asS_inv hl0
        have hh := e119_0 c k (r119 c k n) f h l_0 c_0 l_1 c_1
        rw [fset_self e_0] at hh
        rw [fset_self e_1] at hh
        exact Eq.mpr hh hl1
    ) (by simp [u119]) hg

theorem e124_0 (c : Caller Prop FT) (k : KV) (J : J124) (f : FT) (h : H) (n_0 : Int) : chunkA env c q124 u124 (f124 J) d124 (retA env Go.Proofs.Tryz.f124.results.toList k) .root (fset f 0 (.int .u8 n_0)) h = s124_0 c k J n_0 h := by kernel_rfl
theorem w124 {c : Caller Prop FT} (hc : CallOk Go.Proofs.Tryz.prog (CP env) G (fun p => p) c) {k : KV} {n : Nat} {args : List AV} {h : H} (hg : f124 (r124 c k n) 0 (finit args) h) : SW Go.Proofs.Tryz.prog G (.func 124) args h k :=
  fn_ok mixed envOk hc q124 Go.Proofs.Tryz.func124 rfl (by kernel_rfl) (by kernel_rfl) k u124 (fun n => f124 (r124 c k n))
    (fun L f h hl => by
      match L, hl with
      | 0, hl => obtain ⟨_, _, hl0⟩ := asI_inv (show _ from hl); exact hl0
      | _ + 1, hl => exact hl)
    (fun n p L hm f h hl => by
      simp only [u124, List.mem_cons, Prod.mk.injEq, List.not_mem_nil, or_false] at hm
      rcases hm with ⟨rfl, rfl⟩
      · have hl : f124 (r124 c k (n + 1)) 0 f h := hl
        obtain ⟨n_0, e_0, hl0⟩ := asI_inv hl
        have hh := e124_0 c k (r124 c k n) f h n_0
        rw [fset_self e_0] at hh
        exact Eq.mpr hh hl0
    ) (by simp [u124]) hg

theorem e126_0 (c : Caller Prop FT) (k : KV) (J : J126) (f : FT) (h : H) (v_0 : AV) : chunkA env c q126 u126 (f126 J) d126 (retA env Go.Proofs.Tryz.f126.results.toList k) .root (fset f 0 v_0) h = s126_0 c k J v_0 h := by kernel_rfl
theorem e126_1 (c : Caller Prop FT) (k : KV) (J : J126) (f : FT) (h : H) (v_0 : AV) (n_3 : Int) : chunkA env c q126 u126 (f126 J) d126 (retA env Go.Proofs.Tryz.f126.results.toList k) (.l (.r (.l (.l (.r (.l (.r (.r .root)))))))) (fset (fset f 0 v_0) 3 (.int .i64 n_3)) h = s126_1 c k J v_0 n_3 h := by kernel_rfl
theorem w126 {c : Caller Prop FT} (hc : CallOk Go.Proofs.Tryz.prog (CP env) G (fun p => p) c) {k : KV} {n : Nat} {args : List AV} {h : H} (hg : f126 (r126 c k n) 0 (finit args) h) : SW Go.Proofs.Tryz.prog G (.func 126) args h k :=
  fn_ok mixed envOk hc q126 Go.Proofs.Tryz.func126 rfl (by kernel_rfl) (by kernel_rfl) k u126 (fun n => f126 (r126 c k n))
    (fun L f h hl => by
      match L, hl with
      | 0, hl => exact hl
      | 1, hl => obtain ⟨_, _, hl0⟩ := asI_inv (show _ from hl); exact hl0
      | _ + 2, hl => exact hl)
    (fun n p L hm f h hl => by
      simp only [u126, List.mem_cons, Prod.mk.injEq, List.not_mem_nil, or_false] at hm
      rcases hm with ⟨rfl, rfl⟩ | ⟨rfl, rfl⟩
      · have hl : f126 (r126 c k (n + 1)) 0 f h := hl
        have hh := e126_0 c k (r126 c k n) f h (f 0)
        rw [fset_self (rfl : f 0 = f 0)] at hh
        exact Eq.mpr hh hl
      · have hl : f126 (r126 c k (n + 1)) 1 f h := hl
        obtain ⟨n_3, e_3, hl1⟩ := asI_inv hl
        have hh := e126_1 c k (r126 c k n) f h (f 0) n_3
        rw [fset_self (rfl : f 0 = f 0)] at hh
        rw [fset_self e_3] at hh
        exact Eq.mpr hh hl1
    ) (by simp [u126]) hg

theorem w136 {c : Caller Prop FT} (hc : CallOk Go.Proofs.Tryz.prog (CP env) G (fun p => p) c) {k : KV} {m : Nat} {a : List AV} {h : H} (hg : runJ env c q136 u136 d136 (retA env Go.Proofs.Tryz.f136.results.toList k) m 0 (finit a) h) : SW Go.Proofs.Tryz.prog G (.func 136) a h k := fnI_ok mixed envOk hc q136 Go.Proofs.Tryz.func136 rfl (by kernel_rfl) (by kernel_rfl) (by kernel_rfl) (by simp [u136]) hg
theorem w141 {c : Caller Prop FT} (hc : CallOk Go.Proofs.Tryz.prog (CP env) G (fun p => p) c) {k : KV} {m : Nat} {a : List AV} {h : H} (hg : runJ env c q141 u141 d141 (retA env Go.Proofs.Tryz.f141.results.toList k) m 0 (finit a) h) : SW Go.Proofs.Tryz.prog G (.func 141) a h k := fnI_ok mixed envOk hc q141 Go.Proofs.Tryz.func141 rfl (by kernel_rfl) (by kernel_rfl) (by kernel_rfl) (by simp [u141]) hg
theorem w144 {c : Caller Prop FT} (hc : CallOk Go.Proofs.Tryz.prog (CP env) G (fun p => p) c) {k : KV} {m : Nat} {a : List AV} {h : H} (hg : runJ env c q144 u144 d144 (retA env Go.Proofs.Tryz.f144.results.toList k) m 0 (finit a) h) : SW Go.Proofs.Tryz.prog G (.func 144) a h k := fnI_ok mixed envOk hc q144 Go.Proofs.Tryz.func144 rfl (by kernel_rfl) (by kernel_rfl) (by kernel_rfl) (by simp [u144]) hg
theorem e151_0 (c : Caller Prop FT) (k : KV) (J : J151) (f : FT) (h : H) (l_0 : Nat) (c_0 : Nat) (l_1 : Nat) (c_1 : Nat) : chunkA env c q151 u151 (f151 J) d151 (retA env Go.Proofs.Tryz.f151.results.toList k) .root (fset (fset f 0 (.str l_0 c_0)) 1 (.str l_1 c_1)) h = s151_0 c k J l_0 c_0 l_1 c_1 h := by kernel_rfl
theorem e151_1 (c : Caller Prop FT) (k : KV) (J : J151) (f : FT) (h : H) (l_0 : Nat) (c_0 : Nat) (l_1 : Nat) (c_1 : Nat) (n_5 : Int) (n_6 : Int) (n_7 : Int) (n_8 : Int) (n_9 : Int) (n_10 : Int) : chunkA env c q151 u151 (f151 J) d151 (retA env Go.Proofs.Tryz.f151.results.toList k) (.l (.l (.r (.r (.r (.r (.r (.r (.r (.r .root)))))))))) (fset (fset (fset (fset (fset (fset (fset (fset f 0 (.str l_0 c_0)) 1 (.str l_1 c_1)) 5 (.int .i64 n_5)) 6 (.int .u8 n_6)) 7 (.int .u8 n_7)) 8 (.int .i64 n_8)) 9 (.int .i64 n_9)) 10 (.int .i64 n_10)) h = s151_1 c k J l_0 c_0 l_1 c_1 n_5 n_6 n_7 n_8 n_9 n_10 h := by kernel_rfl
theorem e151_2 (c : Caller Prop FT) (k : KV) (J : J151) (f : FT) (h : H) (l_0 : Nat) (c_0 : Nat) (l_1 : Nat) (c_1 : Nat) (n_5 : Int) (n_6 : Int) (n_7 : Int) (n_8 : Int) (n_9 : Int) (n_10 : Int) : chunkA env c q151 u151 (f151 J) d151 (retA env Go.Proofs.Tryz.f151.results.toList k) (.r (.l (.r (.l (.l (.l (.r (.r (.r (.r (.r (.r (.r (.r .root)))))))))))))) (fset (fset (fset (fset (fset (fset (fset (fset f 0 (.str l_0 c_0)) 1 (.str l_1 c_1)) 5 (.int .i64 n_5)) 6 (.int .u8 n_6)) 7 (.int .u8 n_7)) 8 (.int .i64 n_8)) 9 (.int .i64 n_9)) 10 (.int .i64 n_10)) h = s151_2 c k J l_0 c_0 l_1 c_1 n_5 n_6 n_7 n_8 n_9 n_10 h := by kernel_rfl
theorem w151 {c : Caller Prop FT} (hc : CallOk Go.Proofs.Tryz.prog (CP env) G (fun p => p) c) {k : KV} {n : Nat} {args : List AV} {h : H} (hg : f151 (r151 c k n) 0 (finit args) h) : SW Go.Proofs.Tryz.prog G (.func 151) args h k :=
  fn_ok mixed envOk hc q151 Go.Proofs.Tryz.func151 rfl (by kernel_rfl) (by kernel_rfl) k u151 (fun n => f151 (r151 c k n))
    (fun L f h hl => by
      match L, hl with
      | 0, hl => obtain ⟨_, _, _, hl0⟩ := asS_inv (show _ from hl); obtain ⟨_, _, _, hl1⟩ := asS_inv (show _ from hl0); exact hl1
      | 1, hl => obtain ⟨_, _, _, hl0⟩ := asS_inv (show _ from hl); obtain ⟨_, _, _, hl1⟩ := asS_inv (show _ from hl0); obtain ⟨_, _, hl2⟩ := asI_inv (show _ from hl1); obtain ⟨_, _, hl3⟩ := asI_inv (show _ from hl2); obtain ⟨_, _, hl4⟩ := asI_inv (show _ from hl3); obtain ⟨_, _, hl5⟩ := asI_inv (show _ from hl4); obtain ⟨_, _, hl6⟩ := asI_inv (show _ from hl5); obtain ⟨_, _, hl7⟩ := asI_inv (show _ from hl6); exact hl7
      | 2, hl => obtain ⟨_, _, _, hl0⟩ := asS_inv (show _ from hl); obtain ⟨_, _, _, hl1⟩ := asS_inv (show _ from hl0); obtain ⟨_, _, hl2⟩ := asI_inv (show _ from hl1); obtain ⟨_, _, hl3⟩ := asI_inv (show _ from hl2); obtain ⟨_, _, hl4⟩ := asI_inv (show _ from hl3); obtain ⟨_, _, hl5⟩ := asI_inv (show _ from hl4); obtain ⟨_, _, hl6⟩ := asI_inv (show _ from hl5); obtain ⟨_, _, hl7⟩ := asI_inv (show _ from hl6); exact hl7
      | _ + 3, hl => exact hl)
    (fun n p L hm f h hl => by
      simp only [u151, List.mem_cons, Prod.mk.injEq, List.not_mem_nil, or_false] at hm
      rcases hm with ⟨rfl, rfl⟩ | ⟨rfl, rfl⟩ | ⟨rfl, rfl⟩
      · have hl : f151 (r151 c k (n + 1)) 0 f h := hl
        obtain ⟨l_0, c_0, e_0, hl0⟩ := asS_inv hl
        obtain ⟨l_1, c_1, e_1, hl1⟩ := asS_inv hl0
        have hh := e151_0 c k (r151 c k n) f h l_0 c_0 l_1 c_1
        rw [fset_self e_0] at hh
        rw [fset_self e_1] at hh
        exact Eq.mpr hh hl1
      · have hl : f151 (r151 c k (n + 1)) 1 f h := hl
        obtain ⟨l_0, c_0, e_0, hl0⟩ := asS_inv hl
        obtain ⟨l_1, c_1, e_1, hl1⟩ := asS_inv hl0
        obtain ⟨n_5, e_5, hl2⟩ := asI_inv hl1
        obtain ⟨n_6, e_6, hl3⟩ := asI_inv hl2
        obtain ⟨n_7, e_7, hl4⟩ := asI_inv hl3
        obtain ⟨n_8, e_8, hl5⟩ := asI_inv hl4
        obtain ⟨n_9, e_9, hl6⟩ := asI_inv hl5
        obtain ⟨n_10, e_10, hl7⟩ := asI_inv hl6
        have hh := e151_1 c k (r151 c k n) f h l_0 c_0 l_1 c_1 n_5 n_6 n_7 n_8 n_9 n_10
        rw [fset_self e_0] at hh
        rw [fset_self e_1] at hh
        rw [fset_self e_5] at hh
        rw [fset_self e_6] at hh
        rw [fset_self e_7] at hh
        rw [fset_self e_8] at hh
        rw [fset_self e_9] at hh
        rw [fset_self e_10] at hh
        exact Eq.mpr hh hl7
      · have hl : f151 (r151 c k (n + 1)) 2 f h := hl
        obtain ⟨l_0, c_0, e_0, hl0⟩ := asS_inv hl
        obtain ⟨l_1, c_1, e_1, hl1⟩ := asS_inv hl0
        obtain ⟨n_5, e_5, hl2⟩ := asI_inv hl1
        obtain ⟨n_6, e_6, hl3⟩ := asI_inv hl2
        obtain ⟨n_7, e_7, hl4⟩ := asI_inv hl3
        obtain ⟨n_8, e_8, hl5⟩ := asI_inv hl4
        obtain ⟨n_9, e_9, hl6⟩ := asI_inv hl5
        obtain ⟨n_10, e_10, hl7⟩ := asI_inv hl6
        have hh := e151_2 c k (r151 c k n) f h l_0 c_0 l_1 c_1 n_5 n_6 n_7 n_8 n_9 n_10
        rw [fset_self e_0] at hh
        rw [fset_self e_1] at hh
        rw [fset_self e_5] at hh
        rw [fset_self e_6] at hh
        rw [fset_self e_7] at hh
        rw [fset_self e_8] at hh
        rw [fset_self e_9] at hh
        rw [fset_self e_10] at hh
        exact Eq.mpr hh hl7
    ) (by simp [u151]) hg

theorem w155 {c : Caller Prop FT} (hc : CallOk Go.Proofs.Tryz.prog (CP env) G (fun p => p) c) {k : KV} {m : Nat} {a : List AV} {h : H} (hg : runJ env c q155 u155 d155 (retA env Go.Proofs.Tryz.f155.results.toList k) m 0 (finit a) h) : SW Go.Proofs.Tryz.prog G (.func 155) a h k := fnI_ok mixed envOk hc q155 Go.Proofs.Tryz.func155 rfl (by kernel_rfl) (by kernel_rfl) (by kernel_rfl) (by simp [u155]) hg
theorem e161_0 (c : Caller Prop FT) (k : KV) (J : J161) (f : FT) (h : H) (v_0 : AV) (n_1 : Int) : chunkA env c q161 u161 (f161 J) d161 (retA env Go.Proofs.Tryz.f161.results.toList k) .root (fset (fset f 0 v_0) 1 (.int .i64 n_1)) h = s161_0 c k J v_0 n_1 h := by kernel_rfl
theorem e161_1 (c : Caller Prop FT) (k : KV) (J : J161) (f : FT) (h : H) (v_0 : AV) (n_1 : Int) : chunkA env c q161 u161 (f161 J) d161 (retA env Go.Proofs.Tryz.f161.results.toList k) (.l (.r (.r .root))) (fset (fset f 0 v_0) 1 (.int .i64 n_1)) h = s161_1 c k J v_0 n_1 h := by kernel_rfl
theorem w161 {c : Caller Prop FT} (hc : CallOk Go.Proofs.Tryz.prog (CP env) G (fun p => p) c) {k : KV} {n : Nat} {args : List AV} {h : H} (hg : f161 (r161 c k n) 0 (finit args) h) : SW Go.Proofs.Tryz.prog G (.func 161) args h k :=
  fn_ok mixed envOk hc q161 Go.Proofs.Tryz.func161 rfl (by kernel_rfl) (by kernel_rfl) k u161 (fun n => f161 (r161 c k n))
    (fun L f h hl => by
      match L, hl with
      | 0, hl => obtain ⟨_, _, hl0⟩ := asI_inv (show _ from hl); exact hl0
      | 1, hl => obtain ⟨_, _, hl0⟩ := asI_inv (show _ from hl); exact hl0
      | _ + 2, hl => exact hl)
    (fun n p L hm f h hl => by
      simp only [u161, List.mem_cons, Prod.mk.injEq, List.not_mem_nil, or_false] at hm
      rcases hm with ⟨rfl, rfl⟩ | ⟨rfl, rfl⟩
      · have hl : f161 (r161 c k (n + 1)) 0 f h := hl
        obtain ⟨n_1, e_1, hl1⟩ := asI_inv hl
        have hh := e161_0 c k (r161 c k n) f h (f 0) n_1
        rw [fset_self (rfl : f 0 = f 0)] at hh
        rw [fset_self e_1] at hh
        exact Eq.mpr hh hl1
      · have hl : f161 (r161 c k (n + 1)) 1 f h := hl
        obtain ⟨n_1, e_1, hl1⟩ := asI_inv hl
        have hh := e161_1 c k (r161 c k n) f h (f 0) n_1
        rw [fset_self (rfl : f 0 = f 0)] at hh
        rw [fset_self e_1] at hh
        exact Eq.mpr hh hl1
    ) (by simp [u161]) hg

theorem w162 {c : Caller Prop FT} (hc : CallOk Go.Proofs.Tryz.prog (CP env) G (fun p => p) c) {k : KV} {m : Nat} {a : List AV} {h : H} (hg : runJ env c q162 u162 d162 (retA env Go.Proofs.Tryz.f162.results.toList k) m 0 (finit a) h) : SW Go.Proofs.Tryz.prog G (.func 162) a h k := fnI_ok mixed envOk hc q162 Go.Proofs.Tryz.func162 rfl (by kernel_rfl) (by kernel_rfl) (by kernel_rfl) (by simp [u162]) hg
theorem e171_0 (c : Caller Prop FT) (k : KV) (J : J171) (f : FT) (h : H) (v_0 : AV) : chunkA env c q171 u171 (f171 J) d171 (retA env Go.Proofs.Tryz.f171.results.toList k) .root (fset f 0 v_0) h = s171_0 c k J v_0 h := by kernel_rfl
theorem e171_1 (c : Caller Prop FT) (k : KV) (J : J171) (f : FT) (h : H) (n_2 : Int) (n_3 : Int) : chunkA env c q171 u171 (f171 J) d171 (retA env Go.Proofs.Tryz.f171.results.toList k) (.r (.r (.l (.r (.r (.l (.r (.r (.r .root))))))))) (fset (fset f 2 (.int .i64 n_2)) 3 (.int .i64 n_3)) h = s171_1 c k J n_2 n_3 h := by kernel_rfl
theorem w171 {c : Caller Prop FT} (hc : CallOk Go.Proofs.Tryz.prog (CP env) G (fun p => p) c) {k : KV} {n : Nat} {args : List AV} {h : H} (hg : f171 (r171 c k n) 0 (finit args) h) : SW Go.Proofs.Tryz.prog G (.func 171) args h k :=
  fn_ok mixed envOk hc q171 Go.Proofs.Tryz.func171 rfl (by kernel_rfl) (by kernel_rfl) k u171 (fun n => f171 (r171 c k n))
    (fun L f h hl => by
      match L, hl with
      | 0, hl => exact hl
      | 1, hl => obtain ⟨_, _, hl0⟩ := asI_inv (show _ from hl); obtain ⟨_, _, hl1⟩ := asI_inv (show _ from hl0); exact hl1
      | _ + 2, hl => exact hl)
    (fun n p L hm f h hl => by
      simp only [u171, List.mem_cons, Prod.mk.injEq, List.not_mem_nil, or_false] at hm
      rcases hm with ⟨rfl, rfl⟩ | ⟨rfl, rfl⟩
      · have hl : f171 (r171 c k (n + 1)) 0 f h := hl
        have hh := e171_0 c k (r171 c k n) f h (f 0)
        rw [fset_self (rfl : f 0 = f 0)] at hh
        exact Eq.mpr hh hl
      · have hl : f171 (r171 c k (n + 1)) 1 f h := hl
        obtain ⟨n_2, e_2, hl0⟩ := asI_inv hl
        obtain ⟨n_3, e_3, hl1⟩ := asI_inv hl0
        have hh := e171_1 c k (r171 c k n) f h n_2 n_3
        rw [fset_self e_2] at hh
        rw [fset_self e_3] at hh
        exact Eq.mpr hh hl1
    ) (by simp [u171]) hg

theorem w184 {c : Caller Prop FT} (hc : CallOk Go.Proofs.Tryz.prog (CP env) G (fun p => p) c) {k : KV} {m : Nat} {a : List AV} {h : H} (hg : runJ env c q184 u184 d184 (retA env Go.Proofs.Tryz.f184.results.toList k) m 0 (finit a) h) : SW Go.Proofs.Tryz.prog G (.func 184) a h k := fnI_ok mixed envOk hc q184 Go.Proofs.Tryz.func184 rfl (by kernel_rfl) (by kernel_rfl) (by kernel_rfl) (by simp [u184]) hg
theorem w187 {c : Caller Prop FT} (hc : CallOk Go.Proofs.Tryz.prog (CP env) G (fun p => p) c) {k : KV} {m : Nat} {a : List AV} {h : H} (hg : runJ env c q187 u187 d187 (retA env Go.Proofs.Tryz.f187.results.toList k) m 0 (finit a) h) : SW Go.Proofs.Tryz.prog G (.func 187) a h k := fnI_ok mixed envOk hc q187 Go.Proofs.Tryz.func187 rfl (by kernel_rfl) (by kernel_rfl) (by kernel_rfl) (by simp [u187]) hg
theorem w191 {c : Caller Prop FT} (hc : CallOk Go.Proofs.Tryz.prog (CP env) G (fun p => p) c) {k : KV} {m : Nat} {a : List AV} {h : H} (hg : runJ env c q191 u191 d191 (retA env Go.Proofs.Tryz.f191.results.toList k) m 0 (finit a) h) : SW Go.Proofs.Tryz.prog G (.func 191) a h k := fnI_ok mixed envOk hc q191 Go.Proofs.Tryz.func191 rfl (by kernel_rfl) (by kernel_rfl) (by kernel_rfl) (by simp [u191]) hg
theorem w202 {c : Caller Prop FT} (hc : CallOk Go.Proofs.Tryz.prog (CP env) G (fun p => p) c) {k : KV} {m : Nat} {a : List AV} {h : H} (hg : runJ env c q202 u202 d202 (retA env Go.Proofs.Tryz.f202.results.toList k) m 0 (finit a) h) : SW Go.Proofs.Tryz.prog G (.func 202) a h k := fnI_ok mixed envOk hc q202 Go.Proofs.Tryz.func202 rfl (by kernel_rfl) (by kernel_rfl) (by kernel_rfl) (by simp [u202]) hg
theorem e211_0 (c : Caller Prop FT) (k : KV) (J : J211) (f : FT) (h : H) (v_0 : AV) : chunkA env c q211 u211 (f211 J) d211 (retA env Go.Proofs.Tryz.f211.results.toList k) .root (fset f 0 v_0) h = s211_0 c k J v_0 h := by kernel_rfl
theorem w211 {c : Caller Prop FT} (hc : CallOk Go.Proofs.Tryz.prog (CP env) G (fun p => p) c) {k : KV} {n : Nat} {args : List AV} {h : H} (hg : f211 (r211 c k n) 0 (finit args) h) : SW Go.Proofs.Tryz.prog G (.func 211) args h k :=
  fn_ok mixed envOk hc q211 Go.Proofs.Tryz.func211 rfl (by kernel_rfl) (by kernel_rfl) k u211 (fun n => f211 (r211 c k n))
    (fun L f h hl => by
      match L, hl with
      | 0, hl => exact hl
      | _ + 1, hl => exact hl)
    (fun n p L hm f h hl => by
      simp only [u211, List.mem_cons, Prod.mk.injEq, List.not_mem_nil, or_false] at hm
      rcases hm with ⟨rfl, rfl⟩
      · have hl : f211 (r211 c k (n + 1)) 0 f h := hl
        have hh := e211_0 c k (r211 c k n) f h (f 0)
        rw [fset_self (rfl : f 0 = f 0)] at hh
        exact Eq.mpr hh hl
    ) (by simp [u211]) hg

theorem e212_0 (c : Caller Prop FT) (k : KV) (J : J212) (f : FT) (h : H) (v_0 : AV) (n_1 : Int) (n_2 : Int) : chunkA env c q212 u212 (f212 J) d212 (retA env Go.Proofs.Tryz.f212.results.toList k) .root (fset (fset (fset f 0 v_0) 1 (.int .i64 n_1)) 2 (.int .i64 n_2)) h = s212_0 c k J v_0 n_1 n_2 h := by kernel_rfl
theorem w212 {c : Caller Prop FT} (hc : CallOk Go.Proofs.Tryz.prog (CP env) G (fun p => p) c) {k : KV} {n : Nat} {args : List AV} {h : H} (hg : f212 (r212 c k n) 0 (finit args) h) : SW Go.Proofs.Tryz.prog G (.func 212) args h k :=
  fn_ok mixed envOk hc q212 Go.Proofs.Tryz.func212 rfl (by kernel_rfl) (by kernel_rfl) k u212 (fun n => f212 (r212 c k n))
    (fun L f h hl => by
      match L, hl with
      | 0, hl => obtain ⟨_, _, hl0⟩ := asI_inv (show _ from hl); obtain ⟨_, _, hl1⟩ := asI_inv (show _ from hl0); exact hl1
      | _ + 1, hl => exact hl)
    (fun n p L hm f h hl => by
      simp only [u212, List.mem_cons, Prod.mk.injEq, List.not_mem_nil, or_false] at hm
      rcases hm with ⟨rfl, rfl⟩
      · have hl : f212 (r212 c k (n + 1)) 0 f h := hl
        obtain ⟨n_1, e_1, hl1⟩ := asI_inv hl
        obtain ⟨n_2, e_2, hl2⟩ := asI_inv hl1
        have hh := e212_0 c k (r212 c k n) f h (f 0) n_1 n_2
        rw [fset_self (rfl : f 0 = f 0)] at hh
        rw [fset_self e_1] at hh
        rw [fset_self e_2] at hh
        exact Eq.mpr hh hl2
    ) (by simp [u212]) hg

theorem e214_0 (c : Caller Prop FT) (k : KV) (J : J214) (f : FT) (h : H) (v_0 : AV) : chunkA env c q214 u214 (f214 J) d214 (retA env Go.Proofs.Tryz.f214.results.toList k) .root (fset f 0 v_0) h = s214_0 c k J v_0 h := by kernel_rfl
theorem e214_1 (c : Caller Prop FT) (k : KV) (J : J214) (f : FT) (h : H) (v_0 : AV) (v_6 : AV) (n_7 : Int) (n_8 : Int) : chunkA env c q214 u214 (f214 J) d214 (retA env Go.Proofs.Tryz.f214.results.toList k) (.l (.r (.l (.r .root)))) (fset (fset (fset (fset f 0 v_0) 6 v_6) 7 (.int .i64 n_7)) 8 (.int .i64 n_8)) h = s214_1 c k J v_0 v_6 n_7 n_8 h := by kernel_rfl
theorem w214 {c : Caller Prop FT} (hc : CallOk Go.Proofs.Tryz.prog (CP env) G (fun p => p) c) {k : KV} {n : Nat} {args : List AV} {h : H} (hg : f214 (r214 c k n) 0 (finit args) h) : SW Go.Proofs.Tryz.prog G (.func 214) args h k :=
  fn_ok mixed envOk hc q214 Go.Proofs.Tryz.func214 rfl (by kernel_rfl) (by kernel_rfl) k u214 (fun n => f214 (r214 c k n))
    (fun L f h hl => by
      match L, hl with
      | 0, hl => exact hl
      | 1, hl => obtain ⟨_, _, hl0⟩ := asI_inv (show _ from hl); obtain ⟨_, _, hl1⟩ := asI_inv (show _ from hl0); exact hl1
      | _ + 2, hl => exact hl)
    (fun n p L hm f h hl => by
      simp only [u214, List.mem_cons, Prod.mk.injEq, List.not_mem_nil, or_false] at hm
      rcases hm with ⟨rfl, rfl⟩ | ⟨rfl, rfl⟩
      · have hl : f214 (r214 c k (n + 1)) 0 f h := hl
        have hh := e214_0 c k (r214 c k n) f h (f 0)
        rw [fset_self (rfl : f 0 = f 0)] at hh
        exact Eq.mpr hh hl
      · have hl : f214 (r214 c k (n + 1)) 1 f h := hl
        obtain ⟨n_7, e_7, hl2⟩ := asI_inv hl
        obtain ⟨n_8, e_8, hl3⟩ := asI_inv hl2
        have hh := e214_1 c k (r214 c k n) f h (f 0) (f 6) n_7 n_8
        rw [fset_self (rfl : f 0 = f 0)] at hh
        rw [fset_self (rfl : f 6 = f 6)] at hh
        rw [fset_self e_7] at hh
        rw [fset_self e_8] at hh
        exact Eq.mpr hh hl3
    ) (by simp [u214]) hg

theorem w215 {c : Caller Prop FT} (hc : CallOk Go.Proofs.Tryz.prog (CP env) G (fun p => p) c) {k : KV} {m : Nat} {a : List AV} {h : H} (hg : runJ env c q215 u215 d215 (retA env Go.Proofs.Tryz.f215.results.toList k) m 0 (finit a) h) : SW Go.Proofs.Tryz.prog G (.func 215) a h k := fnI_ok mixed envOk hc q215 Go.Proofs.Tryz.func215 rfl (by kernel_rfl) (by kernel_rfl) (by kernel_rfl) (by simp [u215]) hg
theorem w234 {c : Caller Prop FT} (hc : CallOk Go.Proofs.Tryz.prog (CP env) G (fun p => p) c) {k : KV} {m : Nat} {a : List AV} {h : H} (hg : runJ env c q234 u234 d234 (retA env Go.Proofs.Tryz.f234.results.toList k) m 0 (finit a) h) : SW Go.Proofs.Tryz.prog G (.func 234) a h k := fnI_ok mixed envOk hc q234 Go.Proofs.Tryz.func234 rfl (by kernel_rfl) (by kernel_rfl) (by kernel_rfl) (by simp [u234]) hg
theorem w238 {c : Caller Prop FT} (hc : CallOk Go.Proofs.Tryz.prog (CP env) G (fun p => p) c) {k : KV} {m : Nat} {a : List AV} {h : H} (hg : runJ env c q238 u238 d238 (retA env Go.Proofs.Tryz.f238.results.toList k) m 0 (finit a) h) : SW Go.Proofs.Tryz.prog G (.func 238) a h k := fnI_ok mixed envOk hc q238 Go.Proofs.Tryz.func238 rfl (by kernel_rfl) (by kernel_rfl) (by kernel_rfl) (by simp [u238]) hg
theorem e240_0 (c : Caller Prop FT) (k : KV) (J : J240) (f : FT) (h : H) (v_0 : AV) (v_1 : AV) : chunkA env c q240 u240 (f240 J) d240 (retA env Go.Proofs.Tryz.f240.results.toList k) .root (fset (fset f 0 v_0) 1 v_1) h = s240_0 c k J v_0 v_1 h := by kernel_rfl
theorem e240_1 (c : Caller Prop FT) (k : KV) (J : J240) (f : FT) (h : H) (v_0 : AV) (v_1 : AV) (l_6 : Nat) (c_6 : Nat) : chunkA env c q240 u240 (f240 J) d240 (retA env Go.Proofs.Tryz.f240.results.toList k) (.r (.r (.r (.r (.r (.r (.l (.r .root)))))))) (fset (fset (fset f 0 v_0) 1 v_1) 6 (.str l_6 c_6)) h = s240_1 c k J v_0 v_1 l_6 c_6 h := by kernel_rfl
theorem e240_2 (c : Caller Prop FT) (k : KV) (J : J240) (f : FT) (h : H) (v_0 : AV) (v_1 : AV) : chunkA env c q240 u240 (f240 J) d240 (retA env Go.Proofs.Tryz.f240.results.toList k) (.lab (.r .root) 0) (fset (fset f 0 v_0) 1 v_1) h = s240_2 c k J v_0 v_1 h := by kernel_rfl
theorem e240_3 (c : Caller Prop FT) (k : KV) (J : J240) (f : FT) (h : H) (v_0 : AV) (v_1 : AV) (l_6 : Nat) (c_6 : Nat) : chunkA env c q240 u240 (f240 J) d240 (retA env Go.Proofs.Tryz.f240.results.toList k) (.r (.r (.r (.r (.lab (.r .root) 0))))) (fset (fset (fset f 0 v_0) 1 v_1) 6 (.str l_6 c_6)) h = s240_3 c k J v_0 v_1 l_6 c_6 h := by kernel_rfl
theorem w240 {c : Caller Prop FT} (hc : CallOk Go.Proofs.Tryz.prog (CP env) G (fun p => p) c) {k : KV} {n : Nat} {args : List AV} {h : H} (hg : f240 (r240 c k n) 0 (finit args) h) : SW Go.Proofs.Tryz.prog G (.func 240) args h k :=
  fn_ok mixed envOk hc q240 Go.Proofs.Tryz.func240 rfl (by kernel_rfl) (by kernel_rfl) k u240 (fun n => f240 (r240 c k n))
    (fun L f h hl => by
      match L, hl with
      | 0, hl => exact hl
      | 1, hl => obtain ⟨_, _, _, hl0⟩ := asS_inv (show _ from hl); exact hl0
      | 2, hl => exact hl
      | 3, hl => obtain ⟨_, _, _, hl0⟩ := asS_inv (show _ from hl); exact hl0
      | _ + 4, hl => exact hl)
    (fun n p L hm f h hl => by
      simp only [u240, List.mem_cons, Prod.mk.injEq, List.not_mem_nil, or_false] at hm
      rcases hm with ⟨rfl, rfl⟩ | ⟨rfl, rfl⟩ | ⟨rfl, rfl⟩ | ⟨rfl, rfl⟩
      · have hl : f240 (r240 c k (n + 1)) 0 f h := hl
        have hh := e240_0 c k (r240 c k n) f h (f 0) (f 1)
        rw [fset_self (rfl : f 0 = f 0)] at hh
        rw [fset_self (rfl : f 1 = f 1)] at hh
        exact Eq.mpr hh hl
      · have hl : f240 (r240 c k (n + 1)) 1 f h := hl
        obtain ⟨l_6, c_6, e_6, hl2⟩ := asS_inv hl
        have hh := e240_1 c k (r240 c k n) f h (f 0) (f 1) l_6 c_6
        rw [fset_self (rfl : f 0 = f 0)] at hh
        rw [fset_self (rfl : f 1 = f 1)] at hh
        rw [fset_self e_6] at hh
        exact Eq.mpr hh hl2
      · have hl : f240 (r240 c k (n + 1)) 2 f h := hl
        have hh := e240_2 c k (r240 c k n) f h (f 0) (f 1)
        rw [fset_self (rfl : f 0 = f 0)] at hh
        rw [fset_self (rfl : f 1 = f 1)] at hh
        exact Eq.mpr hh hl
      · have hl : f240 (r240 c k (n + 1)) 3 f h := hl
        obtain ⟨l_6, c_6, e_6, hl2⟩ := asS_inv hl
        have hh := e240_3 c k (r240 c k n) f h (f 0) (f 1) l_6 c_6
        rw [fset_self (rfl : f 0 = f 0)] at hh
        rw [fset_self (rfl : f 1 = f 1)] at hh
        rw [fset_self e_6] at hh
        exact Eq.mpr hh hl2
    ) (by simp [u240]) hg

theorem e241_0 (c : Caller Prop FT) (k : KV) (J : J241) (f : FT) (h : H) (v_0 : AV) (n_1 : Int) : chunkA env c q241 u241 (f241 J) d241 (retA env Go.Proofs.Tryz.f241.results.toList k) .root (fset (fset f 0 v_0) 1 (.int .i64 n_1)) h = s241_0 c k J v_0 n_1 h := by kernel_rfl
theorem w241 {c : Caller Prop FT} (hc : CallOk Go.Proofs.Tryz.prog (CP env) G (fun p => p) c) {k : KV} {n : Nat} {args : List AV} {h : H} (hg : f241 (r241 c k n) 0 (finit args) h) : SW Go.Proofs.Tryz.prog G (.func 241) args h k :=
  fn_ok mixed envOk hc q241 Go.Proofs.Tryz.func241 rfl (by kernel_rfl) (by kernel_rfl) k u241 (fun n => f241 (r241 c k n))
    (fun L f h hl => by
      match L, hl with
      | 0, hl => obtain ⟨_, _, hl0⟩ := asI_inv (show _ from hl); exact hl0
      | _ + 1, hl => exact hl)
    (fun n p L hm f h hl => by
      simp only [u241, List.mem_cons, Prod.mk.injEq, List.not_mem_nil, or_false] at hm
      rcases hm with ⟨rfl, rfl⟩
      · have hl : f241 (r241 c k (n + 1)) 0 f h := hl
        obtain ⟨n_1, e_1, hl1⟩ := asI_inv hl
        have hh := e241_0 c k (r241 c k n) f h (f 0) n_1
        rw [fset_self (rfl : f 0 = f 0)] at hh
        rw [fset_self e_1] at hh
        exact Eq.mpr hh hl1
    ) (by simp [u241]) hg

theorem e242_0 (c : Caller Prop FT) (k : KV) (J : J242) (f : FT) (h : H) (v_0 : AV) : chunkA env c q242 u242 (f242 J) d242 (retA env Go.Proofs.Tryz.f242.results.toList k) .root (fset f 0 v_0) h = s242_0 c k J v_0 h := by kernel_rfl
theorem w242 {c : Caller Prop FT} (hc : CallOk Go.Proofs.Tryz.prog (CP env) G (fun p => p) c) {k : KV} {n : Nat} {args : List AV} {h : H} (hg : f242 (r242 c k n) 0 (finit args) h) : SW Go.Proofs.Tryz.prog G (.func 242) args h k :=
  fn_ok mixed envOk hc q242 Go.Proofs.Tryz.func242 rfl (by kernel_rfl) (by kernel_rfl) k u242 (fun n => f242 (r242 c k n))
    (fun L f h hl => by
      match L, hl with
      | 0, hl => exact hl
      | _ + 1, hl => exact hl)
    (fun n p L hm f h hl => by
      simp only [u242, List.mem_cons, Prod.mk.injEq, List.not_mem_nil, or_false] at hm
      rcases hm with ⟨rfl, rfl⟩
      · have hl : f242 (r242 c k (n + 1)) 0 f h := hl
        have hh := e242_0 c k (r242 c k n) f h (f 0)
        rw [fset_self (rfl : f 0 = f 0)] at hh
        exact Eq.mpr hh hl
    ) (by simp [u242]) hg

theorem e258_0 (c : Caller Prop FT) (k : KV) (J : J258) (f : FT) (h : H) (b_0 : Bool) : chunkA env c q258 u258 (f258 J) d258 (retA env Go.Proofs.Tryz.f258.results.toList k) .root (fset f 0 (.bool b_0)) h = s258_0 c k J b_0 h := by kernel_rfl
theorem w258 {c : Caller Prop FT} (hc : CallOk Go.Proofs.Tryz.prog (CP env) G (fun p => p) c) {k : KV} {n : Nat} {args : List AV} {h : H} (hg : f258 (r258 c k n) 0 (finit args) h) : SW Go.Proofs.Tryz.prog G (.func 258) args h k :=
  fn_ok mixed envOk hc q258 Go.Proofs.Tryz.func258 rfl (by kernel_rfl) (by kernel_rfl) k u258 (fun n => f258 (r258 c k n))
    (fun L f h hl => by
      match L, hl with
      | 0, hl => obtain ⟨_, _, hl0⟩ := asB_inv (show _ from hl); exact hl0
      | _ + 1, hl => exact hl)
    (fun n p L hm f h hl => by
      simp only [u258, List.mem_cons, Prod.mk.injEq, List.not_mem_nil, or_false] at hm
      rcases hm with ⟨rfl, rfl⟩
      · have hl : f258 (r258 c k (n + 1)) 0 f h := hl
        obtain ⟨b_0, e_0, hl0⟩ := asB_inv hl
        have hh := e258_0 c k (r258 c k n) f h b_0
        rw [fset_self e_0] at hh
        exact Eq.mpr hh hl0
    ) (by simp [u258]) hg

theorem w261 {c : Caller Prop FT} (hc : CallOk Go.Proofs.Tryz.prog (CP env) G (fun p => p) c) {k : KV} {m : Nat} {a : List AV} {h : H} (hg : runJ env c q261 u261 d261 (retA env Go.Proofs.Tryz.f261.results.toList k) m 0 (finit a) h) : SW Go.Proofs.Tryz.prog G (.func 261) a h k := fnI_ok mixed envOk hc q261 Go.Proofs.Tryz.func261 rfl (by kernel_rfl) (by kernel_rfl) (by kernel_rfl) (by simp [u261]) hg
theorem w266 {c : Caller Prop FT} (hc : CallOk Go.Proofs.Tryz.prog (CP env) G (fun p => p) c) {k : KV} {m : Nat} {a : List AV} {h : H} (hg : runJ env c q266 u266 d266 (retA env Go.Proofs.Tryz.f266.results.toList k) m 0 (finit a) h) : SW Go.Proofs.Tryz.prog G (.func 266) a h k := fnI_ok mixed envOk hc q266 Go.Proofs.Tryz.func266 rfl (by kernel_rfl) (by kernel_rfl) (by kernel_rfl) (by simp [u266]) hg
theorem w289 {c : Caller Prop FT} (hc : CallOk Go.Proofs.Tryz.prog (CP env) G (fun p => p) c) {k : KV} {m : Nat} {a : List AV} {h : H} (hg : runJ env c q289 u289 d289 (retA env Go.Proofs.Tryz.f289.results.toList k) m 0 (finit a) h) : SW Go.Proofs.Tryz.prog G (.func 289) a h k := fnI_ok mixed envOk hc q289 Go.Proofs.Tryz.func289 rfl (by kernel_rfl) (by kernel_rfl) (by kernel_rfl) (by simp [u289]) hg
theorem w292 {c : Caller Prop FT} (hc : CallOk Go.Proofs.Tryz.prog (CP env) G (fun p => p) c) {k : KV} {m : Nat} {a : List AV} {h : H} (hg : runJ env c q292 u292 d292 (retA env Go.Proofs.Tryz.f292.results.toList k) m 0 (finit a) h) : SW Go.Proofs.Tryz.prog G (.func 292) a h k := fnI_ok mixed envOk hc q292 Go.Proofs.Tryz.func292 rfl (by kernel_rfl) (by kernel_rfl) (by kernel_rfl) (by simp [u292]) hg
theorem w298 {c : Caller Prop FT} (hc : CallOk Go.Proofs.Tryz.prog (CP env) G (fun p => p) c) {k : KV} {m : Nat} {a : List AV} {h : H} (hg : runJ env c q298 u298 d298 (retA env Go.Proofs.Tryz.f298.results.toList k) m 0 (finit a) h) : SW Go.Proofs.Tryz.prog G (.func 298) a h k := fnI_ok mixed envOk hc q298 Go.Proofs.Tryz.func298 rfl (by kernel_rfl) (by kernel_rfl) (by kernel_rfl) (by simp [u298]) hg
theorem w305 {c : Caller Prop FT} (hc : CallOk Go.Proofs.Tryz.prog (CP env) G (fun p => p) c) {k : KV} {m : Nat} {a : List AV} {h : H} (hg : runJ env c q305 u305 d305 (retA env Go.Proofs.Tryz.f305.results.toList k) m 0 (finit a) h) : SW Go.Proofs.Tryz.prog G (.func 305) a h k := fnI_ok mixed envOk hc q305 Go.Proofs.Tryz.func305 rfl (by kernel_rfl) (by kernel_rfl) (by kernel_rfl) (by simp [u305]) hg
theorem w323 {c : Caller Prop FT} (hc : CallOk Go.Proofs.Tryz.prog (CP env) G (fun p => p) c) {k : KV} {m : Nat} {a : List AV} {h : H} (hg : runJ env c q323 u323 d323 (retA env Go.Proofs.Tryz.f323.results.toList k) m 0 (finit a) h) : SW Go.Proofs.Tryz.prog G (.func 323) a h k := fnI_ok mixed envOk hc q323 Go.Proofs.Tryz.func323 rfl (by kernel_rfl) (by kernel_rfl) (by kernel_rfl) (by simp [u323]) hg
theorem w335 {c : Caller Prop FT} (hc : CallOk Go.Proofs.Tryz.prog (CP env) G (fun p => p) c) {k : KV} {m : Nat} {a : List AV} {h : H} (hg : runJ env c q335 u335 d335 (retA env Go.Proofs.Tryz.f335.results.toList k) m 0 (finit a) h) : SW Go.Proofs.Tryz.prog G (.func 335) a h k := fnI_ok mixed envOk hc q335 Go.Proofs.Tryz.func335 rfl (by kernel_rfl) (by kernel_rfl) (by kernel_rfl) (by simp [u335]) hg
theorem w353 {c : Caller Prop FT} (hc : CallOk Go.Proofs.Tryz.prog (CP env) G (fun p => p) c) {k : KV} {m : Nat} {a : List AV} {h : H} (hg : runJ env c q353 u353 d353 (retA env Go.Proofs.Tryz.f353.results.toList k) m 0 (finit a) h) : SW Go.Proofs.Tryz.prog G (.func 353) a h k := fnI_ok mixed envOk hc q353 Go.Proofs.Tryz.func353 rfl (by kernel_rfl) (by kernel_rfl) (by kernel_rfl) (by simp [u353]) hg
theorem w356 {c : Caller Prop FT} (hc : CallOk Go.Proofs.Tryz.prog (CP env) G (fun p => p) c) {k : KV} {m : Nat} {a : List AV} {h : H} (hg : runJ env c q356 u356 d356 (retA env Go.Proofs.Tryz.f356.results.toList k) m 0 (finit a) h) : SW Go.Proofs.Tryz.prog G (.func 356) a h k := fnI_ok mixed envOk hc q356 Go.Proofs.Tryz.func356 rfl (by kernel_rfl) (by kernel_rfl) (by kernel_rfl) (by simp [u356]) hg
end Go.Den
