/-
  A part of the proof: the pieces are what the program does.
-/
import Derived.Test.YtpnfpdmkladmpaaGreatDoorTaA1
import Derived.Test.YtpnfpdmkladmpaaGreatDoorTaA2
import Derived.KernelRfl
namespace Go.Den
set_option maxRecDepth 100000
theorem e6_0 (c : Caller Prop FT) (k : KV) (J : J6) (f : FT) (h : H) (n_0 : Int) (n_1 : Int) : chunkA env c q6 u6 (f6 J) d6 (retA env Go.Proofs.Tryz.f6.results.toList k) .root (fset (fset f 0 (.int .i64 n_0)) 1 (.int .i64 n_1)) h = s6_0 c k J n_0 n_1 h := by kernel_rfl
theorem e6_1 (c : Caller Prop FT) (k : KV) (J : J6) (f : FT) (h : H) (n_0 : Int) (n_1 : Int) (v_5 : AV) (v_6 : AV) (l_7 : Nat) (c_7 : Nat) (n_8 : Int) : chunkA env c q6 u6 (f6 J) d6 (retA env Go.Proofs.Tryz.f6.results.toList k) (.l (.r (.l (.r (.r (.r (.r (.r .root)))))))) (fset (fset (fset (fset (fset (fset f 0 (.int .i64 n_0)) 1 (.int .i64 n_1)) 5 v_5) 6 v_6) 7 (.str l_7 c_7)) 8 (.int .i64 n_8)) h = s6_1 c k J n_0 n_1 v_5 v_6 l_7 c_7 n_8 h := by kernel_rfl
theorem e6_2 (c : Caller Prop FT) (k : KV) (J : J6) (f : FT) (h : H) (n_0 : Int) (v_5 : AV) (n_9 : Int) (n_10 : Int) (v_14 : AV) : chunkA env c q6 u6 (f6 J) d6 (retA env Go.Proofs.Tryz.f6.results.toList k) (.r (.r (.r (.r (.r (.r (.r (.r (.r (.r (.r (.r (.r .root))))))))))))) (fset (fset (fset (fset (fset f 0 (.int .i64 n_0)) 5 v_5) 9 (.int .i64 n_9)) 10 (.int .i64 n_10)) 14 v_14) h = s6_2 c k J n_0 v_5 n_9 n_10 v_14 h := by kernel_rfl
theorem w6 {c : Caller Prop FT} (hc : CallOk Go.Proofs.Tryz.prog (CP env) G (fun p => p) c) {k : KV} {n : Nat} {args : List AV} {h : H} (hg : f6 (r6 c k n) 0 (finit args) h) : SW Go.Proofs.Tryz.prog G (.func 6) args h k :=
  fn_ok mixed envOk hc q6 Go.Proofs.Tryz.func6 rfl (by kernel_rfl) (by kernel_rfl) k u6 (fun n => f6 (r6 c k n))
    (fun L f h hl => by
      match L, hl with
      | 0, hl => obtain ⟨_, _, hl0⟩ := asI_inv (show _ from hl); obtain ⟨_, _, hl1⟩ := asI_inv (show _ from hl0); exact hl1
      | 1, hl => obtain ⟨_, _, hl0⟩ := asI_inv (show _ from hl); obtain ⟨_, _, hl1⟩ := asI_inv (show _ from hl0); obtain ⟨_, _, _, hl2⟩ := asS_inv (show _ from hl1); obtain ⟨_, _, hl3⟩ := asI_inv (show _ from hl2); exact hl3
      | 2, hl => obtain ⟨_, _, hl0⟩ := asI_inv (show _ from hl); obtain ⟨_, _, hl1⟩ := asI_inv (show _ from hl0); obtain ⟨_, _, hl2⟩ := asI_inv (show _ from hl1); exact hl2
      | _ + 3, hl => exact hl)
    (fun n p L hm f h hl => by
      simp only [u6, List.mem_cons, Prod.mk.injEq, List.not_mem_nil, or_false] at hm
      rcases hm with ⟨rfl, rfl⟩ | ⟨rfl, rfl⟩ | ⟨rfl, rfl⟩
      · have hl : f6 (r6 c k (n + 1)) 0 f h := hl
        obtain ⟨n_0, e_0, hl0⟩ := asI_inv hl
        obtain ⟨n_1, e_1, hl1⟩ := asI_inv hl0
        have hh := e6_0 c k (r6 c k n) f h n_0 n_1
        rw [fset_self e_0] at hh
        rw [fset_self e_1] at hh
        exact Eq.mpr hh hl1
      · have hl : f6 (r6 c k (n + 1)) 1 f h := hl
        obtain ⟨n_0, e_0, hl0⟩ := asI_inv hl
        obtain ⟨n_1, e_1, hl1⟩ := asI_inv hl0
        obtain ⟨l_7, c_7, e_7, hl4⟩ := asS_inv hl1
        obtain ⟨n_8, e_8, hl5⟩ := asI_inv hl4
        have hh := e6_1 c k (r6 c k n) f h n_0 n_1 (f 5) (f 6) l_7 c_7 n_8
        rw [fset_self e_0] at hh
        rw [fset_self e_1] at hh
        rw [fset_self (rfl : f 5 = f 5)] at hh
        rw [fset_self (rfl : f 6 = f 6)] at hh
        rw [fset_self e_7] at hh
        rw [fset_self e_8] at hh
        exact Eq.mpr hh hl5
      · have hl : f6 (r6 c k (n + 1)) 2 f h := hl
        obtain ⟨n_0, e_0, hl0⟩ := asI_inv hl
        obtain ⟨n_9, e_9, hl2⟩ := asI_inv hl0
        obtain ⟨n_10, e_10, hl3⟩ := asI_inv hl2
        have hh := e6_2 c k (r6 c k n) f h n_0 (f 5) n_9 n_10 (f 14)
        rw [fset_self e_0] at hh
        rw [fset_self (rfl : f 5 = f 5)] at hh
        rw [fset_self e_9] at hh
        rw [fset_self e_10] at hh
        rw [fset_self (rfl : f 14 = f 14)] at hh
        exact Eq.mpr hh hl3
    ) (by simp [u6]) hg

theorem e8_0 (c : Caller Prop FT) (k : KV) (J : J8) (f : FT) (h : H) (n_0 : Int) (n_1 : Int) : chunkA env c q8 u8 (f8 J) d8 (retA env Go.Proofs.Tryz.f8.results.toList k) .root (fset (fset f 0 (.int .i64 n_0)) 1 (.int .i64 n_1)) h = s8_0 c k J n_0 n_1 h := by kernel_rfl
theorem w8 {c : Caller Prop FT} (hc : CallOk Go.Proofs.Tryz.prog (CP env) G (fun p => p) c) {k : KV} {n : Nat} {args : List AV} {h : H} (hg : f8 (r8 c k n) 0 (finit args) h) : SW Go.Proofs.Tryz.prog G (.func 8) args h k :=
  fn_ok mixed envOk hc q8 Go.Proofs.Tryz.func8 rfl (by kernel_rfl) (by kernel_rfl) k u8 (fun n => f8 (r8 c k n))
    (fun L f h hl => by
      match L, hl with
      | 0, hl => obtain ⟨_, _, hl0⟩ := asI_inv (show _ from hl); obtain ⟨_, _, hl1⟩ := asI_inv (show _ from hl0); exact hl1
      | _ + 1, hl => exact hl)
    (fun n p L hm f h hl => by
      simp only [u8, List.mem_cons, Prod.mk.injEq, List.not_mem_nil, or_false] at hm
      rcases hm with ⟨rfl, rfl⟩
      · have hl : f8 (r8 c k (n + 1)) 0 f h := hl
        obtain ⟨n_0, e_0, hl0⟩ := asI_inv hl
        obtain ⟨n_1, e_1, hl1⟩ := asI_inv hl0
        have hh := e8_0 c k (r8 c k n) f h n_0 n_1
        rw [fset_self e_0] at hh
        rw [fset_self e_1] at hh
        exact Eq.mpr hh hl1
    ) (by simp [u8]) hg

theorem e11_0 (c : Caller Prop FT) (k : KV) (J : J11) (f : FT) (h : H) : chunkA env c q11 u11 (f11 J) d11 (retA env Go.Proofs.Tryz.f11.results.toList k) .root f h = s11_0 c k J  h := by kernel_rfl
theorem w11 {c : Caller Prop FT} (hc : CallOk Go.Proofs.Tryz.prog (CP env) G (fun p => p) c) {k : KV} {n : Nat} {args : List AV} {h : H} (hg : f11 (r11 c k n) 0 (finit args) h) : SW Go.Proofs.Tryz.prog G (.func 11) args h k :=
  fn_ok mixed envOk hc q11 Go.Proofs.Tryz.func11 rfl (by kernel_rfl) (by kernel_rfl) k u11 (fun n => f11 (r11 c k n))
    (fun L f h hl => by
      match L, hl with
      | 0, hl => exact hl
      | _ + 1, hl => exact hl)
    (fun n p L hm f h hl => by
      simp only [u11, List.mem_cons, Prod.mk.injEq, List.not_mem_nil, or_false] at hm
      rcases hm with ⟨rfl, rfl⟩
      · have hl : f11 (r11 c k (n + 1)) 0 f h := hl
        have hh := e11_0 c k (r11 c k n) f h 
        exact Eq.mpr hh hl
    ) (by simp [u11]) hg

theorem e14_0 (c : Caller Prop FT) (k : KV) (J : J14) (f : FT) (h : H) (v_0 : AV) (l_1 : Nat) (c_1 : Nat) (v_2 : AV) : chunkA env c q14 u14 (f14 J) d14 (retA env Go.Proofs.Tryz.f14.results.toList k) .root (fset (fset (fset f 0 v_0) 1 (.str l_1 c_1)) 2 v_2) h = s14_0 c k J v_0 l_1 c_1 v_2 h := by kernel_rfl
theorem w14 {c : Caller Prop FT} (hc : CallOk Go.Proofs.Tryz.prog (CP env) G (fun p => p) c) {k : KV} {n : Nat} {args : List AV} {h : H} (hg : f14 (r14 c k n) 0 (finit args) h) : SW Go.Proofs.Tryz.prog G (.func 14) args h k :=
  fn_ok mixed envOk hc q14 Go.Proofs.Tryz.func14 rfl (by kernel_rfl) (by kernel_rfl) k u14 (fun n => f14 (r14 c k n))
    (fun L f h hl => by
      match L, hl with
      | 0, hl => obtain ⟨_, _, _, hl0⟩ := asS_inv (show _ from hl); exact hl0
      | _ + 1, hl => exact hl)
    (fun n p L hm f h hl => by
      simp only [u14, List.mem_cons, Prod.mk.injEq, List.not_mem_nil, or_false] at hm
      rcases hm with ⟨rfl, rfl⟩
      · have hl : f14 (r14 c k (n + 1)) 0 f h := hl
        obtain ⟨l_1, c_1, e_1, hl1⟩ := asS_inv hl
        have hh := e14_0 c k (r14 c k n) f h (f 0) l_1 c_1 (f 2)
        rw [fset_self (rfl : f 0 = f 0)] at hh
        rw [fset_self e_1] at hh
        rw [fset_self (rfl : f 2 = f 2)] at hh
        exact Eq.mpr hh hl1
    ) (by simp [u14]) hg

theorem w16 {c : Caller Prop FT} (hc : CallOk Go.Proofs.Tryz.prog (CP env) G (fun p => p) c) {k : KV} {m : Nat} {a : List AV} {h : H} (hg : runJ env c q16 u16 d16 (retA env Go.Proofs.Tryz.f16.results.toList k) m 0 (finit a) h) : SW Go.Proofs.Tryz.prog G (.func 16) a h k := fnI_ok mixed envOk hc q16 Go.Proofs.Tryz.func16 rfl (by kernel_rfl) (by kernel_rfl) (by kernel_rfl) (by simp [u16]) hg
theorem w19 {c : Caller Prop FT} (hc : CallOk Go.Proofs.Tryz.prog (CP env) G (fun p => p) c) {k : KV} {m : Nat} {a : List AV} {h : H} (hg : runJ env c q19 u19 d19 (retA env Go.Proofs.Tryz.f19.results.toList k) m 0 (finit a) h) : SW Go.Proofs.Tryz.prog G (.func 19) a h k := fnI_ok mixed envOk hc q19 Go.Proofs.Tryz.func19 rfl (by kernel_rfl) (by kernel_rfl) (by kernel_rfl) (by simp [u19]) hg
theorem e24_0 (c : Caller Prop FT) (k : KV) (J : J24) (f : FT) (h : H) (v_0 : AV) (l_1 : Nat) (c_1 : Nat) (l_2 : Nat) (c_2 : Nat) : chunkA env c q24 u24 (f24 J) d24 (retA env Go.Proofs.Tryz.f24.results.toList k) .root (fset (fset (fset f 0 v_0) 1 (.str l_1 c_1)) 2 (.str l_2 c_2)) h = s24_0 c k J v_0 l_1 c_1 l_2 c_2 h := by kernel_rfl
theorem w24 {c : Caller Prop FT} (hc : CallOk Go.Proofs.Tryz.prog (CP env) G (fun p => p) c) {k : KV} {n : Nat} {args : List AV} {h : H} (hg : f24 (r24 c k n) 0 (finit args) h) : SW Go.Proofs.Tryz.prog G (.func 24) args h k :=
  fn_ok mixed envOk hc q24 Go.Proofs.Tryz.func24 rfl (by kernel_rfl) (by kernel_rfl) k u24 (fun n => f24 (r24 c k n))
    (fun L f h hl => by
      match L, hl with
      | 0, hl => obtain ⟨_, _, _, hl0⟩ := asS_inv (show _ from hl); obtain ⟨_, _, _, hl1⟩ := asS_inv (show _ from hl0); exact hl1
      | _ + 1, hl => exact hl)
    (fun n p L hm f h hl => by
      simp only [u24, List.mem_cons, Prod.mk.injEq, List.not_mem_nil, or_false] at hm
      rcases hm with ⟨rfl, rfl⟩
      · have hl : f24 (r24 c k (n + 1)) 0 f h := hl
        obtain ⟨l_1, c_1, e_1, hl1⟩ := asS_inv hl
        obtain ⟨l_2, c_2, e_2, hl2⟩ := asS_inv hl1
        have hh := e24_0 c k (r24 c k n) f h (f 0) l_1 c_1 l_2 c_2
        rw [fset_self (rfl : f 0 = f 0)] at hh
        rw [fset_self e_1] at hh
        rw [fset_self e_2] at hh
        exact Eq.mpr hh hl2
    ) (by simp [u24]) hg

theorem e28_0 (c : Caller Prop FT) (k : KV) (J : J28) (f : FT) (h : H) (v_0 : AV) (v_1 : AV) (v_2 : AV) (v_3 : AV) : chunkA env c q28 u28 (f28 J) d28 (retA env Go.Proofs.Tryz.f28.results.toList k) .root (fset (fset (fset (fset f 0 v_0) 1 v_1) 2 v_2) 3 v_3) h = s28_0 c k J v_0 v_1 v_2 v_3 h := by kernel_rfl
theorem e28_1 (c : Caller Prop FT) (k : KV) (J : J28) (f : FT) (h : H) (v_8 : AV) (v_9 : AV) (v_42 : AV) (n_43 : Int) (n_44 : Int) : chunkA env c q28 u28 (f28 J) d28 (retA env Go.Proofs.Tryz.f28.results.toList k) (.l (.r (.l (.r (.r (.r .root)))))) (fset (fset (fset (fset (fset f 8 v_8) 9 v_9) 42 v_42) 43 (.int .i64 n_43)) 44 (.int .i64 n_44)) h = s28_1 c k J v_8 v_9 v_42 n_43 n_44 h := by kernel_rfl
theorem w28 {c : Caller Prop FT} (hc : CallOk Go.Proofs.Tryz.prog (CP env) G (fun p => p) c) {k : KV} {n : Nat} {args : List AV} {h : H} (hg : f28 (r28 c k n) 0 (finit args) h) : SW Go.Proofs.Tryz.prog G (.func 28) args h k :=
  fn_ok mixed envOk hc q28 Go.Proofs.Tryz.func28 rfl (by kernel_rfl) (by kernel_rfl) k u28 (fun n => f28 (r28 c k n))
    (fun L f h hl => by
      match L, hl with
      | 0, hl => exact hl
      | 1, hl => obtain ⟨_, _, hl0⟩ := asI_inv (show _ from hl); obtain ⟨_, _, hl1⟩ := asI_inv (show _ from hl0); exact hl1
      | _ + 2, hl => exact hl)
    (fun n p L hm f h hl => by
      simp only [u28, List.mem_cons, Prod.mk.injEq, List.not_mem_nil, or_false] at hm
      rcases hm with ⟨rfl, rfl⟩ | ⟨rfl, rfl⟩
      · have hl : f28 (r28 c k (n + 1)) 0 f h := hl
        have hh := e28_0 c k (r28 c k n) f h (f 0) (f 1) (f 2) (f 3)
        rw [fset_self (rfl : f 0 = f 0)] at hh
        rw [fset_self (rfl : f 1 = f 1)] at hh
        rw [fset_self (rfl : f 2 = f 2)] at hh
        rw [fset_self (rfl : f 3 = f 3)] at hh
        exact Eq.mpr hh hl
      · have hl : f28 (r28 c k (n + 1)) 1 f h := hl
        obtain ⟨n_43, e_43, hl3⟩ := asI_inv hl
        obtain ⟨n_44, e_44, hl4⟩ := asI_inv hl3
        have hh := e28_1 c k (r28 c k n) f h (f 8) (f 9) (f 42) n_43 n_44
        rw [fset_self (rfl : f 8 = f 8)] at hh
        rw [fset_self (rfl : f 9 = f 9)] at hh
        rw [fset_self (rfl : f 42 = f 42)] at hh
        rw [fset_self e_43] at hh
        rw [fset_self e_44] at hh
        exact Eq.mpr hh hl4
    ) (by simp [u28]) hg

theorem w30 {c : Caller Prop FT} (hc : CallOk Go.Proofs.Tryz.prog (CP env) G (fun p => p) c) {k : KV} {m : Nat} {a : List AV} {h : H} (hg : runJ env c q30 u30 d30 (retA env Go.Proofs.Tryz.f30.results.toList k) m 0 (finit a) h) : SW Go.Proofs.Tryz.prog G (.func 30) a h k := fnI_ok mixed envOk hc q30 Go.Proofs.Tryz.func30 rfl (by kernel_rfl) (by kernel_rfl) (by kernel_rfl) (by simp [u30]) hg
theorem e32_0 (c : Caller Prop FT) (k : KV) (J : J32) (f : FT) (h : H) (l_0 : Nat) (c_0 : Nat) : chunkA env c q32 u32 (f32 J) d32 (retA env Go.Proofs.Tryz.f32.results.toList k) .root (fset f 0 (.str l_0 c_0)) h = s32_0 c k J l_0 c_0 h := by kernel_rfl
theorem w32 {c : Caller Prop FT} (hc : CallOk Go.Proofs.Tryz.prog (CP env) G (fun p => p) c) {k : KV} {n : Nat} {args : List AV} {h : H} (hg : f32 (r32 c k n) 0 (finit args) h) : SW Go.Proofs.Tryz.prog G (.func 32) args h k :=
  fn_ok mixed envOk hc q32 Go.Proofs.Tryz.func32 rfl (by kernel_rfl) (by kernel_rfl) k u32 (fun n => f32 (r32 c k n))
    (fun L f h hl => by
      match L, hl with
      | 0, hl => obtain ⟨_, _, _, hl0⟩ := asS_inv (show _ from hl); exact hl0
      | _ + 1, hl => exact hl)
    (fun n p L hm f h hl => by
      simp only [u32, List.mem_cons, Prod.mk.injEq, List.not_mem_nil, or_false] at hm
      rcases hm with ⟨rfl, rfl⟩
      · have hl : f32 (r32 c k (n + 1)) 0 f h := hl
        obtain ⟨l_0, c_0, e_0, hl0⟩ := asS_inv hl
        have hh := e32_0 c k (r32 c k n) f h l_0 c_0
        rw [fset_self e_0] at hh
        exact Eq.mpr hh hl0
    ) (by simp [u32]) hg

theorem e33_0 (c : Caller Prop FT) (k : KV) (J : J33) (f : FT) (h : H) (v_0 : AV) (v_1 : AV) : chunkA env c q33 u33 (f33 J) d33 (retA env Go.Proofs.Tryz.f33.results.toList k) .root (fset (fset f 0 v_0) 1 v_1) h = s33_0 c k J v_0 v_1 h := by kernel_rfl
theorem w33 {c : Caller Prop FT} (hc : CallOk Go.Proofs.Tryz.prog (CP env) G (fun p => p) c) {k : KV} {n : Nat} {args : List AV} {h : H} (hg : f33 (r33 c k n) 0 (finit args) h) : SW Go.Proofs.Tryz.prog G (.func 33) args h k :=
  fn_ok mixed envOk hc q33 Go.Proofs.Tryz.func33 rfl (by kernel_rfl) (by kernel_rfl) k u33 (fun n => f33 (r33 c k n))
    (fun L f h hl => by
      match L, hl with
      | 0, hl => exact hl
      | _ + 1, hl => exact hl)
    (fun n p L hm f h hl => by
      simp only [u33, List.mem_cons, Prod.mk.injEq, List.not_mem_nil, or_false] at hm
      rcases hm with ⟨rfl, rfl⟩
      · have hl : f33 (r33 c k (n + 1)) 0 f h := hl
        have hh := e33_0 c k (r33 c k n) f h (f 0) (f 1)
        rw [fset_self (rfl : f 0 = f 0)] at hh
        rw [fset_self (rfl : f 1 = f 1)] at hh
        exact Eq.mpr hh hl
    ) (by simp [u33]) hg

theorem e40_0 (c : Caller Prop FT) (k : KV) (J : J40) (f : FT) (h : H) (v_0 : AV) (l_1 : Nat) (c_1 : Nat) : chunkA env c q40 u40 (f40 J) d40 (retA env Go.Proofs.Tryz.f40.results.toList k) .root (fset (fset f 0 v_0) 1 (.str l_1 c_1)) h = s40_0 c k J v_0 l_1 c_1 h := by kernel_rfl
theorem w40 {c : Caller Prop FT} (hc : CallOk Go.Proofs.Tryz.prog (CP env) G (fun p => p) c) {k : KV} {n : Nat} {args : List AV} {h : H} (hg : f40 (r40 c k n) 0 (finit args) h) : SW Go.Proofs.Tryz.prog G (.func 40) args h k :=
  fn_ok mixed envOk hc q40 Go.Proofs.Tryz.func40 rfl (by kernel_rfl) (by kernel_rfl) k u40 (fun n => f40 (r40 c k n))
    (fun L f h hl => by
      match L, hl with
      | 0, hl => obtain ⟨_, _, _, hl0⟩ := asS_inv (show _ from hl); exact hl0
      | _ + 1, hl => exact hl)
    (fun n p L hm f h hl => by
      simp only [u40, List.mem_cons, Prod.mk.injEq, List.not_mem_nil, or_false] at hm
      rcases hm with ⟨rfl, rfl⟩
      · have hl : f40 (r40 c k (n + 1)) 0 f h := hl
        obtain ⟨l_1, c_1, e_1, hl1⟩ := asS_inv hl
        have hh := e40_0 c k (r40 c k n) f h (f 0) l_1 c_1
        rw [fset_self (rfl : f 0 = f 0)] at hh
        rw [fset_self e_1] at hh
        exact Eq.mpr hh hl1
    ) (by simp [u40]) hg

theorem e42_0 (c : Caller Prop FT) (k : KV) (J : J42) (f : FT) (h : H) (n_0 : Int) : chunkA env c q42 u42 (f42 J) d42 (retA env Go.Proofs.Tryz.f42.results.toList k) .root (fset f 0 (.int .i64 n_0)) h = s42_0 c k J n_0 h := by kernel_rfl
theorem w42 {c : Caller Prop FT} (hc : CallOk Go.Proofs.Tryz.prog (CP env) G (fun p => p) c) {k : KV} {n : Nat} {args : List AV} {h : H} (hg : f42 (r42 c k n) 0 (finit args) h) : SW Go.Proofs.Tryz.prog G (.func 42) args h k :=
  fn_ok mixed envOk hc q42 Go.Proofs.Tryz.func42 rfl (by kernel_rfl) (by kernel_rfl) k u42 (fun n => f42 (r42 c k n))
    (fun L f h hl => by
      match L, hl with
      | 0, hl => obtain ⟨_, _, hl0⟩ := asI_inv (show _ from hl); exact hl0
      | _ + 1, hl => exact hl)
    (fun n p L hm f h hl => by
      simp only [u42, List.mem_cons, Prod.mk.injEq, List.not_mem_nil, or_false] at hm
      rcases hm with ⟨rfl, rfl⟩
      · have hl : f42 (r42 c k (n + 1)) 0 f h := hl
        obtain ⟨n_0, e_0, hl0⟩ := asI_inv hl
        have hh := e42_0 c k (r42 c k n) f h n_0
        rw [fset_self e_0] at hh
        exact Eq.mpr hh hl0
    ) (by simp [u42]) hg

theorem e44_0 (c : Caller Prop FT) (k : KV) (J : J44) (f : FT) (h : H) (v_0 : AV) : chunkA env c q44 u44 (f44 J) d44 (retA env Go.Proofs.Tryz.f44.results.toList k) .root (fset f 0 v_0) h = s44_0 c k J v_0 h := by kernel_rfl
theorem w44 {c : Caller Prop FT} (hc : CallOk Go.Proofs.Tryz.prog (CP env) G (fun p => p) c) {k : KV} {n : Nat} {args : List AV} {h : H} (hg : f44 (r44 c k n) 0 (finit args) h) : SW Go.Proofs.Tryz.prog G (.func 44) args h k :=
  fn_ok mixed envOk hc q44 Go.Proofs.Tryz.func44 rfl (by kernel_rfl) (by kernel_rfl) k u44 (fun n => f44 (r44 c k n))
    (fun L f h hl => by
      match L, hl with
      | 0, hl => exact hl
      | _ + 1, hl => exact hl)
    (fun n p L hm f h hl => by
      simp only [u44, List.mem_cons, Prod.mk.injEq, List.not_mem_nil, or_false] at hm
      rcases hm with ⟨rfl, rfl⟩
      · have hl : f44 (r44 c k (n + 1)) 0 f h := hl
        have hh := e44_0 c k (r44 c k n) f h (f 0)
        rw [fset_self (rfl : f 0 = f 0)] at hh
        exact Eq.mpr hh hl
    ) (by simp [u44]) hg

theorem e48_0 (c : Caller Prop FT) (k : KV) (J : J48) (f : FT) (h : H) (v_0 : AV) : chunkA env c q48 u48 (f48 J) d48 (retA env Go.Proofs.Tryz.f48.results.toList k) .root (fset f 0 v_0) h = s48_0 c k J v_0 h := by kernel_rfl
theorem w48 {c : Caller Prop FT} (hc : CallOk Go.Proofs.Tryz.prog (CP env) G (fun p => p) c) {k : KV} {n : Nat} {args : List AV} {h : H} (hg : f48 (r48 c k n) 0 (finit args) h) : SW Go.Proofs.Tryz.prog G (.func 48) args h k :=
  fn_ok mixed envOk hc q48 Go.Proofs.Tryz.func48 rfl (by kernel_rfl) (by kernel_rfl) k u48 (fun n => f48 (r48 c k n))
    (fun L f h hl => by
      match L, hl with
      | 0, hl => exact hl
      | _ + 1, hl => exact hl)
    (fun n p L hm f h hl => by
      simp only [u48, List.mem_cons, Prod.mk.injEq, List.not_mem_nil, or_false] at hm
      rcases hm with ⟨rfl, rfl⟩
      · have hl : f48 (r48 c k (n + 1)) 0 f h := hl
        have hh := e48_0 c k (r48 c k n) f h (f 0)
        rw [fset_self (rfl : f 0 = f 0)] at hh
        exact Eq.mpr hh hl
    ) (by simp [u48]) hg

theorem e55_0 (c : Caller Prop FT) (k : KV) (J : J55) (f : FT) (h : H) (v_0 : AV) (v_1 : AV) : chunkA env c q55 u55 (f55 J) d55 (retA env Go.Proofs.Tryz.f55.results.toList k) .root (fset (fset f 0 v_0) 1 v_1) h = s55_0 c k J v_0 v_1 h := by kernel_rfl
theorem e55_1 (c : Caller Prop FT) (k : KV) (J : J55) (f : FT) (h : H) (v_0 : AV) (v_1 : AV) (n_7 : Int) (n_8 : Int) : chunkA env c q55 u55 (f55 J) d55 (retA env Go.Proofs.Tryz.f55.results.toList k) (.l (.r (.l (.r .root)))) (fset (fset (fset (fset f 0 v_0) 1 v_1) 7 (.int .i64 n_7)) 8 (.int .i64 n_8)) h = s55_1 c k J v_0 v_1 n_7 n_8 h := by kernel_rfl
theorem w55 {c : Caller Prop FT} (hc : CallOk Go.Proofs.Tryz.prog (CP env) G (fun p => p) c) {k : KV} {n : Nat} {args : List AV} {h : H} (hg : f55 (r55 c k n) 0 (finit args) h) : SW Go.Proofs.Tryz.prog G (.func 55) args h k :=
  fn_ok mixed envOk hc q55 Go.Proofs.Tryz.func55 rfl (by kernel_rfl) (by kernel_rfl) k u55 (fun n => f55 (r55 c k n))
    (fun L f h hl => by
      match L, hl with
      | 0, hl => exact hl
      | 1, hl => obtain ⟨_, _, hl0⟩ := asI_inv (show _ from hl); obtain ⟨_, _, hl1⟩ := asI_inv (show _ from hl0); exact hl1
      | _ + 2, hl => exact hl)
    (fun n p L hm f h hl => by
      simp only [u55, List.mem_cons, Prod.mk.injEq, List.not_mem_nil, or_false] at hm
      rcases hm with ⟨rfl, rfl⟩ | ⟨rfl, rfl⟩
      · have hl : f55 (r55 c k (n + 1)) 0 f h := hl
        have hh := e55_0 c k (r55 c k n) f h (f 0) (f 1)
        rw [fset_self (rfl : f 0 = f 0)] at hh
        rw [fset_self (rfl : f 1 = f 1)] at hh
        exact Eq.mpr hh hl
      · have hl : f55 (r55 c k (n + 1)) 1 f h := hl
        obtain ⟨n_7, e_7, hl2⟩ := asI_inv hl
        obtain ⟨n_8, e_8, hl3⟩ := asI_inv hl2
        have hh := e55_1 c k (r55 c k n) f h (f 0) (f 1) n_7 n_8
        rw [fset_self (rfl : f 0 = f 0)] at hh
        rw [fset_self (rfl : f 1 = f 1)] at hh
        rw [fset_self e_7] at hh
        rw [fset_self e_8] at hh
        exact Eq.mpr hh hl3
    ) (by simp [u55]) hg

theorem e56_0 (c : Caller Prop FT) (k : KV) (J : J56) (f : FT) (h : H) (v_0 : AV) : chunkA env c q56 u56 (f56 J) d56 (retA env Go.Proofs.Tryz.f56.results.toList k) .root (fset f 0 v_0) h = s56_0 c k J v_0 h := by kernel_rfl
theorem w56 {c : Caller Prop FT} (hc : CallOk Go.Proofs.Tryz.prog (CP env) G (fun p => p) c) {k : KV} {n : Nat} {args : List AV} {h : H} (hg : f56 (r56 c k n) 0 (finit args) h) : SW Go.Proofs.Tryz.prog G (.func 56) args h k :=
  fn_ok mixed envOk hc q56 Go.Proofs.Tryz.func56 rfl (by kernel_rfl) (by kernel_rfl) k u56 (fun n => f56 (r56 c k n))
    (fun L f h hl => by
      match L, hl with
      | 0, hl => exact hl
      | _ + 1, hl => exact hl)
    (fun n p L hm f h hl => by
      simp only [u56, List.mem_cons, Prod.mk.injEq, List.not_mem_nil, or_false] at hm
      rcases hm with ⟨rfl, rfl⟩
      · have hl : f56 (r56 c k (n + 1)) 0 f h := hl
        have hh := e56_0 c k (r56 c k n) f h (f 0)
        rw [fset_self (rfl : f 0 = f 0)] at hh
        exact Eq.mpr hh hl
    ) (by simp [u56]) hg

theorem e57_0 (c : Caller Prop FT) (k : KV) (J : J57) (f : FT) (h : H) (l_0 : Nat) (c_0 : Nat) : chunkA env c q57 u57 (f57 J) d57 (retA env Go.Proofs.Tryz.f57.results.toList k) .root (fset f 0 (.str l_0 c_0)) h = s57_0 c k J l_0 c_0 h := by kernel_rfl
theorem w57 {c : Caller Prop FT} (hc : CallOk Go.Proofs.Tryz.prog (CP env) G (fun p => p) c) {k : KV} {n : Nat} {args : List AV} {h : H} (hg : f57 (r57 c k n) 0 (finit args) h) : SW Go.Proofs.Tryz.prog G (.func 57) args h k :=
  fn_ok mixed envOk hc q57 Go.Proofs.Tryz.func57 rfl (by kernel_rfl) (by kernel_rfl) k u57 (fun n => f57 (r57 c k n))
    (fun L f h hl => by
      match L, hl with
      | 0, hl => obtain ⟨_, _, _, hl0⟩ := asS_inv (show _ from hl); exact hl0
      | _ + 1, hl => exact hl)
    (fun n p L hm f h hl => by
      simp only [u57, List.mem_cons, Prod.mk.injEq, List.not_mem_nil, or_false] at hm
      rcases hm with ⟨rfl, rfl⟩
      · have hl : f57 (r57 c k (n + 1)) 0 f h := hl
        obtain ⟨l_0, c_0, e_0, hl0⟩ := asS_inv hl
        have hh := e57_0 c k (r57 c k n) f h l_0 c_0
        rw [fset_self e_0] at hh
        exact Eq.mpr hh hl0
    ) (by simp [u57]) hg

theorem e63_0 (c : Caller Prop FT) (k : KV) (J : J63) (f : FT) (h : H) (v_0 : AV) (v_1 : AV) : chunkA env c q63 u63 (f63 J) d63 (retA env Go.Proofs.Tryz.f63.results.toList k) .root (fset (fset f 0 v_0) 1 v_1) h = s63_0 c k J v_0 v_1 h := by kernel_rfl
theorem e63_1 (c : Caller Prop FT) (k : KV) (J : J63) (f : FT) (h : H) (v_0 : AV) (v_1 : AV) (v_4 : AV) (n_5 : Int) : chunkA env c q63 u63 (f63 J) d63 (retA env Go.Proofs.Tryz.f63.results.toList k) (.l (.r (.r .root))) (fset (fset (fset (fset f 0 v_0) 1 v_1) 4 v_4) 5 (.int .i64 n_5)) h = s63_1 c k J v_0 v_1 v_4 n_5 h := by kernel_rfl
theorem e63_2 (c : Caller Prop FT) (k : KV) (J : J63) (f : FT) (h : H) (v_0 : AV) (v_1 : AV) (v_4 : AV) (n_5 : Int) (v_7 : AV) (n_8 : Int) : chunkA env c q63 u63 (f63 J) d63 (retA env Go.Proofs.Tryz.f63.results.toList k) (.l (.l (.r (.r (.r (.r (.l (.r (.l (.l (.r (.r .root)))))))))))) (fset (fset (fset (fset (fset (fset f 0 v_0) 1 v_1) 4 v_4) 5 (.int .i64 n_5)) 7 v_7) 8 (.int .i64 n_8)) h = s63_2 c k J v_0 v_1 v_4 n_5 v_7 n_8 h := by kernel_rfl
theorem e63_3 (c : Caller Prop FT) (k : KV) (J : J63) (f : FT) (h : H) (v_0 : AV) (v_1 : AV) (v_4 : AV) (n_5 : Int) (v_7 : AV) (n_8 : Int) : chunkA env c q63 u63 (f63 J) d63 (retA env Go.Proofs.Tryz.f63.results.toList k) (.r (.r (.l (.l (.l (.r (.r (.r (.r (.l (.r (.l (.l (.r (.r .root))))))))))))))) (fset (fset (fset (fset (fset (fset f 0 v_0) 1 v_1) 4 v_4) 5 (.int .i64 n_5)) 7 v_7) 8 (.int .i64 n_8)) h = s63_3 c k J v_0 v_1 v_4 n_5 v_7 n_8 h := by kernel_rfl
theorem w63 {c : Caller Prop FT} (hc : CallOk Go.Proofs.Tryz.prog (CP env) G (fun p => p) c) {k : KV} {n : Nat} {args : List AV} {h : H} (hg : f63 (r63 c k n) 0 (finit args) h) : SW Go.Proofs.Tryz.prog G (.func 63) args h k :=
  fn_ok mixed envOk hc q63 Go.Proofs.Tryz.func63 rfl (by kernel_rfl) (by kernel_rfl) k u63 (fun n => f63 (r63 c k n))
    (fun L f h hl => by
      match L, hl with
      | 0, hl => exact hl
      | 1, hl => obtain ⟨_, _, hl0⟩ := asI_inv (show _ from hl); exact hl0
      | 2, hl => obtain ⟨_, _, hl0⟩ := asI_inv (show _ from hl); obtain ⟨_, _, hl1⟩ := asI_inv (show _ from hl0); exact hl1
      | 3, hl => obtain ⟨_, _, hl0⟩ := asI_inv (show _ from hl); obtain ⟨_, _, hl1⟩ := asI_inv (show _ from hl0); exact hl1
      | _ + 4, hl => exact hl)
    (fun n p L hm f h hl => by
      simp only [u63, List.mem_cons, Prod.mk.injEq, List.not_mem_nil, or_false] at hm
      rcases hm with ⟨rfl, rfl⟩ | ⟨rfl, rfl⟩ | ⟨rfl, rfl⟩ | ⟨rfl, rfl⟩
      · have hl : f63 (r63 c k (n + 1)) 0 f h := hl
        have hh := e63_0 c k (r63 c k n) f h (f 0) (f 1)
        rw [fset_self (rfl : f 0 = f 0)] at hh
        rw [fset_self (rfl : f 1 = f 1)] at hh
        exact Eq.mpr hh hl
      · have hl : f63 (r63 c k (n + 1)) 1 f h := hl
        obtain ⟨n_5, e_5, hl3⟩ := asI_inv hl
        have hh := e63_1 c k (r63 c k n) f h (f 0) (f 1) (f 4) n_5
        rw [fset_self (rfl : f 0 = f 0)] at hh
        rw [fset_self (rfl : f 1 = f 1)] at hh
        rw [fset_self (rfl : f 4 = f 4)] at hh
        rw [fset_self e_5] at hh
        exact Eq.mpr hh hl3
      · have hl : f63 (r63 c k (n + 1)) 2 f h := hl
        obtain ⟨n_5, e_5, hl3⟩ := asI_inv hl
        obtain ⟨n_8, e_8, hl5⟩ := asI_inv hl3
        have hh := e63_2 c k (r63 c k n) f h (f 0) (f 1) (f 4) n_5 (f 7) n_8
        rw [fset_self (rfl : f 0 = f 0)] at hh
        rw [fset_self (rfl : f 1 = f 1)] at hh
        rw [fset_self (rfl : f 4 = f 4)] at hh
        rw [fset_self e_5] at hh
        rw [fset_self (rfl : f 7 = f 7)] at hh
        rw [fset_self e_8] at hh
        exact Eq.mpr hh hl5
      · have hl : f63 (r63 c k (n + 1)) 3 f h := hl
        obtain ⟨n_5, e_5, hl3⟩ := asI_inv hl
        obtain ⟨n_8, e_8, hl5⟩ := asI_inv hl3
        have hh := e63_3 c k (r63 c k n) f h (f 0) (f 1) (f 4) n_5 (f 7) n_8
        rw [fset_self (rfl : f 0 = f 0)] at hh
        rw [fset_self (rfl : f 1 = f 1)] at hh
        rw [fset_self (rfl : f 4 = f 4)] at hh
        rw [fset_self e_5] at hh
        rw [fset_self (rfl : f 7 = f 7)] at hh
        rw [fset_self e_8] at hh
        exact Eq.mpr hh hl5
    ) (by simp [u63]) hg

theorem e70_0 (c : Caller Prop FT) (k : KV) (J : J70) (f : FT) (h : H) (v_0 : AV) (v_1 : AV) : chunkA env c q70 u70 (f70 J) d70 (retA env Go.Proofs.Tryz.f70.results.toList k) .root (fset (fset f 0 v_0) 1 v_1) h = s70_0 c k J v_0 v_1 h := by kernel_rfl
theorem e70_1 (c : Caller Prop FT) (k : KV) (J : J70) (f : FT) (h : H) (v_0 : AV) (v_1 : AV) (n_3 : Int) : chunkA env c q70 u70 (f70 J) d70 (retA env Go.Proofs.Tryz.f70.results.toList k) (.l (.r .root)) (fset (fset (fset f 0 v_0) 1 v_1) 3 (.int .i64 n_3)) h = s70_1 c k J v_0 v_1 n_3 h := by kernel_rfl
theorem w70 {c : Caller Prop FT} (hc : CallOk Go.Proofs.Tryz.prog (CP env) G (fun p => p) c) {k : KV} {n : Nat} {args : List AV} {h : H} (hg : f70 (r70 c k n) 0 (finit args) h) : SW Go.Proofs.Tryz.prog G (.func 70) args h k :=
  fn_ok mixed envOk hc q70 Go.Proofs.Tryz.func70 rfl (by kernel_rfl) (by kernel_rfl) k u70 (fun n => f70 (r70 c k n))
    (fun L f h hl => by
      match L, hl with
      | 0, hl => exact hl
      | 1, hl => obtain ⟨_, _, hl0⟩ := asI_inv (show _ from hl); exact hl0
      | _ + 2, hl => exact hl)
    (fun n p L hm f h hl => by
      simp only [u70, List.mem_cons, Prod.mk.injEq, List.not_mem_nil, or_false] at hm
      rcases hm with ⟨rfl, rfl⟩ | ⟨rfl, rfl⟩
      · have hl : f70 (r70 c k (n + 1)) 0 f h := hl
        have hh := e70_0 c k (r70 c k n) f h (f 0) (f 1)
        rw [fset_self (rfl : f 0 = f 0)] at hh
        rw [fset_self (rfl : f 1 = f 1)] at hh
        exact Eq.mpr hh hl
      · have hl : f70 (r70 c k (n + 1)) 1 f h := hl
        obtain ⟨n_3, e_3, hl2⟩ := asI_inv hl
        have hh := e70_1 c k (r70 c k n) f h (f 0) (f 1) n_3
        rw [fset_self (rfl : f 0 = f 0)] at hh
        rw [fset_self (rfl : f 1 = f 1)] at hh
        rw [fset_self e_3] at hh
        exact Eq.mpr hh hl2
    ) (by simp [u70]) hg

theorem e74_0 (c : Caller Prop FT) (k : KV) (J : J74) (f : FT) (h : H) (v_0 : AV) (n_1 : Int) : chunkA env c q74 u74 (f74 J) d74 (retA env Go.Proofs.Tryz.f74.results.toList k) .root (fset (fset f 0 v_0) 1 (.int .u8 n_1)) h = s74_0 c k J v_0 n_1 h := by kernel_rfl
theorem w74 {c : Caller Prop FT} (hc : CallOk Go.Proofs.Tryz.prog (CP env) G (fun p => p) c) {k : KV} {n : Nat} {args : List AV} {h : H} (hg : f74 (r74 c k n) 0 (finit args) h) : SW Go.Proofs.Tryz.prog G (.func 74) args h k :=
  fn_ok mixed envOk hc q74 Go.Proofs.Tryz.func74 rfl (by kernel_rfl) (by kernel_rfl) k u74 (fun n => f74 (r74 c k n))
    (fun L f h hl => by
      match L, hl with
      | 0, hl => obtain ⟨_, _, hl0⟩ := asI_inv (show _ from hl); exact hl0
      | _ + 1, hl => exact hl)
    (fun n p L hm f h hl => by
      simp only [u74, List.mem_cons, Prod.mk.injEq, List.not_mem_nil, or_false] at hm
      rcases hm with ⟨rfl, rfl⟩
      · have hl : f74 (r74 c k (n + 1)) 0 f h := hl
        obtain ⟨n_1, e_1, hl1⟩ := asI_inv hl
        have hh := e74_0 c k (r74 c k n) f h (f 0) n_1
        rw [fset_self (rfl : f 0 = f 0)] at hh
        rw [fset_self e_1] at hh
        exact Eq.mpr hh hl1
    ) (by simp [u74]) hg

theorem e75_0 (c : Caller Prop FT) (k : KV) (J : J75) (f : FT) (h : H) (v_0 : AV) : chunkA env c q75 u75 (f75 J) d75 (retA env Go.Proofs.Tryz.f75.results.toList k) .root (fset f 0 v_0) h = s75_0 c k J v_0 h := by kernel_rfl
theorem w75 {c : Caller Prop FT} (hc : CallOk Go.Proofs.Tryz.prog (CP env) G (fun p => p) c) {k : KV} {n : Nat} {args : List AV} {h : H} (hg : f75 (r75 c k n) 0 (finit args) h) : SW Go.Proofs.Tryz.prog G (.func 75) args h k :=
  fn_ok mixed envOk hc q75 Go.Proofs.Tryz.func75 rfl (by kernel_rfl) (by kernel_rfl) k u75 (fun n => f75 (r75 c k n))
    (fun L f h hl => by
      match L, hl with
      | 0, hl => exact hl
      | _ + 1, hl => exact hl)
    (fun n p L hm f h hl => by
      simp only [u75, List.mem_cons, Prod.mk.injEq, List.not_mem_nil, or_false] at hm
      rcases hm with ⟨rfl, rfl⟩
      · have hl : f75 (r75 c k (n + 1)) 0 f h := hl
        have hh := e75_0 c k (r75 c k n) f h (f 0)
        rw [fset_self (rfl : f 0 = f 0)] at hh
        exact Eq.mpr hh hl
    ) (by simp [u75]) hg

theorem e88_0 (c : Caller Prop FT) (k : KV) (J : J88) (f : FT) (h : H) (v_0 : AV) (v_1 : AV) : chunkA env c q88 u88 (f88 J) d88 (retA env Go.Proofs.Tryz.f88.results.toList k) .root (fset (fset f 0 v_0) 1 v_1) h = s88_0 c k J v_0 v_1 h := by kernel_rfl
theorem e88_1 (c : Caller Prop FT) (k : KV) (J : J88) (f : FT) (h : H) (v_0 : AV) (v_3 : AV) (v_33 : AV) (n_34 : Int) (n_35 : Int) : chunkA env c q88 u88 (f88 J) d88 (retA env Go.Proofs.Tryz.f88.results.toList k) (.l (.r (.l (.r (.r (.r .root)))))) (fset (fset (fset (fset (fset f 0 v_0) 3 v_3) 33 v_33) 34 (.int .i64 n_34)) 35 (.int .i64 n_35)) h = s88_1 c k J v_0 v_3 v_33 n_34 n_35 h := by kernel_rfl
theorem w88 {c : Caller Prop FT} (hc : CallOk Go.Proofs.Tryz.prog (CP env) G (fun p => p) c) {k : KV} {n : Nat} {args : List AV} {h : H} (hg : f88 (r88 c k n) 0 (finit args) h) : SW Go.Proofs.Tryz.prog G (.func 88) args h k :=
  fn_ok mixed envOk hc q88 Go.Proofs.Tryz.func88 rfl (by kernel_rfl) (by kernel_rfl) k u88 (fun n => f88 (r88 c k n))
    (fun L f h hl => by
      match L, hl with
      | 0, hl => exact hl
      | 1, hl => obtain ⟨_, _, hl0⟩ := asI_inv (show _ from hl); obtain ⟨_, _, hl1⟩ := asI_inv (show _ from hl0); exact hl1
      | _ + 2, hl => exact hl)
    (fun n p L hm f h hl => by
      simp only [u88, List.mem_cons, Prod.mk.injEq, List.not_mem_nil, or_false] at hm
      rcases hm with ⟨rfl, rfl⟩ | ⟨rfl, rfl⟩
      · have hl : f88 (r88 c k (n + 1)) 0 f h := hl
        have hh := e88_0 c k (r88 c k n) f h (f 0) (f 1)
        rw [fset_self (rfl : f 0 = f 0)] at hh
        rw [fset_self (rfl : f 1 = f 1)] at hh
        exact Eq.mpr hh hl
      · have hl : f88 (r88 c k (n + 1)) 1 f h := hl
        obtain ⟨n_34, e_34, hl3⟩ := asI_inv hl
        obtain ⟨n_35, e_35, hl4⟩ := asI_inv hl3
        have hh := e88_1 c k (r88 c k n) f h (f 0) (f 3) (f 33) n_34 n_35
        rw [fset_self (rfl : f 0 = f 0)] at hh
        rw [fset_self (rfl : f 3 = f 3)] at hh
        rw [fset_self (rfl : f 33 = f 33)] at hh
        rw [fset_self e_34] at hh
        rw [fset_self e_35] at hh
        exact Eq.mpr hh hl4
    ) (by simp [u88]) hg

theorem e89_0 (c : Caller Prop FT) (k : KV) (J : J89) (f : FT) (h : H) (v_0 : AV) (v_1 : AV) : chunkA env c q89 u89 (f89 J) d89 (retA env Go.Proofs.Tryz.f89.results.toList k) .root (fset (fset f 0 v_0) 1 v_1) h = s89_0 c k J v_0 v_1 h := by kernel_rfl
theorem w89 {c : Caller Prop FT} (hc : CallOk Go.Proofs.Tryz.prog (CP env) G (fun p => p) c) {k : KV} {n : Nat} {args : List AV} {h : H} (hg : f89 (r89 c k n) 0 (finit args) h) : SW Go.Proofs.Tryz.prog G (.func 89) args h k :=
  fn_ok mixed envOk hc q89 Go.Proofs.Tryz.func89 rfl (by kernel_rfl) (by kernel_rfl) k u89 (fun n => f89 (r89 c k n))
    (fun L f h hl => by
      match L, hl with
      | 0, hl => exact hl
      | _ + 1, hl => exact hl)
    (fun n p L hm f h hl => by
      simp only [u89, List.mem_cons, Prod.mk.injEq, List.not_mem_nil, or_false] at hm
      rcases hm with ⟨rfl, rfl⟩
      · have hl : f89 (r89 c k (n + 1)) 0 f h := hl
        have hh := e89_0 c k (r89 c k n) f h (f 0) (f 1)
        rw [fset_self (rfl : f 0 = f 0)] at hh
        rw [fset_self (rfl : f 1 = f 1)] at hh
        exact Eq.mpr hh hl
    ) (by simp [u89]) hg

theorem e92_0 (c : Caller Prop FT) (k : KV) (J : J92) (f : FT) (h : H) (v_0 : AV) : chunkA env c q92 u92 (f92 J) d92 (retA env Go.Proofs.Tryz.f92.results.toList k) .root (fset f 0 v_0) h = s92_0 c k J v_0 h := by kernel_rfl
theorem e92_1 (c : Caller Prop FT) (k : KV) (J : J92) (f : FT) (h : H) (v_0 : AV) (v_2 : AV) (b_3 : Bool) (v_5 : AV) (n_7 : Int) (n_8 : Int) (v_86 : AV) (n_87 : Int) (n_88 : Int) : chunkA env c q92 u92 (f92 J) d92 (retA env Go.Proofs.Tryz.f92.results.toList k) (.l (.r (.l (.r (.r (.r (.r (.r (.r (.r (.r (.l (.r .root))))))))))))) (fset (fset (fset (fset (fset (fset (fset (fset (fset f 0 v_0) 2 v_2) 3 (.bool b_3)) 5 v_5) 7 (.int .i64 n_7)) 8 (.int .i64 n_8)) 86 v_86) 87 (.int .i64 n_87)) 88 (.int .i64 n_88)) h = s92_1 c k J v_0 v_2 b_3 v_5 n_7 n_8 v_86 n_87 n_88 h := by kernel_rfl
theorem e92_2 (c : Caller Prop FT) (k : KV) (J : J92) (f : FT) (h : H) (v_0 : AV) (v_2 : AV) (b_3 : Bool) (b_4 : Bool) (v_5 : AV) : chunkA env c q92 u92 (f92 J) d92 (retA env Go.Proofs.Tryz.f92.results.toList k) (.lab (.r .root) 1) (fset (fset (fset (fset (fset f 0 v_0) 2 v_2) 3 (.bool b_3)) 4 (.bool b_4)) 5 v_5) h = s92_2 c k J v_0 v_2 b_3 b_4 v_5 h := by kernel_rfl
theorem e92_3 (c : Caller Prop FT) (k : KV) (J : J92) (f : FT) (h : H) (v_0 : AV) (v_2 : AV) (b_3 : Bool) (v_5 : AV) (n_7 : Int) (n_8 : Int) (v_86 : AV) (n_87 : Int) (n_88 : Int) : chunkA env c q92 u92 (f92 J) d92 (retA env Go.Proofs.Tryz.f92.results.toList k) (.l (.r (.l (.r (.r (.r (.r (.r (.lab (.r .root) 1))))))))) (fset (fset (fset (fset (fset (fset (fset (fset (fset f 0 v_0) 2 v_2) 3 (.bool b_3)) 5 v_5) 7 (.int .i64 n_7)) 8 (.int .i64 n_8)) 86 v_86) 87 (.int .i64 n_87)) 88 (.int .i64 n_88)) h = s92_3 c k J v_0 v_2 b_3 v_5 n_7 n_8 v_86 n_87 n_88 h := by kernel_rfl
theorem e92_4 (c : Caller Prop FT) (k : KV) (J : J92) (f : FT) (h : H) (v_2 : AV) (b_3 : Bool) (b_4 : Bool) : chunkA env c q92 u92 (f92 J) d92 (retA env Go.Proofs.Tryz.f92.results.toList k) (.lab (.r .root) 0) (fset (fset (fset f 2 v_2) 3 (.bool b_3)) 4 (.bool b_4)) h = s92_4 c k J v_2 b_3 b_4 h := by kernel_rfl
theorem e92_5 (c : Caller Prop FT) (k : KV) (J : J92) (f : FT) (h : H) (v_0 : AV) (v_2 : AV) (b_3 : Bool) (b_4 : Bool) (v_5 : AV) (b_6 : Bool) : chunkA env c q92 u92 (f92 J) d92 (retA env Go.Proofs.Tryz.f92.results.toList k) (.r (.l (.r (.r (.r (.r (.r (.r (.l (.r .root)))))))))) (fset (fset (fset (fset (fset (fset f 0 v_0) 2 v_2) 3 (.bool b_3)) 4 (.bool b_4)) 5 v_5) 6 (.bool b_6)) h = s92_5 c k J v_0 v_2 b_3 b_4 v_5 b_6 h := by kernel_rfl
theorem w92 {c : Caller Prop FT} (hc : CallOk Go.Proofs.Tryz.prog (CP env) G (fun p => p) c) {k : KV} {n : Nat} {args : List AV} {h : H} (hg : f92 (r92 c k n) 0 (finit args) h) : SW Go.Proofs.Tryz.prog G (.func 92) args h k :=
  fn_ok mixed envOk hc q92 Go.Proofs.Tryz.func92 rfl (by kernel_rfl) (by kernel_rfl) k u92 (fun n => f92 (r92 c k n))
    (fun L f h hl => by
      match L, hl with
      | 0, hl => exact hl
      | 1, hl => obtain ⟨_, _, hl0⟩ := asB_inv (show _ from hl); obtain ⟨_, _, hl1⟩ := asI_inv (show _ from hl0); obtain ⟨_, _, hl2⟩ := asI_inv (show _ from hl1); obtain ⟨_, _, hl3⟩ := asI_inv (show _ from hl2); obtain ⟨_, _, hl4⟩ := asI_inv (show _ from hl3); exact hl4
      | 2, hl => obtain ⟨_, _, hl0⟩ := asB_inv (show _ from hl); obtain ⟨_, _, hl1⟩ := asB_inv (show _ from hl0); exact hl1
      | 3, hl => obtain ⟨_, _, hl0⟩ := asB_inv (show _ from hl); obtain ⟨_, _, hl1⟩ := asI_inv (show _ from hl0); obtain ⟨_, _, hl2⟩ := asI_inv (show _ from hl1); obtain ⟨_, _, hl3⟩ := asI_inv (show _ from hl2); obtain ⟨_, _, hl4⟩ := asI_inv (show _ from hl3); exact hl4
      | 4, hl => obtain ⟨_, _, hl0⟩ := asB_inv (show _ from hl); obtain ⟨_, _, hl1⟩ := asB_inv (show _ from hl0); exact hl1
      | 5, hl => obtain ⟨_, _, hl0⟩ := asB_inv (show _ from hl); obtain ⟨_, _, hl1⟩ := asB_inv (show _ from hl0); obtain ⟨_, _, hl2⟩ := asB_inv (show _ from hl1); exact hl2
      | _ + 6, hl => exact hl)
    (fun n p L hm f h hl => by
      simp only [u92, List.mem_cons, Prod.mk.injEq, List.not_mem_nil, or_false] at hm
      rcases hm with ⟨rfl, rfl⟩ | ⟨rfl, rfl⟩ | ⟨rfl, rfl⟩ | ⟨rfl, rfl⟩ | ⟨rfl, rfl⟩ | ⟨rfl, rfl⟩
      · have hl : f92 (r92 c k (n + 1)) 0 f h := hl
        have hh := e92_0 c k (r92 c k n) f h (f 0)
        rw [fset_self (rfl : f 0 = f 0)] at hh
        exact Eq.mpr hh hl
      · have hl : f92 (r92 c k (n + 1)) 1 f h := hl
        obtain ⟨b_3, e_3, hl2⟩ := asB_inv hl
        obtain ⟨n_7, e_7, hl4⟩ := asI_inv hl2
        obtain ⟨n_8, e_8, hl5⟩ := asI_inv hl4
        obtain ⟨n_87, e_87, hl7⟩ := asI_inv hl5
        obtain ⟨n_88, e_88, hl8⟩ := asI_inv hl7
        have hh := e92_1 c k (r92 c k n) f h (f 0) (f 2) b_3 (f 5) n_7 n_8 (f 86) n_87 n_88
        rw [fset_self (rfl : f 0 = f 0)] at hh
        rw [fset_self (rfl : f 2 = f 2)] at hh
        rw [fset_self e_3] at hh
        rw [fset_self (rfl : f 5 = f 5)] at hh
        rw [fset_self e_7] at hh
        rw [fset_self e_8] at hh
        rw [fset_self (rfl : f 86 = f 86)] at hh
        rw [fset_self e_87] at hh
        rw [fset_self e_88] at hh
        exact Eq.mpr hh hl8
      · have hl : f92 (r92 c k (n + 1)) 2 f h := hl
        obtain ⟨b_3, e_3, hl2⟩ := asB_inv hl
        obtain ⟨b_4, e_4, hl3⟩ := asB_inv hl2
        have hh := e92_2 c k (r92 c k n) f h (f 0) (f 2) b_3 b_4 (f 5)
        rw [fset_self (rfl : f 0 = f 0)] at hh
        rw [fset_self (rfl : f 2 = f 2)] at hh
        rw [fset_self e_3] at hh
        rw [fset_self e_4] at hh
        rw [fset_self (rfl : f 5 = f 5)] at hh
        exact Eq.mpr hh hl3
      · have hl : f92 (r92 c k (n + 1)) 3 f h := hl
        obtain ⟨b_3, e_3, hl2⟩ := asB_inv hl
        obtain ⟨n_7, e_7, hl4⟩ := asI_inv hl2
        obtain ⟨n_8, e_8, hl5⟩ := asI_inv hl4
        obtain ⟨n_87, e_87, hl7⟩ := asI_inv hl5
        obtain ⟨n_88, e_88, hl8⟩ := asI_inv hl7
        have hh := e92_3 c k (r92 c k n) f h (f 0) (f 2) b_3 (f 5) n_7 n_8 (f 86) n_87 n_88
        rw [fset_self (rfl : f 0 = f 0)] at hh
        rw [fset_self (rfl : f 2 = f 2)] at hh
        rw [fset_self e_3] at hh
        rw [fset_self (rfl : f 5 = f 5)] at hh
        rw [fset_self e_7] at hh
        rw [fset_self e_8] at hh
        rw [fset_self (rfl : f 86 = f 86)] at hh
        rw [fset_self e_87] at hh
        rw [fset_self e_88] at hh
        exact Eq.mpr hh hl8
      · have hl : f92 (r92 c k (n + 1)) 4 f h := hl
        obtain ⟨b_3, e_3, hl1⟩ := asB_inv hl
        obtain ⟨b_4, e_4, hl2⟩ := asB_inv hl1
        have hh := e92_4 c k (r92 c k n) f h (f 2) b_3 b_4
        rw [fset_self (rfl : f 2 = f 2)] at hh
        rw [fset_self e_3] at hh
        rw [fset_self e_4] at hh
        exact Eq.mpr hh hl2
      · have hl : f92 (r92 c k (n + 1)) 5 f h := hl
        obtain ⟨b_3, e_3, hl2⟩ := asB_inv hl
        obtain ⟨b_4, e_4, hl3⟩ := asB_inv hl2
        obtain ⟨b_6, e_6, hl5⟩ := asB_inv hl3
        have hh := e92_5 c k (r92 c k n) f h (f 0) (f 2) b_3 b_4 (f 5) b_6
        rw [fset_self (rfl : f 0 = f 0)] at hh
        rw [fset_self (rfl : f 2 = f 2)] at hh
        rw [fset_self e_3] at hh
        rw [fset_self e_4] at hh
        rw [fset_self (rfl : f 5 = f 5)] at hh
        rw [fset_self e_6] at hh
        exact Eq.mpr hh hl5
    ) (by simp [u92]) hg

theorem e93_0 (c : Caller Prop FT) (k : KV) (J : J93) (f : FT) (h : H) (v_0 : AV) (l_1 : Nat) (c_1 : Nat) : chunkA env c q93 u93 (f93 J) d93 (retA env Go.Proofs.Tryz.f93.results.toList k) .root (fset (fset f 0 v_0) 1 (.str l_1 c_1)) h = s93_0 c k J v_0 l_1 c_1 h := by kernel_rfl
theorem w93 {c : Caller Prop FT} (hc : CallOk Go.Proofs.Tryz.prog (CP env) G (fun p => p) c) {k : KV} {n : Nat} {args : List AV} {h : H} (hg : f93 (r93 c k n) 0 (finit args) h) : SW Go.Proofs.Tryz.prog G (.func 93) args h k :=
  fn_ok mixed envOk hc q93 Go.Proofs.Tryz.func93 rfl (by kernel_rfl) (by kernel_rfl) k u93 (fun n => f93 (r93 c k n))
    (fun L f h hl => by
      match L, hl with
      | 0, hl => obtain ⟨_, _, _, hl0⟩ := asS_inv (show _ from hl); exact hl0
      | _ + 1, hl => exact hl)
    (fun n p L hm f h hl => by
      simp only [u93, List.mem_cons, Prod.mk.injEq, List.not_mem_nil, or_false] at hm
      rcases hm with ⟨rfl, rfl⟩
      · have hl : f93 (r93 c k (n + 1)) 0 f h := hl
        obtain ⟨l_1, c_1, e_1, hl1⟩ := asS_inv hl
        have hh := e93_0 c k (r93 c k n) f h (f 0) l_1 c_1
        rw [fset_self (rfl : f 0 = f 0)] at hh
        rw [fset_self e_1] at hh
        exact Eq.mpr hh hl1
    ) (by simp [u93]) hg

theorem e95_0 (c : Caller Prop FT) (k : KV) (J : J95) (f : FT) (h : H) (v_0 : AV) (v_1 : AV) : chunkA env c q95 u95 (f95 J) d95 (retA env Go.Proofs.Tryz.f95.results.toList k) .root (fset (fset f 0 v_0) 1 v_1) h = s95_0 c k J v_0 v_1 h := by kernel_rfl
theorem e95_1 (c : Caller Prop FT) (k : KV) (J : J95) (f : FT) (h : H) (v_3 : AV) (v_4 : AV) : chunkA env c q95 u95 (f95 J) d95 (retA env Go.Proofs.Tryz.f95.results.toList k) (.r (.r .root)) (fset (fset f 3 v_3) 4 v_4) h = s95_1 c k J v_3 v_4 h := by kernel_rfl
theorem w95 {c : Caller Prop FT} (hc : CallOk Go.Proofs.Tryz.prog (CP env) G (fun p => p) c) {k : KV} {n : Nat} {args : List AV} {h : H} (hg : f95 (r95 c k n) 0 (finit args) h) : SW Go.Proofs.Tryz.prog G (.func 95) args h k :=
  fn_ok mixed envOk hc q95 Go.Proofs.Tryz.func95 rfl (by kernel_rfl) (by kernel_rfl) k u95 (fun n => f95 (r95 c k n))
    (fun L f h hl => by
      match L, hl with
      | 0, hl => exact hl
      | 1, hl => exact hl
      | _ + 2, hl => exact hl)
    (fun n p L hm f h hl => by
      simp only [u95, List.mem_cons, Prod.mk.injEq, List.not_mem_nil, or_false] at hm
      rcases hm with ⟨rfl, rfl⟩ | ⟨rfl, rfl⟩
      · have hl : f95 (r95 c k (n + 1)) 0 f h := hl
        have hh := e95_0 c k (r95 c k n) f h (f 0) (f 1)
        rw [fset_self (rfl : f 0 = f 0)] at hh
        rw [fset_self (rfl : f 1 = f 1)] at hh
        exact Eq.mpr hh hl
      · have hl : f95 (r95 c k (n + 1)) 1 f h := hl
        have hh := e95_1 c k (r95 c k n) f h (f 3) (f 4)
        rw [fset_self (rfl : f 3 = f 3)] at hh
        rw [fset_self (rfl : f 4 = f 4)] at hh
        exact Eq.mpr hh hl
    ) (by simp [u95]) hg

theorem w100 {c : Caller Prop FT} (hc : CallOk Go.Proofs.Tryz.prog (CP env) G (fun p => p) c) {k : KV} {m : Nat} {a : List AV} {h : H} (hg : runJ env c q100 u100 d100 (retA env Go.Proofs.Tryz.f100.results.toList k) m 0 (finit a) h) : SW Go.Proofs.Tryz.prog G (.func 100) a h k := fnI_ok mixed envOk hc q100 Go.Proofs.Tryz.func100 rfl (by kernel_rfl) (by kernel_rfl) (by kernel_rfl) (by simp [u100]) hg
theorem e101_0 (c : Caller Prop FT) (k : KV) (J : J101) (f : FT) (h : H) (l_0 : Nat) (c_0 : Nat) (n_1 : Int) : chunkA env c q101 u101 (f101 J) d101 (retA env Go.Proofs.Tryz.f101.results.toList k) .root (fset (fset f 0 (.str l_0 c_0)) 1 (.int .i64 n_1)) h = s101_0 c k J l_0 c_0 n_1 h := by kernel_rfl
theorem e101_1 (c : Caller Prop FT) (k : KV) (J : J101) (f : FT) (h : H) (l_0 : Nat) (c_0 : Nat) (n_1 : Int) (v_4 : AV) : chunkA env c q101 u101 (f101 J) d101 (retA env Go.Proofs.Tryz.f101.results.toList k) (.r (.r .root)) (fset (fset (fset f 0 (.str l_0 c_0)) 1 (.int .i64 n_1)) 4 v_4) h = s101_1 c k J l_0 c_0 n_1 v_4 h := by kernel_rfl
theorem w101 {c : Caller Prop FT} (hc : CallOk Go.Proofs.Tryz.prog (CP env) G (fun p => p) c) {k : KV} {n : Nat} {args : List AV} {h : H} (hg : f101 (r101 c k n) 0 (finit args) h) : SW Go.Proofs.Tryz.prog G (.func 101) args h k :=
  fn_ok mixed envOk hc q101 Go.Proofs.Tryz.func101 rfl (by kernel_rfl) (by kernel_rfl) k u101 (fun n => f101 (r101 c k n))
    (fun L f h hl => by
      match L, hl with
      | 0, hl => obtain ⟨_, _, _, hl0⟩ := asS_inv (show _ from hl); obtain ⟨_, _, hl1⟩ := asI_inv (show _ from hl0); exact hl1
      | 1, hl => obtain ⟨_, _, _, hl0⟩ := asS_inv (show _ from hl); obtain ⟨_, _, hl1⟩ := asI_inv (show _ from hl0); exact hl1
      | _ + 2, hl => exact hl)
    (fun n p L hm f h hl => by
      simp only [u101, List.mem_cons, Prod.mk.injEq, List.not_mem_nil, or_false] at hm
      rcases hm with ⟨rfl, rfl⟩ | ⟨rfl, rfl⟩
      · have hl : f101 (r101 c k (n + 1)) 0 f h := hl
        obtain ⟨l_0, c_0, e_0, hl0⟩ := asS_inv hl
        obtain ⟨n_1, e_1, hl1⟩ := asI_inv hl0
        have hh := e101_0 c k (r101 c k n) f h l_0 c_0 n_1
        rw [fset_self e_0] at hh
        rw [fset_self e_1] at hh
        exact Eq.mpr hh hl1
      · have hl : f101 (r101 c k (n + 1)) 1 f h := hl
        obtain ⟨l_0, c_0, e_0, hl0⟩ := asS_inv hl
        obtain ⟨n_1, e_1, hl1⟩ := asI_inv hl0
        have hh := e101_1 c k (r101 c k n) f h l_0 c_0 n_1 (f 4)
        rw [fset_self e_0] at hh
        rw [fset_self e_1] at hh
        rw [fset_self (rfl : f 4 = f 4)] at hh
        exact Eq.mpr hh hl1
    ) (by simp [u101]) hg

theorem e105_0 (c : Caller Prop FT) (k : KV) (J : J105) (f : FT) (h : H) (l_0 : Nat) (c_0 : Nat) (l_1 : Nat) (c_1 : Nat) : chunkA env c q105 u105 (f105 J) d105 (retA env Go.Proofs.Tryz.f105.results.toList k) .root (fset (fset f 0 (.str l_0 c_0)) 1 (.str l_1 c_1)) h = s105_0 c k J l_0 c_0 l_1 c_1 h := by kernel_rfl
theorem w105 {c : Caller Prop FT} (hc : CallOk Go.Proofs.Tryz.prog (CP env) G (fun p => p) c) {k : KV} {n : Nat} {args : List AV} {h : H} (hg : f105 (r105 c k n) 0 (finit args) h) : SW Go.Proofs.Tryz.prog G (.func 105) args h k :=
  fn_ok mixed envOk hc q105 Go.Proofs.Tryz.func105 rfl (by kernel_rfl) (by kernel_rfl) k u105 (fun n => f105 (r105 c k n))
    (fun L f h hl => by
      match L, hl with
      | 0, hl => obtain ⟨_, _, _, hl0⟩ := asS_inv (show _ from hl); obtain ⟨_, _, _, hl1⟩ := asS_inv (show _ from hl0); exact hl1
      | _ + 1, hl => exact hl)
    (fun n p L hm f h hl => by
      simp only [u105, List.mem_cons, Prod.mk.injEq, List.not_mem_nil, or_false] at hm
      rcases hm with ⟨rfl, rfl⟩
      · have hl : f105 (r105 c k (n + 1)) 0 f h := hl
        obtain ⟨l_0, c_0, e_0, hl0⟩ := asS_inv hl
        obtain ⟨l_1, c_1, e_1, hl1⟩ := asS_inv hl0
        have hh := e105_0 c k (r105 c k n) f h l_0 c_0 l_1 c_1
        rw [fset_self e_0] at hh
        rw [fset_self e_1] at hh
        exact Eq.mpr hh hl1
    ) (by simp [u105]) hg

theorem e108_0 (c : Caller Prop FT) (k : KV) (J : J108) (f : FT) (h : H) (v_0 : AV) : chunkA env c q108 u108 (f108 J) d108 (retA env Go.Proofs.Tryz.f108.results.toList k) .root (fset f 0 v_0) h = s108_0 c k J v_0 h := by kernel_rfl
theorem w108 {c : Caller Prop FT} (hc : CallOk Go.Proofs.Tryz.prog (CP env) G (fun p => p) c) {k : KV} {n : Nat} {args : List AV} {h : H} (hg : f108 (r108 c k n) 0 (finit args) h) : SW Go.Proofs.Tryz.prog G (.func 108) args h k :=
  fn_ok mixed envOk hc q108 Go.Proofs.Tryz.func108 rfl (by kernel_rfl) (by kernel_rfl) k u108 (fun n => f108 (r108 c k n))
    (fun L f h hl => by
      match L, hl with
      | 0, hl => exact hl
      | _ + 1, hl => exact hl)
    (fun n p L hm f h hl => by
      simp only [u108, List.mem_cons, Prod.mk.injEq, List.not_mem_nil, or_false] at hm
      rcases hm with ⟨rfl, rfl⟩
      · have hl : f108 (r108 c k (n + 1)) 0 f h := hl
        have hh := e108_0 c k (r108 c k n) f h (f 0)
        rw [fset_self (rfl : f 0 = f 0)] at hh
        exact Eq.mpr hh hl
    ) (by simp [u108]) hg

theorem e112_0 (c : Caller Prop FT) (k : KV) (J : J112) (f : FT) (h : H) (v_0 : AV) (n_1 : Int) : chunkA env c q112 u112 (f112 J) d112 (retA env Go.Proofs.Tryz.f112.results.toList k) .root (fset (fset f 0 v_0) 1 (.int .i64 n_1)) h = s112_0 c k J v_0 n_1 h := by kernel_rfl
theorem w112 {c : Caller Prop FT} (hc : CallOk Go.Proofs.Tryz.prog (CP env) G (fun p => p) c) {k : KV} {n : Nat} {args : List AV} {h : H} (hg : f112 (r112 c k n) 0 (finit args) h) : SW Go.Proofs.Tryz.prog G (.func 112) args h k :=
  fn_ok mixed envOk hc q112 Go.Proofs.Tryz.func112 rfl (by kernel_rfl) (by kernel_rfl) k u112 (fun n => f112 (r112 c k n))
    (fun L f h hl => by
      match L, hl with
      | 0, hl => obtain ⟨_, _, hl0⟩ := asI_inv (show _ from hl); exact hl0
      | _ + 1, hl => exact hl)
    (fun n p L hm f h hl => by
      simp only [u112, List.mem_cons, Prod.mk.injEq, List.not_mem_nil, or_false] at hm
      rcases hm with ⟨rfl, rfl⟩
      · have hl : f112 (r112 c k (n + 1)) 0 f h := hl
        obtain ⟨n_1, e_1, hl1⟩ := asI_inv hl
        have hh := e112_0 c k (r112 c k n) f h (f 0) n_1
        rw [fset_self (rfl : f 0 = f 0)] at hh
        rw [fset_self e_1] at hh
        exact Eq.mpr hh hl1
    ) (by simp [u112]) hg

theorem e124_0 (c : Caller Prop FT) (k : KV) (J : J124) (f : FT) (h : H) (n_0 : Int) : chunkA env c q124 u124 (f124 J) d124 (retA env Go.Proofs.Tryz.f124.results.toList k) .root (fset f 0 (.int .u8 n_0)) h = s124_0 c k J n_0 h := by kernel_rfl
theorem w124 {c : Caller Prop FT} (hc : CallOk Go.Proofs.Tryz.prog (CP env) G (fun p => p) c) {k : KV} {n : Nat} {args : List AV} {h : H} (hg : f124 (r124 c k n) 0 (finit args) h) : SW Go.Proofs.Tryz.prog G (.func 124) args h k :=
  fn_ok mixed envOk hc q124 Go.Proofs.Tryz.func124 rfl (by kernel_rfl) (by kernel_rfl) k u124 (fun n => f124 (r124 c k n))
    (fun L f h hl => by
      match L, hl with
      | 0, hl => obtain ⟨_, _, hl0⟩ := asI_inv (show _ from hl); exact hl0
      | _ + 1, hl => exact hl)
    (fun n p L hm f h hl => by
      simp only [u124, List.mem_cons, Prod.mk.injEq, List.not_mem_nil, or_false] at hm
      rcases hm with ⟨rfl, rfl⟩
      · have hl : f124 (r124 c k (n + 1)) 0 f h := hl
        obtain ⟨n_0, e_0, hl0⟩ := asI_inv hl
        have hh := e124_0 c k (r124 c k n) f h n_0
        rw [fset_self e_0] at hh
        exact Eq.mpr hh hl0
    ) (by simp [u124]) hg

theorem e127_0 (c : Caller Prop FT) (k : KV) (J : J127) (f : FT) (h : H) (v_0 : AV) (n_1 : Int) (n_2 : Int) : chunkA env c q127 u127 (f127 J) d127 (retA env Go.Proofs.Tryz.f127.results.toList k) .root (fset (fset (fset f 0 v_0) 1 (.int .i64 n_1)) 2 (.int .i64 n_2)) h = s127_0 c k J v_0 n_1 n_2 h := by kernel_rfl
theorem w127 {c : Caller Prop FT} (hc : CallOk Go.Proofs.Tryz.prog (CP env) G (fun p => p) c) {k : KV} {n : Nat} {args : List AV} {h : H} (hg : f127 (r127 c k n) 0 (finit args) h) : SW Go.Proofs.Tryz.prog G (.func 127) args h k :=
  fn_ok mixed envOk hc q127 Go.Proofs.Tryz.func127 rfl (by kernel_rfl) (by kernel_rfl) k u127 (fun n => f127 (r127 c k n))
    (fun L f h hl => by
      match L, hl with
      | 0, hl => obtain ⟨_, _, hl0⟩ := asI_inv (show _ from hl); obtain ⟨_, _, hl1⟩ := asI_inv (show _ from hl0); exact hl1
      | _ + 1, hl => exact hl)
    (fun n p L hm f h hl => by
      simp only [u127, List.mem_cons, Prod.mk.injEq, List.not_mem_nil, or_false] at hm
      rcases hm with ⟨rfl, rfl⟩
      · have hl : f127 (r127 c k (n + 1)) 0 f h := hl
        obtain ⟨n_1, e_1, hl1⟩ := asI_inv hl
        obtain ⟨n_2, e_2, hl2⟩ := asI_inv hl1
        have hh := e127_0 c k (r127 c k n) f h (f 0) n_1 n_2
        rw [fset_self (rfl : f 0 = f 0)] at hh
        rw [fset_self e_1] at hh
        rw [fset_self e_2] at hh
        exact Eq.mpr hh hl2
    ) (by simp [u127]) hg

theorem e128_0 (c : Caller Prop FT) (k : KV) (J : J128) (f : FT) (h : H) (v_0 : AV) (l_1 : Nat) (c_1 : Nat) : chunkA env c q128 u128 (f128 J) d128 (retA env Go.Proofs.Tryz.f128.results.toList k) .root (fset (fset f 0 v_0) 1 (.str l_1 c_1)) h = s128_0 c k J v_0 l_1 c_1 h := by kernel_rfl
theorem e128_1 (c : Caller Prop FT) (k : KV) (J : J128) (f : FT) (h : H) (v_0 : AV) (l_1 : Nat) (c_1 : Nat) (n_6 : Int) (n_7 : Int) (n_8 : Int) : chunkA env c q128 u128 (f128 J) d128 (retA env Go.Proofs.Tryz.f128.results.toList k) (.l (.l (.r (.r (.r .root))))) (fset (fset (fset (fset (fset f 0 v_0) 1 (.str l_1 c_1)) 6 (.int .i64 n_6)) 7 (.int .i64 n_7)) 8 (.int .i64 n_8)) h = s128_1 c k J v_0 l_1 c_1 n_6 n_7 n_8 h := by kernel_rfl
theorem w128 {c : Caller Prop FT} (hc : CallOk Go.Proofs.Tryz.prog (CP env) G (fun p => p) c) {k : KV} {n : Nat} {args : List AV} {h : H} (hg : f128 (r128 c k n) 0 (finit args) h) : SW Go.Proofs.Tryz.prog G (.func 128) args h k :=
  fn_ok mixed envOk hc q128 Go.Proofs.Tryz.func128 rfl (by kernel_rfl) (by kernel_rfl) k u128 (fun n => f128 (r128 c k n))
    (fun L f h hl => by
      match L, hl with
      | 0, hl => obtain ⟨_, _, _, hl0⟩ := asS_inv (show _ from hl); exact hl0
      | 1, hl => obtain ⟨_, _, _, hl0⟩ := asS_inv (show _ from hl); obtain ⟨_, _, hl1⟩ := asI_inv (show _ from hl0); obtain ⟨_, _, hl2⟩ := asI_inv (show _ from hl1); obtain ⟨_, _, hl3⟩ := asI_inv (show _ from hl2); exact hl3
      | _ + 2, hl => exact hl)
    (fun n p L hm f h hl => by
      simp only [u128, List.mem_cons, Prod.mk.injEq, List.not_mem_nil, or_false] at hm
      rcases hm with ⟨rfl, rfl⟩ | ⟨rfl, rfl⟩
      · have hl : f128 (r128 c k (n + 1)) 0 f h := hl
        obtain ⟨l_1, c_1, e_1, hl1⟩ := asS_inv hl
        have hh := e128_0 c k (r128 c k n) f h (f 0) l_1 c_1
        rw [fset_self (rfl : f 0 = f 0)] at hh
        rw [fset_self e_1] at hh
        exact Eq.mpr hh hl1
      · have hl : f128 (r128 c k (n + 1)) 1 f h := hl
        obtain ⟨l_1, c_1, e_1, hl1⟩ := asS_inv hl
        obtain ⟨n_6, e_6, hl2⟩ := asI_inv hl1
        obtain ⟨n_7, e_7, hl3⟩ := asI_inv hl2
        obtain ⟨n_8, e_8, hl4⟩ := asI_inv hl3
        have hh := e128_1 c k (r128 c k n) f h (f 0) l_1 c_1 n_6 n_7 n_8
        rw [fset_self (rfl : f 0 = f 0)] at hh
        rw [fset_self e_1] at hh
        rw [fset_self e_6] at hh
        rw [fset_self e_7] at hh
        rw [fset_self e_8] at hh
        exact Eq.mpr hh hl4
    ) (by simp [u128]) hg

theorem e129_0 (c : Caller Prop FT) (k : KV) (J : J129) (f : FT) (h : H) (v_0 : AV) (n_1 : Int) (v_2 : AV) : chunkA env c q129 u129 (f129 J) d129 (retA env Go.Proofs.Tryz.f129.results.toList k) .root (fset (fset (fset f 0 v_0) 1 (.int .i64 n_1)) 2 v_2) h = s129_0 c k J v_0 n_1 v_2 h := by kernel_rfl
theorem e129_1 (c : Caller Prop FT) (k : KV) (J : J129) (f : FT) (h : H) (v_0 : AV) : chunkA env c q129 u129 (f129 J) d129 (retA env Go.Proofs.Tryz.f129.results.toList k) (.r (.r .root)) (fset f 0 v_0) h = s129_1 c k J v_0 h := by kernel_rfl
theorem w129 {c : Caller Prop FT} (hc : CallOk Go.Proofs.Tryz.prog (CP env) G (fun p => p) c) {k : KV} {n : Nat} {args : List AV} {h : H} (hg : f129 (r129 c k n) 0 (finit args) h) : SW Go.Proofs.Tryz.prog G (.func 129) args h k :=
  fn_ok mixed envOk hc q129 Go.Proofs.Tryz.func129 rfl (by kernel_rfl) (by kernel_rfl) k u129 (fun n => f129 (r129 c k n))
    (fun L f h hl => by
      match L, hl with
      | 0, hl => obtain ⟨_, _, hl0⟩ := asI_inv (show _ from hl); exact hl0
      | 1, hl => exact hl
      | _ + 2, hl => exact hl)
    (fun n p L hm f h hl => by
      simp only [u129, List.mem_cons, Prod.mk.injEq, List.not_mem_nil, or_false] at hm
      rcases hm with ⟨rfl, rfl⟩ | ⟨rfl, rfl⟩
      · have hl : f129 (r129 c k (n + 1)) 0 f h := hl
        obtain ⟨n_1, e_1, hl1⟩ := asI_inv hl
        have hh := e129_0 c k (r129 c k n) f h (f 0) n_1 (f 2)
        rw [fset_self (rfl : f 0 = f 0)] at hh
        rw [fset_self e_1] at hh
        rw [fset_self (rfl : f 2 = f 2)] at hh
        exact Eq.mpr hh hl1
      · have hl : f129 (r129 c k (n + 1)) 1 f h := hl
        have hh := e129_1 c k (r129 c k n) f h (f 0)
        rw [fset_self (rfl : f 0 = f 0)] at hh
        exact Eq.mpr hh hl
    ) (by simp [u129]) hg

theorem w132 {c : Caller Prop FT} (hc : CallOk Go.Proofs.Tryz.prog (CP env) G (fun p => p) c) {k : KV} {m : Nat} {a : List AV} {h : H} (hg : runJ env c q132 u132 d132 (retA env Go.Proofs.Tryz.f132.results.toList k) m 0 (finit a) h) : SW Go.Proofs.Tryz.prog G (.func 132) a h k := fnI_ok mixed envOk hc q132 Go.Proofs.Tryz.func132 rfl (by kernel_rfl) (by kernel_rfl) (by kernel_rfl) (by simp [u132]) hg
theorem w140 {c : Caller Prop FT} (hc : CallOk Go.Proofs.Tryz.prog (CP env) G (fun p => p) c) {k : KV} {m : Nat} {a : List AV} {h : H} (hg : runJ env c q140 u140 d140 (retA env Go.Proofs.Tryz.f140.results.toList k) m 0 (finit a) h) : SW Go.Proofs.Tryz.prog G (.func 140) a h k := fnI_ok mixed envOk hc q140 Go.Proofs.Tryz.func140 rfl (by kernel_rfl) (by kernel_rfl) (by kernel_rfl) (by simp [u140]) hg
theorem w143 {c : Caller Prop FT} (hc : CallOk Go.Proofs.Tryz.prog (CP env) G (fun p => p) c) {k : KV} {m : Nat} {a : List AV} {h : H} (hg : runJ env c q143 u143 d143 (retA env Go.Proofs.Tryz.f143.results.toList k) m 0 (finit a) h) : SW Go.Proofs.Tryz.prog G (.func 143) a h k := fnI_ok mixed envOk hc q143 Go.Proofs.Tryz.func143 rfl (by kernel_rfl) (by kernel_rfl) (by kernel_rfl) (by simp [u143]) hg
theorem w146 {c : Caller Prop FT} (hc : CallOk Go.Proofs.Tryz.prog (CP env) G (fun p => p) c) {k : KV} {m : Nat} {a : List AV} {h : H} (hg : runJ env c q146 u146 d146 (retA env Go.Proofs.Tryz.f146.results.toList k) m 0 (finit a) h) : SW Go.Proofs.Tryz.prog G (.func 146) a h k := fnI_ok mixed envOk hc q146 Go.Proofs.Tryz.func146 rfl (by kernel_rfl) (by kernel_rfl) (by kernel_rfl) (by simp [u146]) hg
theorem e151_0 (c : Caller Prop FT) (k : KV) (J : J151) (f : FT) (h : H) (l_0 : Nat) (c_0 : Nat) (l_1 : Nat) (c_1 : Nat) : chunkA env c q151 u151 (f151 J) d151 (retA env Go.Proofs.Tryz.f151.results.toList k) .root (fset (fset f 0 (.str l_0 c_0)) 1 (.str l_1 c_1)) h = s151_0 c k J l_0 c_0 l_1 c_1 h := by kernel_rfl
theorem e151_1 (c : Caller Prop FT) (k : KV) (J : J151) (f : FT) (h : H) (l_0 : Nat) (c_0 : Nat) (l_1 : Nat) (c_1 : Nat) (n_5 : Int) (n_6 : Int) (n_7 : Int) (n_8 : Int) (n_9 : Int) (n_10 : Int) : chunkA env c q151 u151 (f151 J) d151 (retA env Go.Proofs.Tryz.f151.results.toList k) (.l (.l (.r (.r (.r (.r (.r (.r (.r (.r .root)))))))))) (fset (fset (fset (fset (fset (fset (fset (fset f 0 (.str l_0 c_0)) 1 (.str l_1 c_1)) 5 (.int .i64 n_5)) 6 (.int .u8 n_6)) 7 (.int .u8 n_7)) 8 (.int .i64 n_8)) 9 (.int .i64 n_9)) 10 (.int .i64 n_10)) h = s151_1 c k J l_0 c_0 l_1 c_1 n_5 n_6 n_7 n_8 n_9 n_10 h := by kernel_rfl
theorem e151_2 (c : Caller Prop FT) (k : KV) (J : J151) (f : FT) (h : H) (l_0 : Nat) (c_0 : Nat) (l_1 : Nat) (c_1 : Nat) (n_5 : Int) (n_6 : Int) (n_7 : Int) (n_8 : Int) (n_9 : Int) (n_10 : Int) : chunkA env c q151 u151 (f151 J) d151 (retA env Go.Proofs.Tryz.f151.results.toList k) (.r (.l (.r (.l (.l (.l (.r (.r (.r (.r (.r (.r (.r (.r .root)))))))))))))) (fset (fset (fset (fset (fset (fset (fset (fset f 0 (.str l_0 c_0)) 1 (.str l_1 c_1)) 5 (.int .i64 n_5)) 6 (.int .u8 n_6)) 7 (.int .u8 n_7)) 8 (.int .i64 n_8)) 9 (.int .i64 n_9)) 10 (.int .i64 n_10)) h = s151_2 c k J l_0 c_0 l_1 c_1 n_5 n_6 n_7 n_8 n_9 n_10 h := by kernel_rfl
theorem w151 {c : Caller Prop FT} (hc : CallOk Go.Proofs.Tryz.prog (CP env) G (fun p => p) c) {k : KV} {n : Nat} {args : List AV} {h : H} (hg : f151 (r151 c k n) 0 (finit args) h) : SW Go.Proofs.Tryz.prog G (.func 151) args h k :=
  fn_ok mixed envOk hc q151 Go.Proofs.Tryz.func151 rfl (by kernel_rfl) (by kernel_rfl) k u151 (fun n => f151 (r151 c k n))
    (fun L f h hl => by
      match L, hl with
      | 0, hl => obtain ⟨_, _, _, hl0⟩ := asS_inv (show _ from hl); obtain ⟨_, _, _, hl1⟩ := asS_inv (show _ from hl0); exact hl1
      | 1, hl => obtain ⟨_, _, _, hl0⟩ := asS_inv (show _ from hl); obtain ⟨_, _, _, hl1⟩ := asS_inv (show _ from hl0); obtain ⟨_, _, hl2⟩ := asI_inv (show _ from hl1); obtain ⟨_, _, hl3⟩ := asI_inv (show _ from hl2); obtain ⟨_, _, hl4⟩ := asI_inv (show _ from hl3); obtain ⟨_, _, hl5⟩ := asI_inv (show _ from hl4); obtain ⟨_, _, hl6⟩ := asI_inv (show _ from hl5); obtain ⟨_, _, hl7⟩ := asI_inv (show _ from hl6); exact hl7
      | 2, hl => obtain ⟨_, _, _, hl0⟩ := asS_inv (show _ from hl); obtain ⟨_, _, _, hl1⟩ := asS_inv (show _ from hl0); obtain ⟨_, _, hl2⟩ := asI_inv (show _ from hl1); obtain ⟨_, _, hl3⟩ := asI_inv (show _ from hl2); obtain ⟨_, _, hl4⟩ := asI_inv (show _ from hl3); obtain ⟨_, _, hl5⟩ := asI_inv (show _ from hl4); obtain ⟨_, _, hl6⟩ := asI_inv (show _ from hl5); obtain ⟨_, _, hl7⟩ := asI_inv (show _ from hl6); exact hl7
      | _ + 3, hl => exact hl)
    (fun n p L hm f h hl => by
      simp only [u151, List.mem_cons, Prod.mk.injEq, List.not_mem_nil, or_false] at hm
      rcases hm with ⟨rfl, rfl⟩ | ⟨rfl, rfl⟩ | ⟨rfl, rfl⟩
      · have hl : f151 (r151 c k (n + 1)) 0 f h := hl
        obtain ⟨l_0, c_0, e_0, hl0⟩ := asS_inv hl
        obtain ⟨l_1, c_1, e_1, hl1⟩ := asS_inv hl0
        have hh := e151_0 c k (r151 c k n) f h l_0 c_0 l_1 c_1
        rw [fset_self e_0] at hh
        rw [fset_self e_1] at hh
        exact Eq.mpr hh hl1
      · have hl : f151 (r151 c k (n + 1)) 1 f h := hl
        obtain ⟨l_0, c_0, e_0, hl0⟩ := asS_inv hl
        obtain ⟨l_1, c_1, e_1, hl1⟩ := asS_inv hl0
        obtain ⟨n_5, e_5, hl2⟩ := asI_inv hl1
        obtain ⟨n_6, e_6, hl3⟩ := asI_inv hl2
        obtain ⟨n_7, e_7, hl4⟩ := asI_inv hl3
        obtain ⟨n_8, e_8, hl5⟩ := asI_inv hl4
        obtain ⟨n_9, e_9, hl6⟩ := asI_inv hl5
        obtain ⟨n_10, e_10, hl7⟩ := asI_inv hl6
        have hh := e151_1 c k (r151 c k n) f h l_0 c_0 l_1 c_1 n_5 n_6 n_7 n_8 n_9 n_10
        rw [fset_self e_0] at hh
        rw [fset_self e_1] at hh
        rw [fset_self e_5] at hh
        rw [fset_self e_6] at hh
        rw [fset_self e_7] at hh
        rw [fset_self e_8] at hh
        rw [fset_self e_9] at hh
        rw [fset_self e_10] at hh
        exact Eq.mpr hh hl7
      · have hl : f151 (r151 c k (n + 1)) 2 f h := hl
        obtain ⟨l_0, c_0, e_0, hl0⟩ := asS_inv hl
        obtain ⟨l_1, c_1, e_1, hl1⟩ := asS_inv hl0
        obtain ⟨n_5, e_5, hl2⟩ := asI_inv hl1
        obtain ⟨n_6, e_6, hl3⟩ := asI_inv hl2
        obtain ⟨n_7, e_7, hl4⟩ := asI_inv hl3
        obtain ⟨n_8, e_8, hl5⟩ := asI_inv hl4
        obtain ⟨n_9, e_9, hl6⟩ := asI_inv hl5
        obtain ⟨n_10, e_10, hl7⟩ := asI_inv hl6
        have hh := e151_2 c k (r151 c k n) f h l_0 c_0 l_1 c_1 n_5 n_6 n_7 n_8 n_9 n_10
        rw [fset_self e_0] at hh
        rw [fset_self e_1] at hh
        rw [fset_self e_5] at hh
        rw [fset_self e_6] at hh
        rw [fset_self e_7] at hh
        rw [fset_self e_8] at hh
        rw [fset_self e_9] at hh
        rw [fset_self e_10] at hh
        exact Eq.mpr hh hl7
    ) (by simp [u151]) hg

theorem e153_0 (c : Caller Prop FT) (k : KV) (J : J153) (f : FT) (h : H) (v_0 : AV) : chunkA env c q153 u153 (f153 J) d153 (retA env Go.Proofs.Tryz.f153.results.toList k) .root (fset f 0 v_0) h = s153_0 c k J v_0 h := by kernel_rfl
theorem e153_1 (c : Caller Prop FT) (k : KV) (J : J153) (f : FT) (h : H) (v_0 : AV) (v_7 : AV) (n_8 : Int) (n_9 : Int) : chunkA env c q153 u153 (f153 J) d153 (retA env Go.Proofs.Tryz.f153.results.toList k) (.l (.r (.r .root))) (fset (fset (fset (fset f 0 v_0) 7 v_7) 8 (.int .i64 n_8)) 9 (.int .i64 n_9)) h = s153_1 c k J v_0 v_7 n_8 n_9 h := by kernel_rfl
theorem w153 {c : Caller Prop FT} (hc : CallOk Go.Proofs.Tryz.prog (CP env) G (fun p => p) c) {k : KV} {n : Nat} {args : List AV} {h : H} (hg : f153 (r153 c k n) 0 (finit args) h) : SW Go.Proofs.Tryz.prog G (.func 153) args h k :=
  fn_ok mixed envOk hc q153 Go.Proofs.Tryz.func153 rfl (by kernel_rfl) (by kernel_rfl) k u153 (fun n => f153 (r153 c k n))
    (fun L f h hl => by
      match L, hl with
      | 0, hl => exact hl
      | 1, hl => obtain ⟨_, _, hl0⟩ := asI_inv (show _ from hl); obtain ⟨_, _, hl1⟩ := asI_inv (show _ from hl0); exact hl1
      | _ + 2, hl => exact hl)
    (fun n p L hm f h hl => by
      simp only [u153, List.mem_cons, Prod.mk.injEq, List.not_mem_nil, or_false] at hm
      rcases hm with ⟨rfl, rfl⟩ | ⟨rfl, rfl⟩
      · have hl : f153 (r153 c k (n + 1)) 0 f h := hl
        have hh := e153_0 c k (r153 c k n) f h (f 0)
        rw [fset_self (rfl : f 0 = f 0)] at hh
        exact Eq.mpr hh hl
      · have hl : f153 (r153 c k (n + 1)) 1 f h := hl
        obtain ⟨n_8, e_8, hl2⟩ := asI_inv hl
        obtain ⟨n_9, e_9, hl3⟩ := asI_inv hl2
        have hh := e153_1 c k (r153 c k n) f h (f 0) (f 7) n_8 n_9
        rw [fset_self (rfl : f 0 = f 0)] at hh
        rw [fset_self (rfl : f 7 = f 7)] at hh
        rw [fset_self e_8] at hh
        rw [fset_self e_9] at hh
        exact Eq.mpr hh hl3
    ) (by simp [u153]) hg

theorem e158_0 (c : Caller Prop FT) (k : KV) (J : J158) (f : FT) (h : H) (v_0 : AV) : chunkA env c q158 u158 (f158 J) d158 (retA env Go.Proofs.Tryz.f158.results.toList k) .root (fset f 0 v_0) h = s158_0 c k J v_0 h := by kernel_rfl
theorem e158_1 (c : Caller Prop FT) (k : KV) (J : J158) (f : FT) (h : H) (v_0 : AV) (v_2 : AV) (v_3 : AV) (v_14 : AV) (n_15 : Int) (n_16 : Int) : chunkA env c q158 u158 (f158 J) d158 (retA env Go.Proofs.Tryz.f158.results.toList k) (.l (.r (.l (.r .root)))) (fset (fset (fset (fset (fset (fset f 0 v_0) 2 v_2) 3 v_3) 14 v_14) 15 (.int .i64 n_15)) 16 (.int .i64 n_16)) h = s158_1 c k J v_0 v_2 v_3 v_14 n_15 n_16 h := by kernel_rfl
theorem e158_2 (c : Caller Prop FT) (k : KV) (J : J158) (f : FT) (h : H) (v_0 : AV) (v_2 : AV) (v_3 : AV) (v_5 : AV) (v_14 : AV) (n_15 : Int) (n_16 : Int) : chunkA env c q158 u158 (f158 J) d158 (retA env Go.Proofs.Tryz.f158.results.toList k) (.r (.r (.l (.l (.r (.r (.l (.l (.r (.l (.r .root))))))))))) (fset (fset (fset (fset (fset (fset (fset f 0 v_0) 2 v_2) 3 v_3) 5 v_5) 14 v_14) 15 (.int .i64 n_15)) 16 (.int .i64 n_16)) h = s158_2 c k J v_0 v_2 v_3 v_5 v_14 n_15 n_16 h := by kernel_rfl
theorem w158 {c : Caller Prop FT} (hc : CallOk Go.Proofs.Tryz.prog (CP env) G (fun p => p) c) {k : KV} {n : Nat} {args : List AV} {h : H} (hg : f158 (r158 c k n) 0 (finit args) h) : SW Go.Proofs.Tryz.prog G (.func 158) args h k :=
  fn_ok mixed envOk hc q158 Go.Proofs.Tryz.func158 rfl (by kernel_rfl) (by kernel_rfl) k u158 (fun n => f158 (r158 c k n))
    (fun L f h hl => by
      match L, hl with
      | 0, hl => exact hl
      | 1, hl => obtain ⟨_, _, hl0⟩ := asI_inv (show _ from hl); obtain ⟨_, _, hl1⟩ := asI_inv (show _ from hl0); exact hl1
      | 2, hl => obtain ⟨_, _, hl0⟩ := asI_inv (show _ from hl); obtain ⟨_, _, hl1⟩ := asI_inv (show _ from hl0); exact hl1
      | _ + 3, hl => exact hl)
    (fun n p L hm f h hl => by
      simp only [u158, List.mem_cons, Prod.mk.injEq, List.not_mem_nil, or_false] at hm
      rcases hm with ⟨rfl, rfl⟩ | ⟨rfl, rfl⟩ | ⟨rfl, rfl⟩
      · have hl : f158 (r158 c k (n + 1)) 0 f h := hl
        have hh := e158_0 c k (r158 c k n) f h (f 0)
        rw [fset_self (rfl : f 0 = f 0)] at hh
        exact Eq.mpr hh hl
      · have hl : f158 (r158 c k (n + 1)) 1 f h := hl
        obtain ⟨n_15, e_15, hl4⟩ := asI_inv hl
        obtain ⟨n_16, e_16, hl5⟩ := asI_inv hl4
        have hh := e158_1 c k (r158 c k n) f h (f 0) (f 2) (f 3) (f 14) n_15 n_16
        rw [fset_self (rfl : f 0 = f 0)] at hh
        rw [fset_self (rfl : f 2 = f 2)] at hh
        rw [fset_self (rfl : f 3 = f 3)] at hh
        rw [fset_self (rfl : f 14 = f 14)] at hh
        rw [fset_self e_15] at hh
        rw [fset_self e_16] at hh
        exact Eq.mpr hh hl5
      · have hl : f158 (r158 c k (n + 1)) 2 f h := hl
        obtain ⟨n_15, e_15, hl5⟩ := asI_inv hl
        obtain ⟨n_16, e_16, hl6⟩ := asI_inv hl5
        have hh := e158_2 c k (r158 c k n) f h (f 0) (f 2) (f 3) (f 5) (f 14) n_15 n_16
        rw [fset_self (rfl : f 0 = f 0)] at hh
        rw [fset_self (rfl : f 2 = f 2)] at hh
        rw [fset_self (rfl : f 3 = f 3)] at hh
        rw [fset_self (rfl : f 5 = f 5)] at hh
        rw [fset_self (rfl : f 14 = f 14)] at hh
        rw [fset_self e_15] at hh
        rw [fset_self e_16] at hh
        exact Eq.mpr hh hl6
    ) (by simp [u158]) hg

theorem e161_0 (c : Caller Prop FT) (k : KV) (J : J161) (f : FT) (h : H) (v_0 : AV) (n_1 : Int) : chunkA env c q161 u161 (f161 J) d161 (retA env Go.Proofs.Tryz.f161.results.toList k) .root (fset (fset f 0 v_0) 1 (.int .i64 n_1)) h = s161_0 c k J v_0 n_1 h := by kernel_rfl
theorem e161_1 (c : Caller Prop FT) (k : KV) (J : J161) (f : FT) (h : H) (v_0 : AV) (n_1 : Int) : chunkA env c q161 u161 (f161 J) d161 (retA env Go.Proofs.Tryz.f161.results.toList k) (.l (.r (.r .root))) (fset (fset f 0 v_0) 1 (.int .i64 n_1)) h = s161_1 c k J v_0 n_1 h := by kernel_rfl
theorem w161 {c : Caller Prop FT} (hc : CallOk Go.Proofs.Tryz.prog (CP env) G (fun p => p) c) {k : KV} {n : Nat} {args : List AV} {h : H} (hg : f161 (r161 c k n) 0 (finit args) h) : SW Go.Proofs.Tryz.prog G (.func 161) args h k :=
  fn_ok mixed envOk hc q161 Go.Proofs.Tryz.func161 rfl (by kernel_rfl) (by kernel_rfl) k u161 (fun n => f161 (r161 c k n))
    (fun L f h hl => by
      match L, hl with
      | 0, hl => obtain ⟨_, _, hl0⟩ := asI_inv (show _ from hl); exact hl0
      | 1, hl => obtain ⟨_, _, hl0⟩ := asI_inv (show _ from hl); exact hl0
      | _ + 2, hl => exact hl)
    (fun n p L hm f h hl => by
      simp only [u161, List.mem_cons, Prod.mk.injEq, List.not_mem_nil, or_false] at hm
      rcases hm with ⟨rfl, rfl⟩ | ⟨rfl, rfl⟩
      · have hl : f161 (r161 c k (n + 1)) 0 f h := hl
        obtain ⟨n_1, e_1, hl1⟩ := asI_inv hl
        have hh := e161_0 c k (r161 c k n) f h (f 0) n_1
        rw [fset_self (rfl : f 0 = f 0)] at hh
        rw [fset_self e_1] at hh
        exact Eq.mpr hh hl1
      · have hl : f161 (r161 c k (n + 1)) 1 f h := hl
        obtain ⟨n_1, e_1, hl1⟩ := asI_inv hl
        have hh := e161_1 c k (r161 c k n) f h (f 0) n_1
        rw [fset_self (rfl : f 0 = f 0)] at hh
        rw [fset_self e_1] at hh
        exact Eq.mpr hh hl1
    ) (by simp [u161]) hg

theorem e175_0 (c : Caller Prop FT) (k : KV) (J : J175) (f : FT) (h : H) (v_0 : AV) : chunkA env c q175 u175 (f175 J) d175 (retA env Go.Proofs.Tryz.f175.results.toList k) .root (fset f 0 v_0) h = s175_0 c k J v_0 h := by kernel_rfl
theorem e175_1 (c : Caller Prop FT) (k : KV) (J : J175) (f : FT) (h : H) (v_0 : AV) (n_3 : Int) : chunkA env c q175 u175 (f175 J) d175 (retA env Go.Proofs.Tryz.f175.results.toList k) (.l (.r (.r (.r (.r (.r .root)))))) (fset (fset f 0 v_0) 3 (.int .i64 n_3)) h = s175_1 c k J v_0 n_3 h := by kernel_rfl
theorem e175_2 (c : Caller Prop FT) (k : KV) (J : J175) (f : FT) (h : H) (v_0 : AV) (n_3 : Int) : chunkA env c q175 u175 (f175 J) d175 (retA env Go.Proofs.Tryz.f175.results.toList k) (.r (.l (.l (.r (.r (.r (.r (.r .root)))))))) (fset (fset f 0 v_0) 3 (.int .i64 n_3)) h = s175_2 c k J v_0 n_3 h := by kernel_rfl
theorem e175_3 (c : Caller Prop FT) (k : KV) (J : J175) (f : FT) (h : H) (v_0 : AV) (n_3 : Int) : chunkA env c q175 u175 (f175 J) d175 (retA env Go.Proofs.Tryz.f175.results.toList k) (.r (.r (.r .root))) (fset (fset f 0 v_0) 3 (.int .i64 n_3)) h = s175_3 c k J v_0 n_3 h := by kernel_rfl
theorem w175 {c : Caller Prop FT} (hc : CallOk Go.Proofs.Tryz.prog (CP env) G (fun p => p) c) {k : KV} {n : Nat} {args : List AV} {h : H} (hg : f175 (r175 c k n) 0 (finit args) h) : SW Go.Proofs.Tryz.prog G (.func 175) args h k :=
  fn_ok mixed envOk hc q175 Go.Proofs.Tryz.func175 rfl (by kernel_rfl) (by kernel_rfl) k u175 (fun n => f175 (r175 c k n))
    (fun L f h hl => by
      match L, hl with
      | 0, hl => exact hl
      | 1, hl => obtain ⟨_, _, hl0⟩ := asI_inv (show _ from hl); exact hl0
      | 2, hl => obtain ⟨_, _, hl0⟩ := asI_inv (show _ from hl); exact hl0
      | 3, hl => obtain ⟨_, _, hl0⟩ := asI_inv (show _ from hl); exact hl0
      | _ + 4, hl => exact hl)
    (fun n p L hm f h hl => by
      simp only [u175, List.mem_cons, Prod.mk.injEq, List.not_mem_nil, or_false] at hm
      rcases hm with ⟨rfl, rfl⟩ | ⟨rfl, rfl⟩ | ⟨rfl, rfl⟩ | ⟨rfl, rfl⟩
      · have hl : f175 (r175 c k (n + 1)) 0 f h := hl
        have hh := e175_0 c k (r175 c k n) f h (f 0)
        rw [fset_self (rfl : f 0 = f 0)] at hh
        exact Eq.mpr hh hl
      · have hl : f175 (r175 c k (n + 1)) 1 f h := hl
        obtain ⟨n_3, e_3, hl1⟩ := asI_inv hl
        have hh := e175_1 c k (r175 c k n) f h (f 0) n_3
        rw [fset_self (rfl : f 0 = f 0)] at hh
        rw [fset_self e_3] at hh
        exact Eq.mpr hh hl1
      · have hl : f175 (r175 c k (n + 1)) 2 f h := hl
        obtain ⟨n_3, e_3, hl1⟩ := asI_inv hl
        have hh := e175_2 c k (r175 c k n) f h (f 0) n_3
        rw [fset_self (rfl : f 0 = f 0)] at hh
        rw [fset_self e_3] at hh
        exact Eq.mpr hh hl1
      · have hl : f175 (r175 c k (n + 1)) 3 f h := hl
        obtain ⟨n_3, e_3, hl1⟩ := asI_inv hl
        have hh := e175_3 c k (r175 c k n) f h (f 0) n_3
        rw [fset_self (rfl : f 0 = f 0)] at hh
        rw [fset_self e_3] at hh
        exact Eq.mpr hh hl1
    ) (by simp [u175]) hg

theorem e176_0 (c : Caller Prop FT) (k : KV) (J : J176) (f : FT) (h : H) (v_0 : AV) : chunkA env c q176 u176 (f176 J) d176 (retA env Go.Proofs.Tryz.f176.results.toList k) .root (fset f 0 v_0) h = s176_0 c k J v_0 h := by kernel_rfl
theorem e176_1 (c : Caller Prop FT) (k : KV) (J : J176) (f : FT) (h : H) (v_0 : AV) (v_8 : AV) (n_9 : Int) (n_10 : Int) : chunkA env c q176 u176 (f176 J) d176 (retA env Go.Proofs.Tryz.f176.results.toList k) (.l (.r (.l (.r (.r .root))))) (fset (fset (fset (fset f 0 v_0) 8 v_8) 9 (.int .i64 n_9)) 10 (.int .i64 n_10)) h = s176_1 c k J v_0 v_8 n_9 n_10 h := by kernel_rfl
theorem w176 {c : Caller Prop FT} (hc : CallOk Go.Proofs.Tryz.prog (CP env) G (fun p => p) c) {k : KV} {n : Nat} {args : List AV} {h : H} (hg : f176 (r176 c k n) 0 (finit args) h) : SW Go.Proofs.Tryz.prog G (.func 176) args h k :=
  fn_ok mixed envOk hc q176 Go.Proofs.Tryz.func176 rfl (by kernel_rfl) (by kernel_rfl) k u176 (fun n => f176 (r176 c k n))
    (fun L f h hl => by
      match L, hl with
      | 0, hl => exact hl
      | 1, hl => obtain ⟨_, _, hl0⟩ := asI_inv (show _ from hl); obtain ⟨_, _, hl1⟩ := asI_inv (show _ from hl0); exact hl1
      | _ + 2, hl => exact hl)
    (fun n p L hm f h hl => by
      simp only [u176, List.mem_cons, Prod.mk.injEq, List.not_mem_nil, or_false] at hm
      rcases hm with ⟨rfl, rfl⟩ | ⟨rfl, rfl⟩
      · have hl : f176 (r176 c k (n + 1)) 0 f h := hl
        have hh := e176_0 c k (r176 c k n) f h (f 0)
        rw [fset_self (rfl : f 0 = f 0)] at hh
        exact Eq.mpr hh hl
      · have hl : f176 (r176 c k (n + 1)) 1 f h := hl
        obtain ⟨n_9, e_9, hl2⟩ := asI_inv hl
        obtain ⟨n_10, e_10, hl3⟩ := asI_inv hl2
        have hh := e176_1 c k (r176 c k n) f h (f 0) (f 8) n_9 n_10
        rw [fset_self (rfl : f 0 = f 0)] at hh
        rw [fset_self (rfl : f 8 = f 8)] at hh
        rw [fset_self e_9] at hh
        rw [fset_self e_10] at hh
        exact Eq.mpr hh hl3
    ) (by simp [u176]) hg

theorem w179 {c : Caller Prop FT} (hc : CallOk Go.Proofs.Tryz.prog (CP env) G (fun p => p) c) {k : KV} {m : Nat} {a : List AV} {h : H} (hg : runJ env c q179 u179 d179 (retA env Go.Proofs.Tryz.f179.results.toList k) m 0 (finit a) h) : SW Go.Proofs.Tryz.prog G (.func 179) a h k := fnI_ok mixed envOk hc q179 Go.Proofs.Tryz.func179 rfl (by kernel_rfl) (by kernel_rfl) (by kernel_rfl) (by simp [u179]) hg
theorem w184 {c : Caller Prop FT} (hc : CallOk Go.Proofs.Tryz.prog (CP env) G (fun p => p) c) {k : KV} {m : Nat} {a : List AV} {h : H} (hg : runJ env c q184 u184 d184 (retA env Go.Proofs.Tryz.f184.results.toList k) m 0 (finit a) h) : SW Go.Proofs.Tryz.prog G (.func 184) a h k := fnI_ok mixed envOk hc q184 Go.Proofs.Tryz.func184 rfl (by kernel_rfl) (by kernel_rfl) (by kernel_rfl) (by simp [u184]) hg
theorem w187 {c : Caller Prop FT} (hc : CallOk Go.Proofs.Tryz.prog (CP env) G (fun p => p) c) {k : KV} {m : Nat} {a : List AV} {h : H} (hg : runJ env c q187 u187 d187 (retA env Go.Proofs.Tryz.f187.results.toList k) m 0 (finit a) h) : SW Go.Proofs.Tryz.prog G (.func 187) a h k := fnI_ok mixed envOk hc q187 Go.Proofs.Tryz.func187 rfl (by kernel_rfl) (by kernel_rfl) (by kernel_rfl) (by simp [u187]) hg
theorem w190 {c : Caller Prop FT} (hc : CallOk Go.Proofs.Tryz.prog (CP env) G (fun p => p) c) {k : KV} {m : Nat} {a : List AV} {h : H} (hg : runJ env c q190 u190 d190 (retA env Go.Proofs.Tryz.f190.results.toList k) m 0 (finit a) h) : SW Go.Proofs.Tryz.prog G (.func 190) a h k := fnI_ok mixed envOk hc q190 Go.Proofs.Tryz.func190 rfl (by kernel_rfl) (by kernel_rfl) (by kernel_rfl) (by simp [u190]) hg
theorem e192_0 (c : Caller Prop FT) (k : KV) (J : J192) (f : FT) (h : H) (l_0 : Nat) (c_0 : Nat) (l_1 : Nat) (c_1 : Nat) : chunkA env c q192 u192 (f192 J) d192 (retA env Go.Proofs.Tryz.f192.results.toList k) .root (fset (fset f 0 (.str l_0 c_0)) 1 (.str l_1 c_1)) h = s192_0 c k J l_0 c_0 l_1 c_1 h := by kernel_rfl
theorem w192 {c : Caller Prop FT} (hc : CallOk Go.Proofs.Tryz.prog (CP env) G (fun p => p) c) {k : KV} {n : Nat} {args : List AV} {h : H} (hg : f192 (r192 c k n) 0 (finit args) h) : SW Go.Proofs.Tryz.prog G (.func 192) args h k :=
  fn_ok mixed envOk hc q192 Go.Proofs.Tryz.func192 rfl (by kernel_rfl) (by kernel_rfl) k u192 (fun n => f192 (r192 c k n))
    (fun L f h hl => by
      match L, hl with
      | 0, hl => obtain ⟨_, _, _, hl0⟩ := asS_inv (show _ from hl); obtain ⟨_, _, _, hl1⟩ := asS_inv (show _ from hl0); exact hl1
      | _ + 1, hl => exact hl)
    (fun n p L hm f h hl => by
      simp only [u192, List.mem_cons, Prod.mk.injEq, List.not_mem_nil, or_false] at hm
      rcases hm with ⟨rfl, rfl⟩
      · have hl : f192 (r192 c k (n + 1)) 0 f h := hl
        obtain ⟨l_0, c_0, e_0, hl0⟩ := asS_inv hl
        obtain ⟨l_1, c_1, e_1, hl1⟩ := asS_inv hl0
        have hh := e192_0 c k (r192 c k n) f h l_0 c_0 l_1 c_1
        rw [fset_self e_0] at hh
        rw [fset_self e_1] at hh
        exact Eq.mpr hh hl1
    ) (by simp [u192]) hg

theorem w217 {c : Caller Prop FT} (hc : CallOk Go.Proofs.Tryz.prog (CP env) G (fun p => p) c) {k : KV} {m : Nat} {a : List AV} {h : H} (hg : runJ env c q217 u217 d217 (retA env Go.Proofs.Tryz.f217.results.toList k) m 0 (finit a) h) : SW Go.Proofs.Tryz.prog G (.func 217) a h k := fnI_ok mixed envOk hc q217 Go.Proofs.Tryz.func217 rfl (by kernel_rfl) (by kernel_rfl) (by kernel_rfl) (by simp [u217]) hg
theorem e221_0 (c : Caller Prop FT) (k : KV) (J : J221) (f : FT) (h : H) (v_0 : AV) : chunkA env c q221 u221 (f221 J) d221 (retA env Go.Proofs.Tryz.f221.results.toList k) .root (fset f 0 v_0) h = s221_0 c k J v_0 h := by kernel_rfl
theorem w221 {c : Caller Prop FT} (hc : CallOk Go.Proofs.Tryz.prog (CP env) G (fun p => p) c) {k : KV} {n : Nat} {args : List AV} {h : H} (hg : f221 (r221 c k n) 0 (finit args) h) : SW Go.Proofs.Tryz.prog G (.func 221) args h k :=
  fn_ok mixed envOk hc q221 Go.Proofs.Tryz.func221 rfl (by kernel_rfl) (by kernel_rfl) k u221 (fun n => f221 (r221 c k n))
    (fun L f h hl => by
      match L, hl with
      | 0, hl => exact hl
      | _ + 1, hl => exact hl)
    (fun n p L hm f h hl => by
      simp only [u221, List.mem_cons, Prod.mk.injEq, List.not_mem_nil, or_false] at hm
      rcases hm with ⟨rfl, rfl⟩
      · have hl : f221 (r221 c k (n + 1)) 0 f h := hl
        have hh := e221_0 c k (r221 c k n) f h (f 0)
        rw [fset_self (rfl : f 0 = f 0)] at hh
        exact Eq.mpr hh hl
    ) (by simp [u221]) hg

theorem w223 {c : Caller Prop FT} (hc : CallOk Go.Proofs.Tryz.prog (CP env) G (fun p => p) c) {k : KV} {m : Nat} {a : List AV} {h : H} (hg : runJ env c q223 u223 d223 (retA env Go.Proofs.Tryz.f223.results.toList k) m 0 (finit a) h) : SW Go.Proofs.Tryz.prog G (.func 223) a h k := fnI_ok mixed envOk hc q223 Go.Proofs.Tryz.func223 rfl (by kernel_rfl) (by kernel_rfl) (by kernel_rfl) (by simp [u223]) hg
theorem e241_0 (c : Caller Prop FT) (k : KV) (J : J241) (f : FT) (h : H) (v_0 : AV) (n_1 : Int) : chunkA env c q241 u241 (f241 J) d241 (retA env Go.Proofs.Tryz.f241.results.toList k) .root (fset (fset f 0 v_0) 1 (.int .i64 n_1)) h = s241_0 c k J v_0 n_1 h := by kernel_rfl
theorem w241 {c : Caller Prop FT} (hc : CallOk Go.Proofs.Tryz.prog (CP env) G (fun p => p) c) {k : KV} {n : Nat} {args : List AV} {h : H} (hg : f241 (r241 c k n) 0 (finit args) h) : SW Go.Proofs.Tryz.prog G (.func 241) args h k :=
  fn_ok mixed envOk hc q241 Go.Proofs.Tryz.func241 rfl (by kernel_rfl) (by kernel_rfl) k u241 (fun n => f241 (r241 c k n))
    (fun L f h hl => by
      match L, hl with
      | 0, hl => obtain ⟨_, _, hl0⟩ := asI_inv (show _ from hl); exact hl0
      | _ + 1, hl => exact hl)
    (fun n p L hm f h hl => by
      simp only [u241, List.mem_cons, Prod.mk.injEq, List.not_mem_nil, or_false] at hm
      rcases hm with ⟨rfl, rfl⟩
      · have hl : f241 (r241 c k (n + 1)) 0 f h := hl
        obtain ⟨n_1, e_1, hl1⟩ := asI_inv hl
        have hh := e241_0 c k (r241 c k n) f h (f 0) n_1
        rw [fset_self (rfl : f 0 = f 0)] at hh
        rw [fset_self e_1] at hh
        exact Eq.mpr hh hl1
    ) (by simp [u241]) hg

theorem w252 {c : Caller Prop FT} (hc : CallOk Go.Proofs.Tryz.prog (CP env) G (fun p => p) c) {k : KV} {m : Nat} {a : List AV} {h : H} (hg : runJ env c q252 u252 d252 (retA env Go.Proofs.Tryz.f252.results.toList k) m 0 (finit a) h) : SW Go.Proofs.Tryz.prog G (.func 252) a h k := fnI_ok mixed envOk hc q252 Go.Proofs.Tryz.func252 rfl (by kernel_rfl) (by kernel_rfl) (by kernel_rfl) (by simp [u252]) hg
theorem e255_0 (c : Caller Prop FT) (k : KV) (J : J255) (f : FT) (h : H) (v_0 : AV) : chunkA env c q255 u255 (f255 J) d255 (retA env Go.Proofs.Tryz.f255.results.toList k) .root (fset f 0 v_0) h = s255_0 c k J v_0 h := by kernel_rfl
theorem w255 {c : Caller Prop FT} (hc : CallOk Go.Proofs.Tryz.prog (CP env) G (fun p => p) c) {k : KV} {n : Nat} {args : List AV} {h : H} (hg : f255 (r255 c k n) 0 (finit args) h) : SW Go.Proofs.Tryz.prog G (.func 255) args h k :=
  fn_ok mixed envOk hc q255 Go.Proofs.Tryz.func255 rfl (by kernel_rfl) (by kernel_rfl) k u255 (fun n => f255 (r255 c k n))
    (fun L f h hl => by
      match L, hl with
      | 0, hl => exact hl
      | _ + 1, hl => exact hl)
    (fun n p L hm f h hl => by
      simp only [u255, List.mem_cons, Prod.mk.injEq, List.not_mem_nil, or_false] at hm
      rcases hm with ⟨rfl, rfl⟩
      · have hl : f255 (r255 c k (n + 1)) 0 f h := hl
        have hh := e255_0 c k (r255 c k n) f h (f 0)
        rw [fset_self (rfl : f 0 = f 0)] at hh
        exact Eq.mpr hh hl
    ) (by simp [u255]) hg

theorem e256_0 (c : Caller Prop FT) (k : KV) (J : J256) (f : FT) (h : H) (v_0 : AV) : chunkA env c q256 u256 (f256 J) d256 (retA env Go.Proofs.Tryz.f256.results.toList k) .root (fset f 0 v_0) h = s256_0 c k J v_0 h := by kernel_rfl
theorem e256_1 (c : Caller Prop FT) (k : KV) (J : J256) (f : FT) (h : H) (v_0 : AV) : chunkA env c q256 u256 (f256 J) d256 (retA env Go.Proofs.Tryz.f256.results.toList k) (.r .root) (fset f 0 v_0) h = s256_1 c k J v_0 h := by kernel_rfl
theorem w256 {c : Caller Prop FT} (hc : CallOk Go.Proofs.Tryz.prog (CP env) G (fun p => p) c) {k : KV} {n : Nat} {args : List AV} {h : H} (hg : f256 (r256 c k n) 0 (finit args) h) : SW Go.Proofs.Tryz.prog G (.func 256) args h k :=
  fn_ok mixed envOk hc q256 Go.Proofs.Tryz.func256 rfl (by kernel_rfl) (by kernel_rfl) k u256 (fun n => f256 (r256 c k n))
    (fun L f h hl => by
      match L, hl with
      | 0, hl => exact hl
      | 1, hl => exact hl
      | _ + 2, hl => exact hl)
    (fun n p L hm f h hl => by
      simp only [u256, List.mem_cons, Prod.mk.injEq, List.not_mem_nil, or_false] at hm
      rcases hm with ⟨rfl, rfl⟩ | ⟨rfl, rfl⟩
      · have hl : f256 (r256 c k (n + 1)) 0 f h := hl
        have hh := e256_0 c k (r256 c k n) f h (f 0)
        rw [fset_self (rfl : f 0 = f 0)] at hh
        exact Eq.mpr hh hl
      · have hl : f256 (r256 c k (n + 1)) 1 f h := hl
        have hh := e256_1 c k (r256 c k n) f h (f 0)
        rw [fset_self (rfl : f 0 = f 0)] at hh
        exact Eq.mpr hh hl
    ) (by simp [u256]) hg

theorem e258_0 (c : Caller Prop FT) (k : KV) (J : J258) (f : FT) (h : H) (b_0 : Bool) : chunkA env c q258 u258 (f258 J) d258 (retA env Go.Proofs.Tryz.f258.results.toList k) .root (fset f 0 (.bool b_0)) h = s258_0 c k J b_0 h := by kernel_rfl
theorem w258 {c : Caller Prop FT} (hc : CallOk Go.Proofs.Tryz.prog (CP env) G (fun p => p) c) {k : KV} {n : Nat} {args : List AV} {h : H} (hg : f258 (r258 c k n) 0 (finit args) h) : SW Go.Proofs.Tryz.prog G (.func 258) args h k :=
  fn_ok mixed envOk hc q258 Go.Proofs.Tryz.func258 rfl (by kernel_rfl) (by kernel_rfl) k u258 (fun n => f258 (r258 c k n))
    (fun L f h hl => by
      match L, hl with
      | 0, hl => obtain ⟨_, _, hl0⟩ := asB_inv (show _ from hl); exact hl0
      | _ + 1, hl => exact hl)
    (fun n p L hm f h hl => by
      simp only [u258, List.mem_cons, Prod.mk.injEq, List.not_mem_nil, or_false] at hm
      rcases hm with ⟨rfl, rfl⟩
      · have hl : f258 (r258 c k (n + 1)) 0 f h := hl
        obtain ⟨b_0, e_0, hl0⟩ := asB_inv hl
        have hh := e258_0 c k (r258 c k n) f h b_0
        rw [fset_self e_0] at hh
        exact Eq.mpr hh hl0
    ) (by simp [u258]) hg

theorem w391 {c : Caller Prop FT} (hc : CallOk Go.Proofs.Tryz.prog (CP env) G (fun p => p) c) {k : KV} {m : Nat} {a : List AV} {h : H} (hg : runJ env c q391 u391 d391 (retA env Go.Proofs.Tryz.f391.results.toList k) m 0 (finit a) h) : SW Go.Proofs.Tryz.prog G (.func 391) a h k := fnI_ok mixed envOk hc q391 Go.Proofs.Tryz.func391 rfl (by kernel_rfl) (by kernel_rfl) (by kernel_rfl) (by simp [u391]) hg
end Go.Den
