/-
  A part of the proof: the pieces are what the program does.
-/
import Derived.Test.YtpnfpdmkladmpaaGreatDoorFaA1
import Derived.Test.YtpnfpdmkladmpaaGreatDoorFaA2
import Derived.KernelRfl
namespace Go.Den
set_option maxRecDepth 100000
theorem e14_0 (c : Caller Prop FT) (k : KV) (J : J14) (f : FT) (h : H) (v_0 : AV) (l_1 : Nat) (c_1 : Nat) (v_2 : AV) : chunkA env c q14 u14 (f14 J) d14 (retA env Go.Proofs.Tryz.f14.results.toList k) .root (fset (fset (fset f 0 v_0) 1 (.str l_1 c_1)) 2 v_2) h = s14_0 c k J v_0 l_1 c_1 v_2 h := by kernel_rfl
theorem w14 {c : Caller Prop FT} (hc : CallOk Go.Proofs.Tryz.prog (CP env) G (fun p => p) c) {k : KV} {n : Nat} {args : List AV} {h : H} (hg : f14 (r14 c k n) 0 (finit args) h) : SW Go.Proofs.Tryz.prog G (.func 14) args h k :=
  fn_ok mixed envOk hc q14 Go.Proofs.Tryz.func14 rfl (by kernel_rfl) (by kernel_rfl) k u14 (fun n => f14 (r14 c k n))
    (fun L f h hl => by
      match L, hl with
      | 0, hl => obtain ⟨_, _, _, hl0⟩ := asS_inv (show _ from hl); exact hl0
      | _ + 1, hl => exact hl)
    (fun n p L hm f h hl => by
      simp only [u14, List.mem_cons, Prod.mk.injEq, List.not_mem_nil, or_false] at hm
      rcases hm with ⟨rfl, rfl⟩
      · have hl : f14 (r14 c k (n + 1)) 0 f h := hl
        obtain ⟨l_1, c_1, e_1, hl1⟩ := asS_inv hl
        have hh := e14_0 c k (r14 c k n) f h (f 0) l_1 c_1 (f 2)
        rw [fset_self (rfl : f 0 = f 0)] at hh
        rw [fset_self e_1] at hh
        rw [fset_self (rfl : f 2 = f 2)] at hh
        exact Eq.mpr hh hl1
    ) (by simp [u14]) hg

theorem w16 {c : Caller Prop FT} (hc : CallOk Go.Proofs.Tryz.prog (CP env) G (fun p => p) c) {k : KV} {m : Nat} {a : List AV} {h : H} (hg : runJ env c q16 u16 d16 (retA env Go.Proofs.Tryz.f16.results.toList k) m 0 (finit a) h) : SW Go.Proofs.Tryz.prog G (.func 16) a h k := fnI_ok mixed envOk hc q16 Go.Proofs.Tryz.func16 rfl (by kernel_rfl) (by kernel_rfl) (by kernel_rfl) (by simp [u16]) hg
theorem e20_0 (c : Caller Prop FT) (k : KV) (J : J20) (f : FT) (h : H) (v_0 : AV) (v_1 : AV) : chunkA env c q20 u20 (f20 J) d20 (retA env Go.Proofs.Tryz.f20.results.toList k) .root (fset (fset f 0 v_0) 1 v_1) h = s20_0 c k J v_0 v_1 h := by kernel_rfl
theorem e20_1 (c : Caller Prop FT) (k : KV) (J : J20) (f : FT) (h : H) (v_1 : AV) (v_7 : AV) (v_9 : AV) (n_10 : Int) : chunkA env c q20 u20 (f20 J) d20 (retA env Go.Proofs.Tryz.f20.results.toList k) (.l (.r (.l (.r (.r (.r (.r .root))))))) (fset (fset (fset (fset f 1 v_1) 7 v_7) 9 v_9) 10 (.int .i64 n_10)) h = s20_1 c k J v_1 v_7 v_9 n_10 h := by kernel_rfl
theorem w20 {c : Caller Prop FT} (hc : CallOk Go.Proofs.Tryz.prog (CP env) G (fun p => p) c) {k : KV} {n : Nat} {args : List AV} {h : H} (hg : f20 (r20 c k n) 0 (finit args) h) : SW Go.Proofs.Tryz.prog G (.func 20) args h k :=
  fn_ok mixed envOk hc q20 Go.Proofs.Tryz.func20 rfl (by kernel_rfl) (by kernel_rfl) k u20 (fun n => f20 (r20 c k n))
    (fun L f h hl => by
      match L, hl with
      | 0, hl => exact hl
      | 1, hl => obtain ⟨_, _, hl0⟩ := asI_inv (show _ from hl); exact hl0
      | _ + 2, hl => exact hl)
    (fun n p L hm f h hl => by
      simp only [u20, List.mem_cons, Prod.mk.injEq, List.not_mem_nil, or_false] at hm
      rcases hm with ⟨rfl, rfl⟩ | ⟨rfl, rfl⟩
      · have hl : f20 (r20 c k (n + 1)) 0 f h := hl
        have hh := e20_0 c k (r20 c k n) f h (f 0) (f 1)
        rw [fset_self (rfl : f 0 = f 0)] at hh
        rw [fset_self (rfl : f 1 = f 1)] at hh
        exact Eq.mpr hh hl
      · have hl : f20 (r20 c k (n + 1)) 1 f h := hl
        obtain ⟨n_10, e_10, hl3⟩ := asI_inv hl
        have hh := e20_1 c k (r20 c k n) f h (f 1) (f 7) (f 9) n_10
        rw [fset_self (rfl : f 1 = f 1)] at hh
        rw [fset_self (rfl : f 7 = f 7)] at hh
        rw [fset_self (rfl : f 9 = f 9)] at hh
        rw [fset_self e_10] at hh
        exact Eq.mpr hh hl3
    ) (by simp [u20]) hg

theorem w22 {c : Caller Prop FT} (hc : CallOk Go.Proofs.Tryz.prog (CP env) G (fun p => p) c) {k : KV} {m : Nat} {a : List AV} {h : H} (hg : runJ env c q22 u22 d22 (retA env Go.Proofs.Tryz.f22.results.toList k) m 0 (finit a) h) : SW Go.Proofs.Tryz.prog G (.func 22) a h k := fnI_ok mixed envOk hc q22 Go.Proofs.Tryz.func22 rfl (by kernel_rfl) (by kernel_rfl) (by kernel_rfl) (by simp [u22]) hg
theorem e24_0 (c : Caller Prop FT) (k : KV) (J : J24) (f : FT) (h : H) (v_0 : AV) (l_1 : Nat) (c_1 : Nat) (l_2 : Nat) (c_2 : Nat) : chunkA env c q24 u24 (f24 J) d24 (retA env Go.Proofs.Tryz.f24.results.toList k) .root (fset (fset (fset f 0 v_0) 1 (.str l_1 c_1)) 2 (.str l_2 c_2)) h = s24_0 c k J v_0 l_1 c_1 l_2 c_2 h := by kernel_rfl
theorem w24 {c : Caller Prop FT} (hc : CallOk Go.Proofs.Tryz.prog (CP env) G (fun p => p) c) {k : KV} {n : Nat} {args : List AV} {h : H} (hg : f24 (r24 c k n) 0 (finit args) h) : SW Go.Proofs.Tryz.prog G (.func 24) args h k :=
  fn_ok mixed envOk hc q24 Go.Proofs.Tryz.func24 rfl (by kernel_rfl) (by kernel_rfl) k u24 (fun n => f24 (r24 c k n))
    (fun L f h hl => by
      match L, hl with
      | 0, hl => obtain ⟨_, _, _, hl0⟩ := asS_inv (show _ from hl); obtain ⟨_, _, _, hl1⟩ := asS_inv (show _ from hl0); exact hl1
      | _ + 1, hl => exact hl)
    (fun n p L hm f h hl => by
      simp only [u24, List.mem_cons, Prod.mk.injEq, List.not_mem_nil, or_false] at hm
      rcases hm with ⟨rfl, rfl⟩
      · have hl : f24 (r24 c k (n + 1)) 0 f h := hl
        obtain ⟨l_1, c_1, e_1, hl1⟩ := asS_inv hl
        obtain ⟨l_2, c_2, e_2, hl2⟩ := asS_inv hl1
        have hh := e24_0 c k (r24 c k n) f h (f 0) l_1 c_1 l_2 c_2
        rw [fset_self (rfl : f 0 = f 0)] at hh
        rw [fset_self e_1] at hh
        rw [fset_self e_2] at hh
        exact Eq.mpr hh hl2
    ) (by simp [u24]) hg

theorem e28_0 (c : Caller Prop FT) (k : KV) (J : J28) (f : FT) (h : H) (v_0 : AV) (v_1 : AV) (v_2 : AV) (v_3 : AV) : chunkA env c q28 u28 (f28 J) d28 (retA env Go.Proofs.Tryz.f28.results.toList k) .root (fset (fset (fset (fset f 0 v_0) 1 v_1) 2 v_2) 3 v_3) h = s28_0 c k J v_0 v_1 v_2 v_3 h := by kernel_rfl
theorem e28_1 (c : Caller Prop FT) (k : KV) (J : J28) (f : FT) (h : H) (v_8 : AV) (v_9 : AV) (v_42 : AV) (n_43 : Int) (n_44 : Int) : chunkA env c q28 u28 (f28 J) d28 (retA env Go.Proofs.Tryz.f28.results.toList k) (.l (.r (.l (.r (.r (.r .root)))))) (fset (fset (fset (fset (fset f 8 v_8) 9 v_9) 42 v_42) 43 (.int .i64 n_43)) 44 (.int .i64 n_44)) h = s28_1 c k J v_8 v_9 v_42 n_43 n_44 h := by kernel_rfl
theorem w28 {c : Caller Prop FT} (hc : CallOk Go.Proofs.Tryz.prog (CP env) G (fun p => p) c) {k : KV} {n : Nat} {args : List AV} {h : H} (hg : f28 (r28 c k n) 0 (finit args) h) : SW Go.Proofs.Tryz.prog G (.func 28) args h k :=
  fn_ok mixed envOk hc q28 Go.Proofs.Tryz.func28 rfl (by kernel_rfl) (by kernel_rfl) k u28 (fun n => f28 (r28 c k n))
    (fun L f h hl => by
      match L, hl with
      | 0, hl => exact hl
      | 1, hl => obtain ⟨_, _, hl0⟩ := asI_inv (show _ from hl); obtain ⟨_, _, hl1⟩ := asI_inv (show _ from hl0); exact hl1
      | _ + 2, hl => exact hl)
    (fun n p L hm f h hl => by
      simp only [u28, List.mem_cons, Prod.mk.injEq, List.not_mem_nil, or_false] at hm
      rcases hm with ⟨rfl, rfl⟩ | ⟨rfl, rfl⟩
      · have hl : f28 (r28 c k (n + 1)) 0 f h := hl
        have hh := e28_0 c k (r28 c k n) f h (f 0) (f 1) (f 2) (f 3)
        rw [fset_self (rfl : f 0 = f 0)] at hh
        rw [fset_self (rfl : f 1 = f 1)] at hh
        rw [fset_self (rfl : f 2 = f 2)] at hh
        rw [fset_self (rfl : f 3 = f 3)] at hh
        exact Eq.mpr hh hl
      · have hl : f28 (r28 c k (n + 1)) 1 f h := hl
        obtain ⟨n_43, e_43, hl3⟩ := asI_inv hl
        obtain ⟨n_44, e_44, hl4⟩ := asI_inv hl3
        have hh := e28_1 c k (r28 c k n) f h (f 8) (f 9) (f 42) n_43 n_44
        rw [fset_self (rfl : f 8 = f 8)] at hh
        rw [fset_self (rfl : f 9 = f 9)] at hh
        rw [fset_self (rfl : f 42 = f 42)] at hh
        rw [fset_self e_43] at hh
        rw [fset_self e_44] at hh
        exact Eq.mpr hh hl4
    ) (by simp [u28]) hg

theorem e32_0 (c : Caller Prop FT) (k : KV) (J : J32) (f : FT) (h : H) (l_0 : Nat) (c_0 : Nat) : chunkA env c q32 u32 (f32 J) d32 (retA env Go.Proofs.Tryz.f32.results.toList k) .root (fset f 0 (.str l_0 c_0)) h = s32_0 c k J l_0 c_0 h := by kernel_rfl
theorem w32 {c : Caller Prop FT} (hc : CallOk Go.Proofs.Tryz.prog (CP env) G (fun p => p) c) {k : KV} {n : Nat} {args : List AV} {h : H} (hg : f32 (r32 c k n) 0 (finit args) h) : SW Go.Proofs.Tryz.prog G (.func 32) args h k :=
  fn_ok mixed envOk hc q32 Go.Proofs.Tryz.func32 rfl (by kernel_rfl) (by kernel_rfl) k u32 (fun n => f32 (r32 c k n))
    (fun L f h hl => by
      match L, hl with
      | 0, hl => obtain ⟨_, _, _, hl0⟩ := asS_inv (show _ from hl); exact hl0
      | _ + 1, hl => exact hl)
    (fun n p L hm f h hl => by
      simp only [u32, List.mem_cons, Prod.mk.injEq, List.not_mem_nil, or_false] at hm
      rcases hm with ⟨rfl, rfl⟩
      · have hl : f32 (r32 c k (n + 1)) 0 f h := hl
        obtain ⟨l_0, c_0, e_0, hl0⟩ := asS_inv hl
        have hh := e32_0 c k (r32 c k n) f h l_0 c_0
        rw [fset_self e_0] at hh
        exact Eq.mpr hh hl0
    ) (by simp [u32]) hg

theorem e33_0 (c : Caller Prop FT) (k : KV) (J : J33) (f : FT) (h : H) (v_0 : AV) (v_1 : AV) : chunkA env c q33 u33 (f33 J) d33 (retA env Go.Proofs.Tryz.f33.results.toList k) .root (fset (fset f 0 v_0) 1 v_1) h = s33_0 c k J v_0 v_1 h := by kernel_rfl
theorem w33 {c : Caller Prop FT} (hc : CallOk Go.Proofs.Tryz.prog (CP env) G (fun p => p) c) {k : KV} {n : Nat} {args : List AV} {h : H} (hg : f33 (r33 c k n) 0 (finit args) h) : SW Go.Proofs.Tryz.prog G (.func 33) args h k :=
  fn_ok mixed envOk hc q33 Go.Proofs.Tryz.func33 rfl (by kernel_rfl) (by kernel_rfl) k u33 (fun n => f33 (r33 c k n))
    (fun L f h hl => by
      match L, hl with
      | 0, hl => exact hl
      | _ + 1, hl => exact hl)
    (fun n p L hm f h hl => by
      simp only [u33, List.mem_cons, Prod.mk.injEq, List.not_mem_nil, or_false] at hm
      rcases hm with ⟨rfl, rfl⟩
      · have hl : f33 (r33 c k (n + 1)) 0 f h := hl
        have hh := e33_0 c k (r33 c k n) f h (f 0) (f 1)
        rw [fset_self (rfl : f 0 = f 0)] at hh
        rw [fset_self (rfl : f 1 = f 1)] at hh
        exact Eq.mpr hh hl
    ) (by simp [u33]) hg

theorem e34_0 (c : Caller Prop FT) (k : KV) (J : J34) (f : FT) (h : H) (v_0 : AV) : chunkA env c q34 u34 (f34 J) d34 (retA env Go.Proofs.Tryz.f34.results.toList k) .root (fset f 0 v_0) h = s34_0 c k J v_0 h := by kernel_rfl
theorem w34 {c : Caller Prop FT} (hc : CallOk Go.Proofs.Tryz.prog (CP env) G (fun p => p) c) {k : KV} {n : Nat} {args : List AV} {h : H} (hg : f34 (r34 c k n) 0 (finit args) h) : SW Go.Proofs.Tryz.prog G (.func 34) args h k :=
  fn_ok mixed envOk hc q34 Go.Proofs.Tryz.func34 rfl (by kernel_rfl) (by kernel_rfl) k u34 (fun n => f34 (r34 c k n))
    (fun L f h hl => by
      match L, hl with
      | 0, hl => exact hl
      | _ + 1, hl => exact hl)
    (fun n p L hm f h hl => by
      simp only [u34, List.mem_cons, Prod.mk.injEq, List.not_mem_nil, or_false] at hm
      rcases hm with ⟨rfl, rfl⟩
      · have hl : f34 (r34 c k (n + 1)) 0 f h := hl
        have hh := e34_0 c k (r34 c k n) f h (f 0)
        rw [fset_self (rfl : f 0 = f 0)] at hh
        exact Eq.mpr hh hl
    ) (by simp [u34]) hg

theorem e42_0 (c : Caller Prop FT) (k : KV) (J : J42) (f : FT) (h : H) (n_0 : Int) : chunkA env c q42 u42 (f42 J) d42 (retA env Go.Proofs.Tryz.f42.results.toList k) .root (fset f 0 (.int .i64 n_0)) h = s42_0 c k J n_0 h := by kernel_rfl
theorem w42 {c : Caller Prop FT} (hc : CallOk Go.Proofs.Tryz.prog (CP env) G (fun p => p) c) {k : KV} {n : Nat} {args : List AV} {h : H} (hg : f42 (r42 c k n) 0 (finit args) h) : SW Go.Proofs.Tryz.prog G (.func 42) args h k :=
  fn_ok mixed envOk hc q42 Go.Proofs.Tryz.func42 rfl (by kernel_rfl) (by kernel_rfl) k u42 (fun n => f42 (r42 c k n))
    (fun L f h hl => by
      match L, hl with
      | 0, hl => obtain ⟨_, _, hl0⟩ := asI_inv (show _ from hl); exact hl0
      | _ + 1, hl => exact hl)
    (fun n p L hm f h hl => by
      simp only [u42, List.mem_cons, Prod.mk.injEq, List.not_mem_nil, or_false] at hm
      rcases hm with ⟨rfl, rfl⟩
      · have hl : f42 (r42 c k (n + 1)) 0 f h := hl
        obtain ⟨n_0, e_0, hl0⟩ := asI_inv hl
        have hh := e42_0 c k (r42 c k n) f h n_0
        rw [fset_self e_0] at hh
        exact Eq.mpr hh hl0
    ) (by simp [u42]) hg

theorem e43_0 (c : Caller Prop FT) (k : KV) (J : J43) (f : FT) (h : H) (v_0 : AV) (l_1 : Nat) (c_1 : Nat) : chunkA env c q43 u43 (f43 J) d43 (retA env Go.Proofs.Tryz.f43.results.toList k) .root (fset (fset f 0 v_0) 1 (.str l_1 c_1)) h = s43_0 c k J v_0 l_1 c_1 h := by kernel_rfl
theorem e43_1 (c : Caller Prop FT) (k : KV) (J : J43) (f : FT) (h : H) (v_0 : AV) (v_69 : AV) (n_70 : Int) (n_71 : Int) : chunkA env c q43 u43 (f43 J) d43 (retA env Go.Proofs.Tryz.f43.results.toList k) (.l (.r (.l (.r (.r (.r (.r (.r (.r (.r .root)))))))))) (fset (fset (fset (fset f 0 v_0) 69 v_69) 70 (.int .i64 n_70)) 71 (.int .i64 n_71)) h = s43_1 c k J v_0 v_69 n_70 n_71 h := by kernel_rfl
theorem e43_2 (c : Caller Prop FT) (k : KV) (J : J43) (f : FT) (h : H) (v_0 : AV) (v_7 : AV) : chunkA env c q43 u43 (f43 J) d43 (retA env Go.Proofs.Tryz.f43.results.toList k) (.r (.r (.r (.r (.r (.r (.r .root))))))) (fset (fset f 0 v_0) 7 v_7) h = s43_2 c k J v_0 v_7 h := by kernel_rfl
theorem w43 {c : Caller Prop FT} (hc : CallOk Go.Proofs.Tryz.prog (CP env) G (fun p => p) c) {k : KV} {n : Nat} {args : List AV} {h : H} (hg : f43 (r43 c k n) 0 (finit args) h) : SW Go.Proofs.Tryz.prog G (.func 43) args h k :=
  fn_ok mixed envOk hc q43 Go.Proofs.Tryz.func43 rfl (by kernel_rfl) (by kernel_rfl) k u43 (fun n => f43 (r43 c k n))
    (fun L f h hl => by
      match L, hl with
      | 0, hl => obtain ⟨_, _, _, hl0⟩ := asS_inv (show _ from hl); exact hl0
      | 1, hl => obtain ⟨_, _, hl0⟩ := asI_inv (show _ from hl); obtain ⟨_, _, hl1⟩ := asI_inv (show _ from hl0); exact hl1
      | 2, hl => exact hl
      | _ + 3, hl => exact hl)
    (fun n p L hm f h hl => by
      simp only [u43, List.mem_cons, Prod.mk.injEq, List.not_mem_nil, or_false] at hm
      rcases hm with ⟨rfl, rfl⟩ | ⟨rfl, rfl⟩ | ⟨rfl, rfl⟩
      · have hl : f43 (r43 c k (n + 1)) 0 f h := hl
        obtain ⟨l_1, c_1, e_1, hl1⟩ := asS_inv hl
        have hh := e43_0 c k (r43 c k n) f h (f 0) l_1 c_1
        rw [fset_self (rfl : f 0 = f 0)] at hh
        rw [fset_self e_1] at hh
        exact Eq.mpr hh hl1
      · have hl : f43 (r43 c k (n + 1)) 1 f h := hl
        obtain ⟨n_70, e_70, hl2⟩ := asI_inv hl
        obtain ⟨n_71, e_71, hl3⟩ := asI_inv hl2
        have hh := e43_1 c k (r43 c k n) f h (f 0) (f 69) n_70 n_71
        rw [fset_self (rfl : f 0 = f 0)] at hh
        rw [fset_self (rfl : f 69 = f 69)] at hh
        rw [fset_self e_70] at hh
        rw [fset_self e_71] at hh
        exact Eq.mpr hh hl3
      · have hl : f43 (r43 c k (n + 1)) 2 f h := hl
        have hh := e43_2 c k (r43 c k n) f h (f 0) (f 7)
        rw [fset_self (rfl : f 0 = f 0)] at hh
        rw [fset_self (rfl : f 7 = f 7)] at hh
        exact Eq.mpr hh hl
    ) (by simp [u43]) hg

theorem e47_0 (c : Caller Prop FT) (k : KV) (J : J47) (f : FT) (h : H) (v_0 : AV) : chunkA env c q47 u47 (f47 J) d47 (retA env Go.Proofs.Tryz.f47.results.toList k) .root (fset f 0 v_0) h = s47_0 c k J v_0 h := by kernel_rfl
theorem w47 {c : Caller Prop FT} (hc : CallOk Go.Proofs.Tryz.prog (CP env) G (fun p => p) c) {k : KV} {n : Nat} {args : List AV} {h : H} (hg : f47 (r47 c k n) 0 (finit args) h) : SW Go.Proofs.Tryz.prog G (.func 47) args h k :=
  fn_ok mixed envOk hc q47 Go.Proofs.Tryz.func47 rfl (by kernel_rfl) (by kernel_rfl) k u47 (fun n => f47 (r47 c k n))
    (fun L f h hl => by
      match L, hl with
      | 0, hl => exact hl
      | _ + 1, hl => exact hl)
    (fun n p L hm f h hl => by
      simp only [u47, List.mem_cons, Prod.mk.injEq, List.not_mem_nil, or_false] at hm
      rcases hm with ⟨rfl, rfl⟩
      · have hl : f47 (r47 c k (n + 1)) 0 f h := hl
        have hh := e47_0 c k (r47 c k n) f h (f 0)
        rw [fset_self (rfl : f 0 = f 0)] at hh
        exact Eq.mpr hh hl
    ) (by simp [u47]) hg

theorem w51 {c : Caller Prop FT} (hc : CallOk Go.Proofs.Tryz.prog (CP env) G (fun p => p) c) {k : KV} {m : Nat} {a : List AV} {h : H} (hg : runJ env c q51 u51 d51 (retA env Go.Proofs.Tryz.f51.results.toList k) m 0 (finit a) h) : SW Go.Proofs.Tryz.prog G (.func 51) a h k := fnI_ok mixed envOk hc q51 Go.Proofs.Tryz.func51 rfl (by kernel_rfl) (by kernel_rfl) (by kernel_rfl) (by simp [u51]) hg
theorem e52_0 (c : Caller Prop FT) (k : KV) (J : J52) (f : FT) (h : H) (v_0 : AV) : chunkA env c q52 u52 (f52 J) d52 (retA env Go.Proofs.Tryz.f52.results.toList k) .root (fset f 0 v_0) h = s52_0 c k J v_0 h := by kernel_rfl
theorem w52 {c : Caller Prop FT} (hc : CallOk Go.Proofs.Tryz.prog (CP env) G (fun p => p) c) {k : KV} {n : Nat} {args : List AV} {h : H} (hg : f52 (r52 c k n) 0 (finit args) h) : SW Go.Proofs.Tryz.prog G (.func 52) args h k :=
  fn_ok mixed envOk hc q52 Go.Proofs.Tryz.func52 rfl (by kernel_rfl) (by kernel_rfl) k u52 (fun n => f52 (r52 c k n))
    (fun L f h hl => by
      match L, hl with
      | 0, hl => exact hl
      | _ + 1, hl => exact hl)
    (fun n p L hm f h hl => by
      simp only [u52, List.mem_cons, Prod.mk.injEq, List.not_mem_nil, or_false] at hm
      rcases hm with ⟨rfl, rfl⟩
      · have hl : f52 (r52 c k (n + 1)) 0 f h := hl
        have hh := e52_0 c k (r52 c k n) f h (f 0)
        rw [fset_self (rfl : f 0 = f 0)] at hh
        exact Eq.mpr hh hl
    ) (by simp [u52]) hg

theorem e53_0 (c : Caller Prop FT) (k : KV) (J : J53) (f : FT) (h : H) (l_0 : Nat) (c_0 : Nat) (l_1 : Nat) (c_1 : Nat) : chunkA env c q53 u53 (f53 J) d53 (retA env Go.Proofs.Tryz.f53.results.toList k) .root (fset (fset f 0 (.str l_0 c_0)) 1 (.str l_1 c_1)) h = s53_0 c k J l_0 c_0 l_1 c_1 h := by kernel_rfl
theorem w53 {c : Caller Prop FT} (hc : CallOk Go.Proofs.Tryz.prog (CP env) G (fun p => p) c) {k : KV} {n : Nat} {args : List AV} {h : H} (hg : f53 (r53 c k n) 0 (finit args) h) : SW Go.Proofs.Tryz.prog G (.func 53) args h k :=
  fn_ok mixed envOk hc q53 Go.Proofs.Tryz.func53 rfl (by kernel_rfl) (by kernel_rfl) k u53 (fun n => f53 (r53 c k n))
    (fun L f h hl => by
      match L, hl with
      | 0, hl => obtain ⟨_, _, _, hl0⟩ := asS_inv (show _ from hl); obtain ⟨_, _, _, hl1⟩ := asS_inv (show _ from hl0); exact hl1
      | _ + 1, hl => exact hl)
    (fun n p L hm f h hl => by
      simp only [u53, List.mem_cons, Prod.mk.injEq, List.not_mem_nil, or_false] at hm
      rcases hm with ⟨rfl, rfl⟩
      · have hl : f53 (r53 c k (n + 1)) 0 f h := hl
        obtain ⟨l_0, c_0, e_0, hl0⟩ := asS_inv hl
        obtain ⟨l_1, c_1, e_1, hl1⟩ := asS_inv hl0
        have hh := e53_0 c k (r53 c k n) f h l_0 c_0 l_1 c_1
        rw [fset_self e_0] at hh
        rw [fset_self e_1] at hh
        exact Eq.mpr hh hl1
    ) (by simp [u53]) hg

theorem e54_0 (c : Caller Prop FT) (k : KV) (J : J54) (f : FT) (h : H) (l_0 : Nat) (c_0 : Nat) : chunkA env c q54 u54 (f54 J) d54 (retA env Go.Proofs.Tryz.f54.results.toList k) .root (fset f 0 (.str l_0 c_0)) h = s54_0 c k J l_0 c_0 h := by kernel_rfl
theorem e54_1 (c : Caller Prop FT) (k : KV) (J : J54) (f : FT) (h : H) (l_0 : Nat) (c_0 : Nat) (b_3 : Bool) (n_4 : Int) : chunkA env c q54 u54 (f54 J) d54 (retA env Go.Proofs.Tryz.f54.results.toList k) (.l (.r (.l (.r (.r .root))))) (fset (fset (fset f 0 (.str l_0 c_0)) 3 (.bool b_3)) 4 (.int .i64 n_4)) h = s54_1 c k J l_0 c_0 b_3 n_4 h := by kernel_rfl
theorem w54 {c : Caller Prop FT} (hc : CallOk Go.Proofs.Tryz.prog (CP env) G (fun p => p) c) {k : KV} {n : Nat} {args : List AV} {h : H} (hg : f54 (r54 c k n) 0 (finit args) h) : SW Go.Proofs.Tryz.prog G (.func 54) args h k :=
  fn_ok mixed envOk hc q54 Go.Proofs.Tryz.func54 rfl (by kernel_rfl) (by kernel_rfl) k u54 (fun n => f54 (r54 c k n))
    (fun L f h hl => by
      match L, hl with
      | 0, hl => obtain ⟨_, _, _, hl0⟩ := asS_inv (show _ from hl); exact hl0
      | 1, hl => obtain ⟨_, _, _, hl0⟩ := asS_inv (show _ from hl); obtain ⟨_, _, hl1⟩ := asB_inv (show _ from hl0); obtain ⟨_, _, hl2⟩ := asI_inv (show _ from hl1); exact hl2
      | _ + 2, hl => exact hl)
    (fun n p L hm f h hl => by
      simp only [u54, List.mem_cons, Prod.mk.injEq, List.not_mem_nil, or_false] at hm
      rcases hm with ⟨rfl, rfl⟩ | ⟨rfl, rfl⟩
      · have hl : f54 (r54 c k (n + 1)) 0 f h := hl
        obtain ⟨l_0, c_0, e_0, hl0⟩ := asS_inv hl
        have hh := e54_0 c k (r54 c k n) f h l_0 c_0
        rw [fset_self e_0] at hh
        exact Eq.mpr hh hl0
      · have hl : f54 (r54 c k (n + 1)) 1 f h := hl
        obtain ⟨l_0, c_0, e_0, hl0⟩ := asS_inv hl
        obtain ⟨b_3, e_3, hl1⟩ := asB_inv hl0
        obtain ⟨n_4, e_4, hl2⟩ := asI_inv hl1
        have hh := e54_1 c k (r54 c k n) f h l_0 c_0 b_3 n_4
        rw [fset_self e_0] at hh
        rw [fset_self e_3] at hh
        rw [fset_self e_4] at hh
        exact Eq.mpr hh hl2
    ) (by simp [u54]) hg

theorem e55_0 (c : Caller Prop FT) (k : KV) (J : J55) (f : FT) (h : H) (v_0 : AV) (v_1 : AV) : chunkA env c q55 u55 (f55 J) d55 (retA env Go.Proofs.Tryz.f55.results.toList k) .root (fset (fset f 0 v_0) 1 v_1) h = s55_0 c k J v_0 v_1 h := by kernel_rfl
theorem e55_1 (c : Caller Prop FT) (k : KV) (J : J55) (f : FT) (h : H) (v_0 : AV) (v_1 : AV) (n_7 : Int) (n_8 : Int) : chunkA env c q55 u55 (f55 J) d55 (retA env Go.Proofs.Tryz.f55.results.toList k) (.l (.r (.l (.r .root)))) (fset (fset (fset (fset f 0 v_0) 1 v_1) 7 (.int .i64 n_7)) 8 (.int .i64 n_8)) h = s55_1 c k J v_0 v_1 n_7 n_8 h := by kernel_rfl
theorem w55 {c : Caller Prop FT} (hc : CallOk Go.Proofs.Tryz.prog (CP env) G (fun p => p) c) {k : KV} {n : Nat} {args : List AV} {h : H} (hg : f55 (r55 c k n) 0 (finit args) h) : SW Go.Proofs.Tryz.prog G (.func 55) args h k :=
  fn_ok mixed envOk hc q55 Go.Proofs.Tryz.func55 rfl (by kernel_rfl) (by kernel_rfl) k u55 (fun n => f55 (r55 c k n))
    (fun L f h hl => by
      match L, hl with
      | 0, hl => exact hl
      | 1, hl => obtain ⟨_, _, hl0⟩ := asI_inv (show _ from hl); obtain ⟨_, _, hl1⟩ := asI_inv (show _ from hl0); exact hl1
      | _ + 2, hl => exact hl)
    (fun n p L hm f h hl => by
      simp only [u55, List.mem_cons, Prod.mk.injEq, List.not_mem_nil, or_false] at hm
      rcases hm with ⟨rfl, rfl⟩ | ⟨rfl, rfl⟩
      · have hl : f55 (r55 c k (n + 1)) 0 f h := hl
        have hh := e55_0 c k (r55 c k n) f h (f 0) (f 1)
        rw [fset_self (rfl : f 0 = f 0)] at hh
        rw [fset_self (rfl : f 1 = f 1)] at hh
        exact Eq.mpr hh hl
      · have hl : f55 (r55 c k (n + 1)) 1 f h := hl
        obtain ⟨n_7, e_7, hl2⟩ := asI_inv hl
        obtain ⟨n_8, e_8, hl3⟩ := asI_inv hl2
        have hh := e55_1 c k (r55 c k n) f h (f 0) (f 1) n_7 n_8
        rw [fset_self (rfl : f 0 = f 0)] at hh
        rw [fset_self (rfl : f 1 = f 1)] at hh
        rw [fset_self e_7] at hh
        rw [fset_self e_8] at hh
        exact Eq.mpr hh hl3
    ) (by simp [u55]) hg

theorem e62_0 (c : Caller Prop FT) (k : KV) (J : J62) (f : FT) (h : H) (v_0 : AV) (n_1 : Int) : chunkA env c q62 u62 (f62 J) d62 (retA env Go.Proofs.Tryz.f62.results.toList k) .root (fset (fset f 0 v_0) 1 (.int .i64 n_1)) h = s62_0 c k J v_0 n_1 h := by kernel_rfl
theorem w62 {c : Caller Prop FT} (hc : CallOk Go.Proofs.Tryz.prog (CP env) G (fun p => p) c) {k : KV} {n : Nat} {args : List AV} {h : H} (hg : f62 (r62 c k n) 0 (finit args) h) : SW Go.Proofs.Tryz.prog G (.func 62) args h k :=
  fn_ok mixed envOk hc q62 Go.Proofs.Tryz.func62 rfl (by kernel_rfl) (by kernel_rfl) k u62 (fun n => f62 (r62 c k n))
    (fun L f h hl => by
      match L, hl with
      | 0, hl => obtain ⟨_, _, hl0⟩ := asI_inv (show _ from hl); exact hl0
      | _ + 1, hl => exact hl)
    (fun n p L hm f h hl => by
      simp only [u62, List.mem_cons, Prod.mk.injEq, List.not_mem_nil, or_false] at hm
      rcases hm with ⟨rfl, rfl⟩
      · have hl : f62 (r62 c k (n + 1)) 0 f h := hl
        obtain ⟨n_1, e_1, hl1⟩ := asI_inv hl
        have hh := e62_0 c k (r62 c k n) f h (f 0) n_1
        rw [fset_self (rfl : f 0 = f 0)] at hh
        rw [fset_self e_1] at hh
        exact Eq.mpr hh hl1
    ) (by simp [u62]) hg

theorem e63_0 (c : Caller Prop FT) (k : KV) (J : J63) (f : FT) (h : H) (v_0 : AV) (v_1 : AV) : chunkA env c q63 u63 (f63 J) d63 (retA env Go.Proofs.Tryz.f63.results.toList k) .root (fset (fset f 0 v_0) 1 v_1) h = s63_0 c k J v_0 v_1 h := by kernel_rfl
theorem e63_1 (c : Caller Prop FT) (k : KV) (J : J63) (f : FT) (h : H) (v_0 : AV) (v_1 : AV) (v_4 : AV) (n_5 : Int) : chunkA env c q63 u63 (f63 J) d63 (retA env Go.Proofs.Tryz.f63.results.toList k) (.l (.r (.r .root))) (fset (fset (fset (fset f 0 v_0) 1 v_1) 4 v_4) 5 (.int .i64 n_5)) h = s63_1 c k J v_0 v_1 v_4 n_5 h := by kernel_rfl
theorem e63_2 (c : Caller Prop FT) (k : KV) (J : J63) (f : FT) (h : H) (v_0 : AV) (v_1 : AV) (v_4 : AV) (n_5 : Int) (v_7 : AV) (n_8 : Int) : chunkA env c q63 u63 (f63 J) d63 (retA env Go.Proofs.Tryz.f63.results.toList k) (.l (.l (.r (.r (.r (.r (.l (.r (.l (.l (.r (.r .root)))))))))))) (fset (fset (fset (fset (fset (fset f 0 v_0) 1 v_1) 4 v_4) 5 (.int .i64 n_5)) 7 v_7) 8 (.int .i64 n_8)) h = s63_2 c k J v_0 v_1 v_4 n_5 v_7 n_8 h := by kernel_rfl
theorem e63_3 (c : Caller Prop FT) (k : KV) (J : J63) (f : FT) (h : H) (v_0 : AV) (v_1 : AV) (v_4 : AV) (n_5 : Int) (v_7 : AV) (n_8 : Int) : chunkA env c q63 u63 (f63 J) d63 (retA env Go.Proofs.Tryz.f63.results.toList k) (.r (.r (.l (.l (.l (.r (.r (.r (.r (.l (.r (.l (.l (.r (.r .root))))))))))))))) (fset (fset (fset (fset (fset (fset f 0 v_0) 1 v_1) 4 v_4) 5 (.int .i64 n_5)) 7 v_7) 8 (.int .i64 n_8)) h = s63_3 c k J v_0 v_1 v_4 n_5 v_7 n_8 h := by kernel_rfl
theorem w63 {c : Caller Prop FT} (hc : CallOk Go.Proofs.Tryz.prog (CP env) G (fun p => p) c) {k : KV} {n : Nat} {args : List AV} {h : H} (hg : f63 (r63 c k n) 0 (finit args) h) : SW Go.Proofs.Tryz.prog G (.func 63) args h k :=
  fn_ok mixed envOk hc q63 Go.Proofs.Tryz.func63 rfl (by kernel_rfl) (by kernel_rfl) k u63 (fun n => f63 (r63 c k n))
    (fun L f h hl => by
      match L, hl with
      | 0, hl => exact hl
      | 1, hl => obtain ⟨_, _, hl0⟩ := asI_inv (show _ from hl); exact hl0
      | 2, hl => obtain ⟨_, _, hl0⟩ := asI_inv (show _ from hl); obtain ⟨_, _, hl1⟩ := asI_inv (show _ from hl0); exact hl1
      | 3, hl => obtain ⟨_, _, hl0⟩ := asI_inv (show _ from hl); obtain ⟨_, _, hl1⟩ := asI_inv (show _ from hl0); exact hl1
      | _ + 4, hl => exact hl)
    (fun n p L hm f h hl => by
      simp only [u63, List.mem_cons, Prod.mk.injEq, List.not_mem_nil, or_false] at hm
      rcases hm with ⟨rfl, rfl⟩ | ⟨rfl, rfl⟩ | ⟨rfl, rfl⟩ | ⟨rfl, rfl⟩
      · have hl : f63 (r63 c k (n + 1)) 0 f h := hl
        have hh := e63_0 c k (r63 c k n) f h (f 0) (f 1)
        rw [fset_self (rfl : f 0 = f 0)] at hh
        rw [fset_self (rfl : f 1 = f 1)] at hh
        exact Eq.mpr hh hl
      · have hl : f63 (r63 c k (n + 1)) 1 f h := hl
        obtain ⟨n_5, e_5, hl3⟩ := asI_inv hl
        have hh := e63_1 c k (r63 c k n) f h (f 0) (f 1) (f 4) n_5
        rw [fset_self (rfl : f 0 = f 0)] at hh
        rw [fset_self (rfl : f 1 = f 1)] at hh
        rw [fset_self (rfl : f 4 = f 4)] at hh
        rw [fset_self e_5] at hh
        exact Eq.mpr hh hl3
      · have hl : f63 (r63 c k (n + 1)) 2 f h := hl
        obtain ⟨n_5, e_5, hl3⟩ := asI_inv hl
        obtain ⟨n_8, e_8, hl5⟩ := asI_inv hl3
        have hh := e63_2 c k (r63 c k n) f h (f 0) (f 1) (f 4) n_5 (f 7) n_8
        rw [fset_self (rfl : f 0 = f 0)] at hh
        rw [fset_self (rfl : f 1 = f 1)] at hh
        rw [fset_self (rfl : f 4 = f 4)] at hh
        rw [fset_self e_5] at hh
        rw [fset_self (rfl : f 7 = f 7)] at hh
        rw [fset_self e_8] at hh
        exact Eq.mpr hh hl5
      · have hl : f63 (r63 c k (n + 1)) 3 f h := hl
        obtain ⟨n_5, e_5, hl3⟩ := asI_inv hl
        obtain ⟨n_8, e_8, hl5⟩ := asI_inv hl3
        have hh := e63_3 c k (r63 c k n) f h (f 0) (f 1) (f 4) n_5 (f 7) n_8
        rw [fset_self (rfl : f 0 = f 0)] at hh
        rw [fset_self (rfl : f 1 = f 1)] at hh
        rw [fset_self (rfl : f 4 = f 4)] at hh
        rw [fset_self e_5] at hh
        rw [fset_self (rfl : f 7 = f 7)] at hh
        rw [fset_self e_8] at hh
        exact Eq.mpr hh hl5
    ) (by simp [u63]) hg

theorem e66_0 (c : Caller Prop FT) (k : KV) (J : J66) (f : FT) (h : H) (v_0 : AV) : chunkA env c q66 u66 (f66 J) d66 (retA env Go.Proofs.Tryz.f66.results.toList k) .root (fset f 0 v_0) h = s66_0 c k J v_0 h := by kernel_rfl
theorem w66 {c : Caller Prop FT} (hc : CallOk Go.Proofs.Tryz.prog (CP env) G (fun p => p) c) {k : KV} {n : Nat} {args : List AV} {h : H} (hg : f66 (r66 c k n) 0 (finit args) h) : SW Go.Proofs.Tryz.prog G (.func 66) args h k :=
  fn_ok mixed envOk hc q66 Go.Proofs.Tryz.func66 rfl (by kernel_rfl) (by kernel_rfl) k u66 (fun n => f66 (r66 c k n))
    (fun L f h hl => by
      match L, hl with
      | 0, hl => exact hl
      | _ + 1, hl => exact hl)
    (fun n p L hm f h hl => by
      simp only [u66, List.mem_cons, Prod.mk.injEq, List.not_mem_nil, or_false] at hm
      rcases hm with ⟨rfl, rfl⟩
      · have hl : f66 (r66 c k (n + 1)) 0 f h := hl
        have hh := e66_0 c k (r66 c k n) f h (f 0)
        rw [fset_self (rfl : f 0 = f 0)] at hh
        exact Eq.mpr hh hl
    ) (by simp [u66]) hg

theorem e68_0 (c : Caller Prop FT) (k : KV) (J : J68) (f : FT) (h : H) (l_0 : Nat) (c_0 : Nat) : chunkA env c q68 u68 (f68 J) d68 (retA env Go.Proofs.Tryz.f68.results.toList k) .root (fset f 0 (.str l_0 c_0)) h = s68_0 c k J l_0 c_0 h := by kernel_rfl
theorem w68 {c : Caller Prop FT} (hc : CallOk Go.Proofs.Tryz.prog (CP env) G (fun p => p) c) {k : KV} {n : Nat} {args : List AV} {h : H} (hg : f68 (r68 c k n) 0 (finit args) h) : SW Go.Proofs.Tryz.prog G (.func 68) args h k :=
  fn_ok mixed envOk hc q68 Go.Proofs.Tryz.func68 rfl (by kernel_rfl) (by kernel_rfl) k u68 (fun n => f68 (r68 c k n))
    (fun L f h hl => by
      match L, hl with
      | 0, hl => obtain ⟨_, _, _, hl0⟩ := asS_inv (show _ from hl); exact hl0
      | _ + 1, hl => exact hl)
    (fun n p L hm f h hl => by
      simp only [u68, List.mem_cons, Prod.mk.injEq, List.not_mem_nil, or_false] at hm
      rcases hm with ⟨rfl, rfl⟩
      · have hl : f68 (r68 c k (n + 1)) 0 f h := hl
        obtain ⟨l_0, c_0, e_0, hl0⟩ := asS_inv hl
        have hh := e68_0 c k (r68 c k n) f h l_0 c_0
        rw [fset_self e_0] at hh
        exact Eq.mpr hh hl0
    ) (by simp [u68]) hg

theorem e74_0 (c : Caller Prop FT) (k : KV) (J : J74) (f : FT) (h : H) (v_0 : AV) (n_1 : Int) : chunkA env c q74 u74 (f74 J) d74 (retA env Go.Proofs.Tryz.f74.results.toList k) .root (fset (fset f 0 v_0) 1 (.int .u8 n_1)) h = s74_0 c k J v_0 n_1 h := by kernel_rfl
theorem w74 {c : Caller Prop FT} (hc : CallOk Go.Proofs.Tryz.prog (CP env) G (fun p => p) c) {k : KV} {n : Nat} {args : List AV} {h : H} (hg : f74 (r74 c k n) 0 (finit args) h) : SW Go.Proofs.Tryz.prog G (.func 74) args h k :=
  fn_ok mixed envOk hc q74 Go.Proofs.Tryz.func74 rfl (by kernel_rfl) (by kernel_rfl) k u74 (fun n => f74 (r74 c k n))
    (fun L f h hl => by
      match L, hl with
      | 0, hl => obtain ⟨_, _, hl0⟩ := asI_inv (show _ from hl); exact hl0
      | _ + 1, hl => exact hl)
    (fun n p L hm f h hl => by
      simp only [u74, List.mem_cons, Prod.mk.injEq, List.not_mem_nil, or_false] at hm
      rcases hm with ⟨rfl, rfl⟩
      · have hl : f74 (r74 c k (n + 1)) 0 f h := hl
        obtain ⟨n_1, e_1, hl1⟩ := asI_inv hl
        have hh := e74_0 c k (r74 c k n) f h (f 0) n_1
        rw [fset_self (rfl : f 0 = f 0)] at hh
        rw [fset_self e_1] at hh
        exact Eq.mpr hh hl1
    ) (by simp [u74]) hg

theorem e77_0 (c : Caller Prop FT) (k : KV) (J : J77) (f : FT) (h : H) (l_0 : Nat) (c_0 : Nat) (v_1 : AV) : chunkA env c q77 u77 (f77 J) d77 (retA env Go.Proofs.Tryz.f77.results.toList k) .root (fset (fset f 0 (.str l_0 c_0)) 1 v_1) h = s77_0 c k J l_0 c_0 v_1 h := by kernel_rfl
theorem w77 {c : Caller Prop FT} (hc : CallOk Go.Proofs.Tryz.prog (CP env) G (fun p => p) c) {k : KV} {n : Nat} {args : List AV} {h : H} (hg : f77 (r77 c k n) 0 (finit args) h) : SW Go.Proofs.Tryz.prog G (.func 77) args h k :=
  fn_ok mixed envOk hc q77 Go.Proofs.Tryz.func77 rfl (by kernel_rfl) (by kernel_rfl) k u77 (fun n => f77 (r77 c k n))
    (fun L f h hl => by
      match L, hl with
      | 0, hl => obtain ⟨_, _, _, hl0⟩ := asS_inv (show _ from hl); exact hl0
      | _ + 1, hl => exact hl)
    (fun n p L hm f h hl => by
      simp only [u77, List.mem_cons, Prod.mk.injEq, List.not_mem_nil, or_false] at hm
      rcases hm with ⟨rfl, rfl⟩
      · have hl : f77 (r77 c k (n + 1)) 0 f h := hl
        obtain ⟨l_0, c_0, e_0, hl0⟩ := asS_inv hl
        have hh := e77_0 c k (r77 c k n) f h l_0 c_0 (f 1)
        rw [fset_self e_0] at hh
        rw [fset_self (rfl : f 1 = f 1)] at hh
        exact Eq.mpr hh hl0
    ) (by simp [u77]) hg

theorem e89_0 (c : Caller Prop FT) (k : KV) (J : J89) (f : FT) (h : H) (v_0 : AV) (v_1 : AV) : chunkA env c q89 u89 (f89 J) d89 (retA env Go.Proofs.Tryz.f89.results.toList k) .root (fset (fset f 0 v_0) 1 v_1) h = s89_0 c k J v_0 v_1 h := by kernel_rfl
theorem w89 {c : Caller Prop FT} (hc : CallOk Go.Proofs.Tryz.prog (CP env) G (fun p => p) c) {k : KV} {n : Nat} {args : List AV} {h : H} (hg : f89 (r89 c k n) 0 (finit args) h) : SW Go.Proofs.Tryz.prog G (.func 89) args h k :=
  fn_ok mixed envOk hc q89 Go.Proofs.Tryz.func89 rfl (by kernel_rfl) (by kernel_rfl) k u89 (fun n => f89 (r89 c k n))
    (fun L f h hl => by
      match L, hl with
      | 0, hl => exact hl
      | _ + 1, hl => exact hl)
    (fun n p L hm f h hl => by
      simp only [u89, List.mem_cons, Prod.mk.injEq, List.not_mem_nil, or_false] at hm
      rcases hm with ⟨rfl, rfl⟩
      · have hl : f89 (r89 c k (n + 1)) 0 f h := hl
        have hh := e89_0 c k (r89 c k n) f h (f 0) (f 1)
        rw [fset_self (rfl : f 0 = f 0)] at hh
        rw [fset_self (rfl : f 1 = f 1)] at hh
        exact Eq.mpr hh hl
    ) (by simp [u89]) hg

theorem e95_0 (c : Caller Prop FT) (k : KV) (J : J95) (f : FT) (h : H) (v_0 : AV) (v_1 : AV) : chunkA env c q95 u95 (f95 J) d95 (retA env Go.Proofs.Tryz.f95.results.toList k) .root (fset (fset f 0 v_0) 1 v_1) h = s95_0 c k J v_0 v_1 h := by kernel_rfl
theorem e95_1 (c : Caller Prop FT) (k : KV) (J : J95) (f : FT) (h : H) (v_3 : AV) (v_4 : AV) : chunkA env c q95 u95 (f95 J) d95 (retA env Go.Proofs.Tryz.f95.results.toList k) (.r (.r .root)) (fset (fset f 3 v_3) 4 v_4) h = s95_1 c k J v_3 v_4 h := by kernel_rfl
theorem w95 {c : Caller Prop FT} (hc : CallOk Go.Proofs.Tryz.prog (CP env) G (fun p => p) c) {k : KV} {n : Nat} {args : List AV} {h : H} (hg : f95 (r95 c k n) 0 (finit args) h) : SW Go.Proofs.Tryz.prog G (.func 95) args h k :=
  fn_ok mixed envOk hc q95 Go.Proofs.Tryz.func95 rfl (by kernel_rfl) (by kernel_rfl) k u95 (fun n => f95 (r95 c k n))
    (fun L f h hl => by
      match L, hl with
      | 0, hl => exact hl
      | 1, hl => exact hl
      | _ + 2, hl => exact hl)
    (fun n p L hm f h hl => by
      simp only [u95, List.mem_cons, Prod.mk.injEq, List.not_mem_nil, or_false] at hm
      rcases hm with ⟨rfl, rfl⟩ | ⟨rfl, rfl⟩
      · have hl : f95 (r95 c k (n + 1)) 0 f h := hl
        have hh := e95_0 c k (r95 c k n) f h (f 0) (f 1)
        rw [fset_self (rfl : f 0 = f 0)] at hh
        rw [fset_self (rfl : f 1 = f 1)] at hh
        exact Eq.mpr hh hl
      · have hl : f95 (r95 c k (n + 1)) 1 f h := hl
        have hh := e95_1 c k (r95 c k n) f h (f 3) (f 4)
        rw [fset_self (rfl : f 3 = f 3)] at hh
        rw [fset_self (rfl : f 4 = f 4)] at hh
        exact Eq.mpr hh hl
    ) (by simp [u95]) hg

theorem e96_0 (c : Caller Prop FT) (k : KV) (J : J96) (f : FT) (h : H) (v_0 : AV) (l_1 : Nat) (c_1 : Nat) : chunkA env c q96 u96 (f96 J) d96 (retA env Go.Proofs.Tryz.f96.results.toList k) .root (fset (fset f 0 v_0) 1 (.str l_1 c_1)) h = s96_0 c k J v_0 l_1 c_1 h := by kernel_rfl
theorem w96 {c : Caller Prop FT} (hc : CallOk Go.Proofs.Tryz.prog (CP env) G (fun p => p) c) {k : KV} {n : Nat} {args : List AV} {h : H} (hg : f96 (r96 c k n) 0 (finit args) h) : SW Go.Proofs.Tryz.prog G (.func 96) args h k :=
  fn_ok mixed envOk hc q96 Go.Proofs.Tryz.func96 rfl (by kernel_rfl) (by kernel_rfl) k u96 (fun n => f96 (r96 c k n))
    (fun L f h hl => by
      match L, hl with
      | 0, hl => obtain ⟨_, _, _, hl0⟩ := asS_inv (show _ from hl); exact hl0
      | _ + 1, hl => exact hl)
    (fun n p L hm f h hl => by
      simp only [u96, List.mem_cons, Prod.mk.injEq, List.not_mem_nil, or_false] at hm
      rcases hm with ⟨rfl, rfl⟩
      · have hl : f96 (r96 c k (n + 1)) 0 f h := hl
        obtain ⟨l_1, c_1, e_1, hl1⟩ := asS_inv hl
        have hh := e96_0 c k (r96 c k n) f h (f 0) l_1 c_1
        rw [fset_self (rfl : f 0 = f 0)] at hh
        rw [fset_self e_1] at hh
        exact Eq.mpr hh hl1
    ) (by simp [u96]) hg

theorem e98_0 (c : Caller Prop FT) (k : KV) (J : J98) (f : FT) (h : H) (v_0 : AV) (v_1 : AV) (v_2 : AV) : chunkA env c q98 u98 (f98 J) d98 (retA env Go.Proofs.Tryz.f98.results.toList k) .root (fset (fset (fset f 0 v_0) 1 v_1) 2 v_2) h = s98_0 c k J v_0 v_1 v_2 h := by kernel_rfl
theorem e98_1 (c : Caller Prop FT) (k : KV) (J : J98) (f : FT) (h : H) (v_1 : AV) (v_3 : AV) (v_5 : AV) (v_6 : AV) (n_7 : Int) (v_8 : AV) (n_44 : Int) (n_45 : Int) : chunkA env c q98 u98 (f98 J) d98 (retA env Go.Proofs.Tryz.f98.results.toList k) (.l (.r (.l (.r (.r (.r (.r .root))))))) (fset (fset (fset (fset (fset (fset (fset (fset f 1 v_1) 3 v_3) 5 v_5) 6 v_6) 7 (.int .i64 n_7)) 8 v_8) 44 (.int .i64 n_44)) 45 (.int .i64 n_45)) h = s98_1 c k J v_1 v_3 v_5 v_6 n_7 v_8 n_44 n_45 h := by kernel_rfl
theorem e98_2 (c : Caller Prop FT) (k : KV) (J : J98) (f : FT) (h : H) (v_3 : AV) (v_101 : AV) (n_102 : Int) (n_103 : Int) : chunkA env c q98 u98 (f98 J) d98 (retA env Go.Proofs.Tryz.f98.results.toList k) (.l (.r (.l (.r (.l (.r (.l (.r (.r (.r (.r (.r (.r (.r .root)))))))))))))) (fset (fset (fset (fset f 3 v_3) 101 v_101) 102 (.int .i64 n_102)) 103 (.int .i64 n_103)) h = s98_2 c k J v_3 v_101 n_102 n_103 h := by kernel_rfl
theorem e98_3 (c : Caller Prop FT) (k : KV) (J : J98) (f : FT) (h : H) (v_1 : AV) (v_3 : AV) (v_5 : AV) (v_6 : AV) (n_7 : Int) (v_8 : AV) (n_10 : Int) (v_14 : AV) (v_127 : AV) (n_128 : Int) (n_129 : Int) : chunkA env c q98 u98 (f98 J) d98 (retA env Go.Proofs.Tryz.f98.results.toList k) (.l (.r (.l (.r (.l (.r (.r (.r (.r (.r (.r (.r (.r (.r .root)))))))))))))) (fset (fset (fset (fset (fset (fset (fset (fset (fset (fset (fset f 1 v_1) 3 v_3) 5 v_5) 6 v_6) 7 (.int .i64 n_7)) 8 v_8) 10 (.int .i64 n_10)) 14 v_14) 127 v_127) 128 (.int .i64 n_128)) 129 (.int .i64 n_129)) h = s98_3 c k J v_1 v_3 v_5 v_6 n_7 v_8 n_10 v_14 v_127 n_128 n_129 h := by kernel_rfl
theorem e98_4 (c : Caller Prop FT) (k : KV) (J : J98) (f : FT) (h : H) (v_1 : AV) (v_3 : AV) (v_5 : AV) (n_7 : Int) (v_8 : AV) (v_14 : AV) : chunkA env c q98 u98 (f98 J) d98 (retA env Go.Proofs.Tryz.f98.results.toList k) (.r (.r (.r (.r (.r (.r (.r (.r (.r (.r (.r .root))))))))))) (fset (fset (fset (fset (fset (fset f 1 v_1) 3 v_3) 5 v_5) 7 (.int .i64 n_7)) 8 v_8) 14 v_14) h = s98_4 c k J v_1 v_3 v_5 n_7 v_8 v_14 h := by kernel_rfl
theorem e98_5 (c : Caller Prop FT) (k : KV) (J : J98) (f : FT) (h : H) (v_1 : AV) (v_3 : AV) (v_5 : AV) (v_6 : AV) (n_7 : Int) (v_8 : AV) (n_10 : Int) (v_14 : AV) : chunkA env c q98 u98 (f98 J) d98 (retA env Go.Proofs.Tryz.f98.results.toList k) (.r (.r (.r (.r (.r (.r (.r (.r (.r (.r .root)))))))))) (fset (fset (fset (fset (fset (fset (fset (fset f 1 v_1) 3 v_3) 5 v_5) 6 v_6) 7 (.int .i64 n_7)) 8 v_8) 10 (.int .i64 n_10)) 14 v_14) h = s98_5 c k J v_1 v_3 v_5 v_6 n_7 v_8 n_10 v_14 h := by kernel_rfl
theorem e98_6 (c : Caller Prop FT) (k : KV) (J : J98) (f : FT) (h : H) (v_3 : AV) (v_101 : AV) (n_102 : Int) (n_103 : Int) : chunkA env c q98 u98 (f98 J) d98 (retA env Go.Proofs.Tryz.f98.results.toList k) (.r (.l (.r (.l (.r (.l (.r (.r (.r (.r (.r (.r (.r .root))))))))))))) (fset (fset (fset (fset f 3 v_3) 101 v_101) 102 (.int .i64 n_102)) 103 (.int .i64 n_103)) h = s98_6 c k J v_3 v_101 n_102 n_103 h := by kernel_rfl
theorem e98_7 (c : Caller Prop FT) (k : KV) (J : J98) (f : FT) (h : H) (v_1 : AV) (v_3 : AV) (v_5 : AV) (v_6 : AV) (n_7 : Int) (v_8 : AV) (n_10 : Int) (v_14 : AV) (v_127 : AV) (n_128 : Int) (n_129 : Int) : chunkA env c q98 u98 (f98 J) d98 (retA env Go.Proofs.Tryz.f98.results.toList k) (.r (.l (.r (.l (.r (.r (.r (.r (.r (.r (.r (.r (.r .root))))))))))))) (fset (fset (fset (fset (fset (fset (fset (fset (fset (fset (fset f 1 v_1) 3 v_3) 5 v_5) 6 v_6) 7 (.int .i64 n_7)) 8 v_8) 10 (.int .i64 n_10)) 14 v_14) 127 v_127) 128 (.int .i64 n_128)) 129 (.int .i64 n_129)) h = s98_7 c k J v_1 v_3 v_5 v_6 n_7 v_8 n_10 v_14 v_127 n_128 n_129 h := by kernel_rfl
theorem w98 {c : Caller Prop FT} (hc : CallOk Go.Proofs.Tryz.prog (CP env) G (fun p => p) c) {k : KV} {n : Nat} {args : List AV} {h : H} (hg : f98 (r98 c k n) 0 (finit args) h) : SW Go.Proofs.Tryz.prog G (.func 98) args h k :=
  fn_ok mixed envOk hc q98 Go.Proofs.Tryz.func98 rfl (by kernel_rfl) (by kernel_rfl) k u98 (fun n => f98 (r98 c k n))
    (fun L f h hl => by
      match L, hl with
      | 0, hl => exact hl
      | 1, hl => obtain ⟨_, _, hl0⟩ := asI_inv (show _ from hl); obtain ⟨_, _, hl1⟩ := asI_inv (show _ from hl0); obtain ⟨_, _, hl2⟩ := asI_inv (show _ from hl1); exact hl2
      | 2, hl => obtain ⟨_, _, hl0⟩ := asI_inv (show _ from hl); obtain ⟨_, _, hl1⟩ := asI_inv (show _ from hl0); exact hl1
      | 3, hl => obtain ⟨_, _, hl0⟩ := asI_inv (show _ from hl); obtain ⟨_, _, hl1⟩ := asI_inv (show _ from hl0); obtain ⟨_, _, hl2⟩ := asI_inv (show _ from hl1); obtain ⟨_, _, hl3⟩ := asI_inv (show _ from hl2); exact hl3
      | 4, hl => obtain ⟨_, _, hl0⟩ := asI_inv (show _ from hl); exact hl0
      | 5, hl => obtain ⟨_, _, hl0⟩ := asI_inv (show _ from hl); obtain ⟨_, _, hl1⟩ := asI_inv (show _ from hl0); exact hl1
      | 6, hl => obtain ⟨_, _, hl0⟩ := asI_inv (show _ from hl); obtain ⟨_, _, hl1⟩ := asI_inv (show _ from hl0); exact hl1
      | 7, hl => obtain ⟨_, _, hl0⟩ := asI_inv (show _ from hl); obtain ⟨_, _, hl1⟩ := asI_inv (show _ from hl0); obtain ⟨_, _, hl2⟩ := asI_inv (show _ from hl1); obtain ⟨_, _, hl3⟩ := asI_inv (show _ from hl2); exact hl3
      | _ + 8, hl => exact hl)
    (fun n p L hm f h hl => by
      simp only [u98, List.mem_cons, Prod.mk.injEq, List.not_mem_nil, or_false] at hm
      rcases hm with ⟨rfl, rfl⟩ | ⟨rfl, rfl⟩ | ⟨rfl, rfl⟩ | ⟨rfl, rfl⟩ | ⟨rfl, rfl⟩ | ⟨rfl, rfl⟩ | ⟨rfl, rfl⟩ | ⟨rfl, rfl⟩
      · have hl : f98 (r98 c k (n + 1)) 0 f h := hl
        have hh := e98_0 c k (r98 c k n) f h (f 0) (f 1) (f 2)
        rw [fset_self (rfl : f 0 = f 0)] at hh
        rw [fset_self (rfl : f 1 = f 1)] at hh
        rw [fset_self (rfl : f 2 = f 2)] at hh
        exact Eq.mpr hh hl
      · have hl : f98 (r98 c k (n + 1)) 1 f h := hl
        obtain ⟨n_7, e_7, hl4⟩ := asI_inv hl
        obtain ⟨n_44, e_44, hl6⟩ := asI_inv hl4
        obtain ⟨n_45, e_45, hl7⟩ := asI_inv hl6
        have hh := e98_1 c k (r98 c k n) f h (f 1) (f 3) (f 5) (f 6) n_7 (f 8) n_44 n_45
        rw [fset_self (rfl : f 1 = f 1)] at hh
        rw [fset_self (rfl : f 3 = f 3)] at hh
        rw [fset_self (rfl : f 5 = f 5)] at hh
        rw [fset_self (rfl : f 6 = f 6)] at hh
        rw [fset_self e_7] at hh
        rw [fset_self (rfl : f 8 = f 8)] at hh
        rw [fset_self e_44] at hh
        rw [fset_self e_45] at hh
        exact Eq.mpr hh hl7
      · have hl : f98 (r98 c k (n + 1)) 2 f h := hl
        obtain ⟨n_102, e_102, hl2⟩ := asI_inv hl
        obtain ⟨n_103, e_103, hl3⟩ := asI_inv hl2
        have hh := e98_2 c k (r98 c k n) f h (f 3) (f 101) n_102 n_103
        rw [fset_self (rfl : f 3 = f 3)] at hh
        rw [fset_self (rfl : f 101 = f 101)] at hh
        rw [fset_self e_102] at hh
        rw [fset_self e_103] at hh
        exact Eq.mpr hh hl3
      · have hl : f98 (r98 c k (n + 1)) 3 f h := hl
        obtain ⟨n_7, e_7, hl4⟩ := asI_inv hl
        obtain ⟨n_10, e_10, hl6⟩ := asI_inv hl4
        obtain ⟨n_128, e_128, hl9⟩ := asI_inv hl6
        obtain ⟨n_129, e_129, hl10⟩ := asI_inv hl9
        have hh := e98_3 c k (r98 c k n) f h (f 1) (f 3) (f 5) (f 6) n_7 (f 8) n_10 (f 14) (f 127) n_128 n_129
        rw [fset_self (rfl : f 1 = f 1)] at hh
        rw [fset_self (rfl : f 3 = f 3)] at hh
        rw [fset_self (rfl : f 5 = f 5)] at hh
        rw [fset_self (rfl : f 6 = f 6)] at hh
        rw [fset_self e_7] at hh
        rw [fset_self (rfl : f 8 = f 8)] at hh
        rw [fset_self e_10] at hh
        rw [fset_self (rfl : f 14 = f 14)] at hh
        rw [fset_self (rfl : f 127 = f 127)] at hh
        rw [fset_self e_128] at hh
        rw [fset_self e_129] at hh
        exact Eq.mpr hh hl10
      · have hl : f98 (r98 c k (n + 1)) 4 f h := hl
        obtain ⟨n_7, e_7, hl3⟩ := asI_inv hl
        have hh := e98_4 c k (r98 c k n) f h (f 1) (f 3) (f 5) n_7 (f 8) (f 14)
        rw [fset_self (rfl : f 1 = f 1)] at hh
        rw [fset_self (rfl : f 3 = f 3)] at hh
        rw [fset_self (rfl : f 5 = f 5)] at hh
        rw [fset_self e_7] at hh
        rw [fset_self (rfl : f 8 = f 8)] at hh
        rw [fset_self (rfl : f 14 = f 14)] at hh
        exact Eq.mpr hh hl3
      · have hl : f98 (r98 c k (n + 1)) 5 f h := hl
        obtain ⟨n_7, e_7, hl4⟩ := asI_inv hl
        obtain ⟨n_10, e_10, hl6⟩ := asI_inv hl4
        have hh := e98_5 c k (r98 c k n) f h (f 1) (f 3) (f 5) (f 6) n_7 (f 8) n_10 (f 14)
        rw [fset_self (rfl : f 1 = f 1)] at hh
        rw [fset_self (rfl : f 3 = f 3)] at hh
        rw [fset_self (rfl : f 5 = f 5)] at hh
        rw [fset_self (rfl : f 6 = f 6)] at hh
        rw [fset_self e_7] at hh
        rw [fset_self (rfl : f 8 = f 8)] at hh
        rw [fset_self e_10] at hh
        rw [fset_self (rfl : f 14 = f 14)] at hh
        exact Eq.mpr hh hl6
      · have hl : f98 (r98 c k (n + 1)) 6 f h := hl
        obtain ⟨n_102, e_102, hl2⟩ := asI_inv hl
        obtain ⟨n_103, e_103, hl3⟩ := asI_inv hl2
        have hh := e98_6 c k (r98 c k n) f h (f 3) (f 101) n_102 n_103
        rw [fset_self (rfl : f 3 = f 3)] at hh
        rw [fset_self (rfl : f 101 = f 101)] at hh
        rw [fset_self e_102] at hh
        rw [fset_self e_103] at hh
        exact Eq.mpr hh hl3
      · have hl : f98 (r98 c k (n + 1)) 7 f h := hl
        obtain ⟨n_7, e_7, hl4⟩ := asI_inv hl
        obtain ⟨n_10, e_10, hl6⟩ := asI_inv hl4
        obtain ⟨n_128, e_128, hl9⟩ := asI_inv hl6
        obtain ⟨n_129, e_129, hl10⟩ := asI_inv hl9
        have hh := e98_7 c k (r98 c k n) f h (f 1) (f 3) (f 5) (f 6) n_7 (f 8) n_10 (f 14) (f 127) n_128 n_129
        rw [fset_self (rfl : f 1 = f 1)] at hh
        rw [fset_self (rfl : f 3 = f 3)] at hh
        rw [fset_self (rfl : f 5 = f 5)] at hh
        rw [fset_self (rfl : f 6 = f 6)] at hh
        rw [fset_self e_7] at hh
        rw [fset_self (rfl : f 8 = f 8)] at hh
        rw [fset_self e_10] at hh
        rw [fset_self (rfl : f 14 = f 14)] at hh
        rw [fset_self (rfl : f 127 = f 127)] at hh
        rw [fset_self e_128] at hh
        rw [fset_self e_129] at hh
        exact Eq.mpr hh hl10
    ) (by simp [u98]) hg

theorem w100 {c : Caller Prop FT} (hc : CallOk Go.Proofs.Tryz.prog (CP env) G (fun p => p) c) {k : KV} {m : Nat} {a : List AV} {h : H} (hg : runJ env c q100 u100 d100 (retA env Go.Proofs.Tryz.f100.results.toList k) m 0 (finit a) h) : SW Go.Proofs.Tryz.prog G (.func 100) a h k := fnI_ok mixed envOk hc q100 Go.Proofs.Tryz.func100 rfl (by kernel_rfl) (by kernel_rfl) (by kernel_rfl) (by simp [u100]) hg
theorem e101_0 (c : Caller Prop FT) (k : KV) (J : J101) (f : FT) (h : H) (l_0 : Nat) (c_0 : Nat) (n_1 : Int) : chunkA env c q101 u101 (f101 J) d101 (retA env Go.Proofs.Tryz.f101.results.toList k) .root (fset (fset f 0 (.str l_0 c_0)) 1 (.int .i64 n_1)) h = s101_0 c k J l_0 c_0 n_1 h := by kernel_rfl
theorem e101_1 (c : Caller Prop FT) (k : KV) (J : J101) (f : FT) (h : H) (l_0 : Nat) (c_0 : Nat) (n_1 : Int) (v_4 : AV) : chunkA env c q101 u101 (f101 J) d101 (retA env Go.Proofs.Tryz.f101.results.toList k) (.r (.r .root)) (fset (fset (fset f 0 (.str l_0 c_0)) 1 (.int .i64 n_1)) 4 v_4) h = s101_1 c k J l_0 c_0 n_1 v_4 h := by kernel_rfl
theorem w101 {c : Caller Prop FT} (hc : CallOk Go.Proofs.Tryz.prog (CP env) G (fun p => p) c) {k : KV} {n : Nat} {args : List AV} {h : H} (hg : f101 (r101 c k n) 0 (finit args) h) : SW Go.Proofs.Tryz.prog G (.func 101) args h k :=
  fn_ok mixed envOk hc q101 Go.Proofs.Tryz.func101 rfl (by kernel_rfl) (by kernel_rfl) k u101 (fun n => f101 (r101 c k n))
    (fun L f h hl => by
      match L, hl with
      | 0, hl => obtain ⟨_, _, _, hl0⟩ := asS_inv (show _ from hl); obtain ⟨_, _, hl1⟩ := asI_inv (show _ from hl0); exact hl1
      | 1, hl => obtain ⟨_, _, _, hl0⟩ := asS_inv (show _ from hl); obtain ⟨_, _, hl1⟩ := asI_inv (show _ from hl0); exact hl1
      | _ + 2, hl => exact hl)
    (fun n p L hm f h hl => by
      simp only [u101, List.mem_cons, Prod.mk.injEq, List.not_mem_nil, or_false] at hm
      rcases hm with ⟨rfl, rfl⟩ | ⟨rfl, rfl⟩
      · have hl : f101 (r101 c k (n + 1)) 0 f h := hl
        obtain ⟨l_0, c_0, e_0, hl0⟩ := asS_inv hl
        obtain ⟨n_1, e_1, hl1⟩ := asI_inv hl0
        have hh := e101_0 c k (r101 c k n) f h l_0 c_0 n_1
        rw [fset_self e_0] at hh
        rw [fset_self e_1] at hh
        exact Eq.mpr hh hl1
      · have hl : f101 (r101 c k (n + 1)) 1 f h := hl
        obtain ⟨l_0, c_0, e_0, hl0⟩ := asS_inv hl
        obtain ⟨n_1, e_1, hl1⟩ := asI_inv hl0
        have hh := e101_1 c k (r101 c k n) f h l_0 c_0 n_1 (f 4)
        rw [fset_self e_0] at hh
        rw [fset_self e_1] at hh
        rw [fset_self (rfl : f 4 = f 4)] at hh
        exact Eq.mpr hh hl1
    ) (by simp [u101]) hg

theorem e108_0 (c : Caller Prop FT) (k : KV) (J : J108) (f : FT) (h : H) (v_0 : AV) : chunkA env c q108 u108 (f108 J) d108 (retA env Go.Proofs.Tryz.f108.results.toList k) .root (fset f 0 v_0) h = s108_0 c k J v_0 h := by kernel_rfl
theorem w108 {c : Caller Prop FT} (hc : CallOk Go.Proofs.Tryz.prog (CP env) G (fun p => p) c) {k : KV} {n : Nat} {args : List AV} {h : H} (hg : f108 (r108 c k n) 0 (finit args) h) : SW Go.Proofs.Tryz.prog G (.func 108) args h k :=
  fn_ok mixed envOk hc q108 Go.Proofs.Tryz.func108 rfl (by kernel_rfl) (by kernel_rfl) k u108 (fun n => f108 (r108 c k n))
    (fun L f h hl => by
      match L, hl with
      | 0, hl => exact hl
      | _ + 1, hl => exact hl)
    (fun n p L hm f h hl => by
      simp only [u108, List.mem_cons, Prod.mk.injEq, List.not_mem_nil, or_false] at hm
      rcases hm with ⟨rfl, rfl⟩
      · have hl : f108 (r108 c k (n + 1)) 0 f h := hl
        have hh := e108_0 c k (r108 c k n) f h (f 0)
        rw [fset_self (rfl : f 0 = f 0)] at hh
        exact Eq.mpr hh hl
    ) (by simp [u108]) hg

theorem e109_0 (c : Caller Prop FT) (k : KV) (J : J109) (f : FT) (h : H) (v_0 : AV) (l_1 : Nat) (c_1 : Nat) : chunkA env c q109 u109 (f109 J) d109 (retA env Go.Proofs.Tryz.f109.results.toList k) .root (fset (fset f 0 v_0) 1 (.str l_1 c_1)) h = s109_0 c k J v_0 l_1 c_1 h := by kernel_rfl
theorem w109 {c : Caller Prop FT} (hc : CallOk Go.Proofs.Tryz.prog (CP env) G (fun p => p) c) {k : KV} {n : Nat} {args : List AV} {h : H} (hg : f109 (r109 c k n) 0 (finit args) h) : SW Go.Proofs.Tryz.prog G (.func 109) args h k :=
  fn_ok mixed envOk hc q109 Go.Proofs.Tryz.func109 rfl (by kernel_rfl) (by kernel_rfl) k u109 (fun n => f109 (r109 c k n))
    (fun L f h hl => by
      match L, hl with
      | 0, hl => obtain ⟨_, _, _, hl0⟩ := asS_inv (show _ from hl); exact hl0
      | _ + 1, hl => exact hl)
    (fun n p L hm f h hl => by
      simp only [u109, List.mem_cons, Prod.mk.injEq, List.not_mem_nil, or_false] at hm
      rcases hm with ⟨rfl, rfl⟩
      · have hl : f109 (r109 c k (n + 1)) 0 f h := hl
        obtain ⟨l_1, c_1, e_1, hl1⟩ := asS_inv hl
        have hh := e109_0 c k (r109 c k n) f h (f 0) l_1 c_1
        rw [fset_self (rfl : f 0 = f 0)] at hh
        rw [fset_self e_1] at hh
        exact Eq.mpr hh hl1
    ) (by simp [u109]) hg

theorem w110 {c : Caller Prop FT} (hc : CallOk Go.Proofs.Tryz.prog (CP env) G (fun p => p) c) {k : KV} {m : Nat} {a : List AV} {h : H} (hg : runJ env c q110 u110 d110 (retA env Go.Proofs.Tryz.f110.results.toList k) m 0 (finit a) h) : SW Go.Proofs.Tryz.prog G (.func 110) a h k := fnI_ok mixed envOk hc q110 Go.Proofs.Tryz.func110 rfl (by kernel_rfl) (by kernel_rfl) (by kernel_rfl) (by simp [u110]) hg
theorem e113_0 (c : Caller Prop FT) (k : KV) (J : J113) (f : FT) (h : H) (v_0 : AV) (n_1 : Int) (n_2 : Int) : chunkA env c q113 u113 (f113 J) d113 (retA env Go.Proofs.Tryz.f113.results.toList k) .root (fset (fset (fset f 0 v_0) 1 (.int .i64 n_1)) 2 (.int .i64 n_2)) h = s113_0 c k J v_0 n_1 n_2 h := by kernel_rfl
theorem e113_1 (c : Caller Prop FT) (k : KV) (J : J113) (f : FT) (h : H) (v_0 : AV) (n_1 : Int) (n_2 : Int) (n_6 : Int) : chunkA env c q113 u113 (f113 J) d113 (retA env Go.Proofs.Tryz.f113.results.toList k) (.l (.r .root)) (fset (fset (fset (fset f 0 v_0) 1 (.int .i64 n_1)) 2 (.int .i64 n_2)) 6 (.int .i64 n_6)) h = s113_1 c k J v_0 n_1 n_2 n_6 h := by kernel_rfl
theorem e113_2 (c : Caller Prop FT) (k : KV) (J : J113) (f : FT) (h : H) (v_0 : AV) (n_1 : Int) (n_2 : Int) (n_6 : Int) (n_7 : Int) : chunkA env c q113 u113 (f113 J) d113 (retA env Go.Proofs.Tryz.f113.results.toList k) (.l (.r (.l (.l (.r (.l (.l (.r .root)))))))) (fset (fset (fset (fset (fset f 0 v_0) 1 (.int .i64 n_1)) 2 (.int .i64 n_2)) 6 (.int .i64 n_6)) 7 (.int .i64 n_7)) h = s113_2 c k J v_0 n_1 n_2 n_6 n_7 h := by kernel_rfl
theorem w113 {c : Caller Prop FT} (hc : CallOk Go.Proofs.Tryz.prog (CP env) G (fun p => p) c) {k : KV} {n : Nat} {args : List AV} {h : H} (hg : f113 (r113 c k n) 0 (finit args) h) : SW Go.Proofs.Tryz.prog G (.func 113) args h k :=
  fn_ok mixed envOk hc q113 Go.Proofs.Tryz.func113 rfl (by kernel_rfl) (by kernel_rfl) k u113 (fun n => f113 (r113 c k n))
    (fun L f h hl => by
      match L, hl with
      | 0, hl => obtain ⟨_, _, hl0⟩ := asI_inv (show _ from hl); obtain ⟨_, _, hl1⟩ := asI_inv (show _ from hl0); exact hl1
      | 1, hl => obtain ⟨_, _, hl0⟩ := asI_inv (show _ from hl); obtain ⟨_, _, hl1⟩ := asI_inv (show _ from hl0); obtain ⟨_, _, hl2⟩ := asI_inv (show _ from hl1); exact hl2
      | 2, hl => obtain ⟨_, _, hl0⟩ := asI_inv (show _ from hl); obtain ⟨_, _, hl1⟩ := asI_inv (show _ from hl0); obtain ⟨_, _, hl2⟩ := asI_inv (show _ from hl1); obtain ⟨_, _, hl3⟩ := asI_inv (show _ from hl2); exact hl3
      | _ + 3, hl => exact hl)
    (fun n p L hm f h hl => by
      simp only [u113, List.mem_cons, Prod.mk.injEq, List.not_mem_nil, or_false] at hm
      rcases hm with ⟨rfl, rfl⟩ | ⟨rfl, rfl⟩ | ⟨rfl, rfl⟩
      · have hl : f113 (r113 c k (n + 1)) 0 f h := hl
        obtain ⟨n_1, e_1, hl1⟩ := asI_inv hl
        obtain ⟨n_2, e_2, hl2⟩ := asI_inv hl1
        have hh := e113_0 c k (r113 c k n) f h (f 0) n_1 n_2
        rw [fset_self (rfl : f 0 = f 0)] at hh
        rw [fset_self e_1] at hh
        rw [fset_self e_2] at hh
        exact Eq.mpr hh hl2
      · have hl : f113 (r113 c k (n + 1)) 1 f h := hl
        obtain ⟨n_1, e_1, hl1⟩ := asI_inv hl
        obtain ⟨n_2, e_2, hl2⟩ := asI_inv hl1
        obtain ⟨n_6, e_6, hl3⟩ := asI_inv hl2
        have hh := e113_1 c k (r113 c k n) f h (f 0) n_1 n_2 n_6
        rw [fset_self (rfl : f 0 = f 0)] at hh
        rw [fset_self e_1] at hh
        rw [fset_self e_2] at hh
        rw [fset_self e_6] at hh
        exact Eq.mpr hh hl3
      · have hl : f113 (r113 c k (n + 1)) 2 f h := hl
        obtain ⟨n_1, e_1, hl1⟩ := asI_inv hl
        obtain ⟨n_2, e_2, hl2⟩ := asI_inv hl1
        obtain ⟨n_6, e_6, hl3⟩ := asI_inv hl2
        obtain ⟨n_7, e_7, hl4⟩ := asI_inv hl3
        have hh := e113_2 c k (r113 c k n) f h (f 0) n_1 n_2 n_6 n_7
        rw [fset_self (rfl : f 0 = f 0)] at hh
        rw [fset_self e_1] at hh
        rw [fset_self e_2] at hh
        rw [fset_self e_6] at hh
        rw [fset_self e_7] at hh
        exact Eq.mpr hh hl4
    ) (by simp [u113]) hg

theorem e119_0 (c : Caller Prop FT) (k : KV) (J : J119) (f : FT) (h : H) (l_0 : Nat) (c_0 : Nat) (l_1 : Nat) (c_1 : Nat) : chunkA env c q119 u119 (f119 J) d119 (retA env Go.Proofs.Tryz.f119.results.toList k) .root (fset (fset f 0 (.str l_0 c_0)) 1 (.str l_1 c_1)) h = s119_0 c k J l_0 c_0 l_1 c_1 h := by kernel_rfl
theorem w119 {c : Caller Prop FT} (hc : CallOk Go.Proofs.Tryz.prog (CP env) G (fun p => p) c) {k : KV} {n : Nat} {args : List AV} {h : H} (hg : f119 (r119 c k n) 0 (finit args) h) : SW Go.Proofs.Tryz.prog G (.func 119) args h k :=
  fn_ok mixed envOk hc q119 Go.Proofs.Tryz.func119 rfl (by kernel_rfl) (by kernel_rfl) k u119 (fun n => f119 (r119 c k n))
    (fun L f h hl => by
      match L, hl with
      | 0, hl => obtain ⟨_, _, _, hl0⟩ := asS_inv (show _ from hl); obtain ⟨_, _, _, hl1⟩ := asS_inv (show _ from hl0); exact hl1
      | _ + 1, hl => exact hl)
    (fun n p L hm f h hl => by
      simp only [u119, List.mem_cons, Prod.mk.injEq, List.not_mem_nil, or_false] at hm
      rcases hm with ⟨rfl, rfl⟩
      · have hl : f119 (r119 c k (n + 1)) 0 f h := hl
        obtain ⟨l_0, c_0, e_0, hl0⟩ := asS_inv hl
        obtain ⟨l_1, c_1, e_1, hl1⟩ := asS_inv hl0
        have hh := e119_0 c k (r119 c k n) f h l_0 c_0 l_1 c_1
        rw [fset_self e_0] at hh
        rw [fset_self e_1] at hh
        exact Eq.mpr hh hl1
    ) (by simp [u119]) hg

theorem e126_0 (c : Caller Prop FT) (k : KV) (J : J126) (f : FT) (h : H) (v_0 : AV) : chunkA env c q126 u126 (f126 J) d126 (retA env Go.Proofs.Tryz.f126.results.toList k) .root (fset f 0 v_0) h = s126_0 c k J v_0 h := by kernel_rfl
theorem e126_1 (c : Caller Prop FT) (k : KV) (J : J126) (f : FT) (h : H) (v_0 : AV) (n_3 : Int) : chunkA env c q126 u126 (f126 J) d126 (retA env Go.Proofs.Tryz.f126.results.toList k) (.l (.r (.l (.l (.r (.l (.r (.r .root)))))))) (fset (fset f 0 v_0) 3 (.int .i64 n_3)) h = s126_1 c k J v_0 n_3 h := by kernel_rfl
theorem w126 {c : Caller Prop FT} (hc : CallOk Go.Proofs.Tryz.prog (CP env) G (fun p => p) c) {k : KV} {n : Nat} {args : List AV} {h : H} (hg : f126 (r126 c k n) 0 (finit args) h) : SW Go.Proofs.Tryz.prog G (.func 126) args h k :=
  fn_ok mixed envOk hc q126 Go.Proofs.Tryz.func126 rfl (by kernel_rfl) (by kernel_rfl) k u126 (fun n => f126 (r126 c k n))
    (fun L f h hl => by
      match L, hl with
      | 0, hl => exact hl
      | 1, hl => obtain ⟨_, _, hl0⟩ := asI_inv (show _ from hl); exact hl0
      | _ + 2, hl => exact hl)
    (fun n p L hm f h hl => by
      simp only [u126, List.mem_cons, Prod.mk.injEq, List.not_mem_nil, or_false] at hm
      rcases hm with ⟨rfl, rfl⟩ | ⟨rfl, rfl⟩
      · have hl : f126 (r126 c k (n + 1)) 0 f h := hl
        have hh := e126_0 c k (r126 c k n) f h (f 0)
        rw [fset_self (rfl : f 0 = f 0)] at hh
        exact Eq.mpr hh hl
      · have hl : f126 (r126 c k (n + 1)) 1 f h := hl
        obtain ⟨n_3, e_3, hl1⟩ := asI_inv hl
        have hh := e126_1 c k (r126 c k n) f h (f 0) n_3
        rw [fset_self (rfl : f 0 = f 0)] at hh
        rw [fset_self e_3] at hh
        exact Eq.mpr hh hl1
    ) (by simp [u126]) hg

theorem e128_0 (c : Caller Prop FT) (k : KV) (J : J128) (f : FT) (h : H) (v_0 : AV) (l_1 : Nat) (c_1 : Nat) : chunkA env c q128 u128 (f128 J) d128 (retA env Go.Proofs.Tryz.f128.results.toList k) .root (fset (fset f 0 v_0) 1 (.str l_1 c_1)) h = s128_0 c k J v_0 l_1 c_1 h := by kernel_rfl
theorem e128_1 (c : Caller Prop FT) (k : KV) (J : J128) (f : FT) (h : H) (v_0 : AV) (l_1 : Nat) (c_1 : Nat) (n_6 : Int) (n_7 : Int) (n_8 : Int) : chunkA env c q128 u128 (f128 J) d128 (retA env Go.Proofs.Tryz.f128.results.toList k) (.l (.l (.r (.r (.r .root))))) (fset (fset (fset (fset (fset f 0 v_0) 1 (.str l_1 c_1)) 6 (.int .i64 n_6)) 7 (.int .i64 n_7)) 8 (.int .i64 n_8)) h = s128_1 c k J v_0 l_1 c_1 n_6 n_7 n_8 h := by kernel_rfl
theorem w128 {c : Caller Prop FT} (hc : CallOk Go.Proofs.Tryz.prog (CP env) G (fun p => p) c) {k : KV} {n : Nat} {args : List AV} {h : H} (hg : f128 (r128 c k n) 0 (finit args) h) : SW Go.Proofs.Tryz.prog G (.func 128) args h k :=
  fn_ok mixed envOk hc q128 Go.Proofs.Tryz.func128 rfl (by kernel_rfl) (by kernel_rfl) k u128 (fun n => f128 (r128 c k n))
    (fun L f h hl => by
      match L, hl with
      | 0, hl => obtain ⟨_, _, _, hl0⟩ := asS_inv (show _ from hl); exact hl0
      | 1, hl => obtain ⟨_, _, _, hl0⟩ := asS_inv (show _ from hl); obtain ⟨_, _, hl1⟩ := asI_inv (show _ from hl0); obtain ⟨_, _, hl2⟩ := asI_inv (show _ from hl1); obtain ⟨_, _, hl3⟩ := asI_inv (show _ from hl2); exact hl3
      | _ + 2, hl => exact hl)
    (fun n p L hm f h hl => by
      simp only [u128, List.mem_cons, Prod.mk.injEq, List.not_mem_nil, or_false] at hm
      rcases hm with ⟨rfl, rfl⟩ | ⟨rfl, rfl⟩
      · have hl : f128 (r128 c k (n + 1)) 0 f h := hl
        obtain ⟨l_1, c_1, e_1, hl1⟩ := asS_inv hl
        have hh := e128_0 c k (r128 c k n) f h (f 0) l_1 c_1
        rw [fset_self (rfl : f 0 = f 0)] at hh
        rw [fset_self e_1] at hh
        exact Eq.mpr hh hl1
      · have hl : f128 (r128 c k (n + 1)) 1 f h := hl
        obtain ⟨l_1, c_1, e_1, hl1⟩ := asS_inv hl
        obtain ⟨n_6, e_6, hl2⟩ := asI_inv hl1
        obtain ⟨n_7, e_7, hl3⟩ := asI_inv hl2
        obtain ⟨n_8, e_8, hl4⟩ := asI_inv hl3
        have hh := e128_1 c k (r128 c k n) f h (f 0) l_1 c_1 n_6 n_7 n_8
        rw [fset_self (rfl : f 0 = f 0)] at hh
        rw [fset_self e_1] at hh
        rw [fset_self e_6] at hh
        rw [fset_self e_7] at hh
        rw [fset_self e_8] at hh
        exact Eq.mpr hh hl4
    ) (by simp [u128]) hg

theorem e134_0 (c : Caller Prop FT) (k : KV) (J : J134) (f : FT) (h : H) (n_0 : Int) (v_1 : AV) : chunkA env c q134 u134 (f134 J) d134 (retA env Go.Proofs.Tryz.f134.results.toList k) .root (fset (fset f 0 (.int .i64 n_0)) 1 v_1) h = s134_0 c k J n_0 v_1 h := by kernel_rfl
theorem w134 {c : Caller Prop FT} (hc : CallOk Go.Proofs.Tryz.prog (CP env) G (fun p => p) c) {k : KV} {n : Nat} {args : List AV} {h : H} (hg : f134 (r134 c k n) 0 (finit args) h) : SW Go.Proofs.Tryz.prog G (.func 134) args h k :=
  fn_ok mixed envOk hc q134 Go.Proofs.Tryz.func134 rfl (by kernel_rfl) (by kernel_rfl) k u134 (fun n => f134 (r134 c k n))
    (fun L f h hl => by
      match L, hl with
      | 0, hl => obtain ⟨_, _, hl0⟩ := asI_inv (show _ from hl); exact hl0
      | _ + 1, hl => exact hl)
    (fun n p L hm f h hl => by
      simp only [u134, List.mem_cons, Prod.mk.injEq, List.not_mem_nil, or_false] at hm
      rcases hm with ⟨rfl, rfl⟩
      · have hl : f134 (r134 c k (n + 1)) 0 f h := hl
        obtain ⟨n_0, e_0, hl0⟩ := asI_inv hl
        have hh := e134_0 c k (r134 c k n) f h n_0 (f 1)
        rw [fset_self e_0] at hh
        rw [fset_self (rfl : f 1 = f 1)] at hh
        exact Eq.mpr hh hl0
    ) (by simp [u134]) hg

theorem w139 {c : Caller Prop FT} (hc : CallOk Go.Proofs.Tryz.prog (CP env) G (fun p => p) c) {k : KV} {m : Nat} {a : List AV} {h : H} (hg : runJ env c q139 u139 d139 (retA env Go.Proofs.Tryz.f139.results.toList k) m 0 (finit a) h) : SW Go.Proofs.Tryz.prog G (.func 139) a h k := fnI_ok mixed envOk hc q139 Go.Proofs.Tryz.func139 rfl (by kernel_rfl) (by kernel_rfl) (by kernel_rfl) (by simp [u139]) hg
theorem w142 {c : Caller Prop FT} (hc : CallOk Go.Proofs.Tryz.prog (CP env) G (fun p => p) c) {k : KV} {m : Nat} {a : List AV} {h : H} (hg : runJ env c q142 u142 d142 (retA env Go.Proofs.Tryz.f142.results.toList k) m 0 (finit a) h) : SW Go.Proofs.Tryz.prog G (.func 142) a h k := fnI_ok mixed envOk hc q142 Go.Proofs.Tryz.func142 rfl (by kernel_rfl) (by kernel_rfl) (by kernel_rfl) (by simp [u142]) hg
theorem w145 {c : Caller Prop FT} (hc : CallOk Go.Proofs.Tryz.prog (CP env) G (fun p => p) c) {k : KV} {m : Nat} {a : List AV} {h : H} (hg : runJ env c q145 u145 d145 (retA env Go.Proofs.Tryz.f145.results.toList k) m 0 (finit a) h) : SW Go.Proofs.Tryz.prog G (.func 145) a h k := fnI_ok mixed envOk hc q145 Go.Proofs.Tryz.func145 rfl (by kernel_rfl) (by kernel_rfl) (by kernel_rfl) (by simp [u145]) hg
theorem e151_0 (c : Caller Prop FT) (k : KV) (J : J151) (f : FT) (h : H) (l_0 : Nat) (c_0 : Nat) (l_1 : Nat) (c_1 : Nat) : chunkA env c q151 u151 (f151 J) d151 (retA env Go.Proofs.Tryz.f151.results.toList k) .root (fset (fset f 0 (.str l_0 c_0)) 1 (.str l_1 c_1)) h = s151_0 c k J l_0 c_0 l_1 c_1 h := by kernel_rfl
theorem e151_1 (c : Caller Prop FT) (k : KV) (J : J151) (f : FT) (h : H) (l_0 : Nat) (c_0 : Nat) (l_1 : Nat) (c_1 : Nat) (n_5 : Int) (n_6 : Int) (n_7 : Int) (n_8 : Int) (n_9 : Int) (n_10 : Int) : chunkA env c q151 u151 (f151 J) d151 (retA env Go.Proofs.Tryz.f151.results.toList k) (.l (.l (.r (.r (.r (.r (.r (.r (.r (.r .root)))))))))) (fset (fset (fset (fset (fset (fset (fset (fset f 0 (.str l_0 c_0)) 1 (.str l_1 c_1)) 5 (.int .i64 n_5)) 6 (.int .u8 n_6)) 7 (.int .u8 n_7)) 8 (.int .i64 n_8)) 9 (.int .i64 n_9)) 10 (.int .i64 n_10)) h = s151_1 c k J l_0 c_0 l_1 c_1 n_5 n_6 n_7 n_8 n_9 n_10 h := by kernel_rfl
theorem e151_2 (c : Caller Prop FT) (k : KV) (J : J151) (f : FT) (h : H) (l_0 : Nat) (c_0 : Nat) (l_1 : Nat) (c_1 : Nat) (n_5 : Int) (n_6 : Int) (n_7 : Int) (n_8 : Int) (n_9 : Int) (n_10 : Int) : chunkA env c q151 u151 (f151 J) d151 (retA env Go.Proofs.Tryz.f151.results.toList k) (.r (.l (.r (.l (.l (.l (.r (.r (.r (.r (.r (.r (.r (.r .root)))))))))))))) (fset (fset (fset (fset (fset (fset (fset (fset f 0 (.str l_0 c_0)) 1 (.str l_1 c_1)) 5 (.int .i64 n_5)) 6 (.int .u8 n_6)) 7 (.int .u8 n_7)) 8 (.int .i64 n_8)) 9 (.int .i64 n_9)) 10 (.int .i64 n_10)) h = s151_2 c k J l_0 c_0 l_1 c_1 n_5 n_6 n_7 n_8 n_9 n_10 h := by kernel_rfl
theorem w151 {c : Caller Prop FT} (hc : CallOk Go.Proofs.Tryz.prog (CP env) G (fun p => p) c) {k : KV} {n : Nat} {args : List AV} {h : H} (hg : f151 (r151 c k n) 0 (finit args) h) : SW Go.Proofs.Tryz.prog G (.func 151) args h k :=
  fn_ok mixed envOk hc q151 Go.Proofs.Tryz.func151 rfl (by kernel_rfl) (by kernel_rfl) k u151 (fun n => f151 (r151 c k n))
    (fun L f h hl => by
      match L, hl with
      | 0, hl => obtain ⟨_, _, _, hl0⟩ := asS_inv (show _ from hl); obtain ⟨_, _, _, hl1⟩ := asS_inv (show _ from hl0); exact hl1
      | 1, hl => obtain ⟨_, _, _, hl0⟩ := asS_inv (show _ from hl); obtain ⟨_, _, _, hl1⟩ := asS_inv (show _ from hl0); obtain ⟨_, _, hl2⟩ := asI_inv (show _ from hl1); obtain ⟨_, _, hl3⟩ := asI_inv (show _ from hl2); obtain ⟨_, _, hl4⟩ := asI_inv (show _ from hl3); obtain ⟨_, _, hl5⟩ := asI_inv (show _ from hl4); obtain ⟨_, _, hl6⟩ := asI_inv (show _ from hl5); obtain ⟨_, _, hl7⟩ := asI_inv (show _ from hl6); exact hl7
      | 2, hl => obtain ⟨_, _, _, hl0⟩ := asS_inv (show _ from hl); obtain ⟨_, _, _, hl1⟩ := asS_inv (show _ from hl0); obtain ⟨_, _, hl2⟩ := asI_inv (show _ from hl1); obtain ⟨_, _, hl3⟩ := asI_inv (show _ from hl2); obtain ⟨_, _, hl4⟩ := asI_inv (show _ from hl3); obtain ⟨_, _, hl5⟩ := asI_inv (show _ from hl4); obtain ⟨_, _, hl6⟩ := asI_inv (show _ from hl5); obtain ⟨_, _, hl7⟩ := asI_inv (show _ from hl6); exact hl7
      | _ + 3, hl => exact hl)
    (fun n p L hm f h hl => by
      simp only [u151, List.mem_cons, Prod.mk.injEq, List.not_mem_nil, or_false] at hm
      rcases hm with ⟨rfl, rfl⟩ | ⟨rfl, rfl⟩ | ⟨rfl, rfl⟩
      · have hl : f151 (r151 c k (n + 1)) 0 f h := hl
        obtain ⟨l_0, c_0, e_0, hl0⟩ := asS_inv hl
        obtain ⟨l_1, c_1, e_1, hl1⟩ := asS_inv hl0
        have hh := e151_0 c k (r151 c k n) f h l_0 c_0 l_1 c_1
        rw [fset_self e_0] at hh
        rw [fset_self e_1] at hh
        exact Eq.mpr hh hl1
      · have hl : f151 (r151 c k (n + 1)) 1 f h := hl
        obtain ⟨l_0, c_0, e_0, hl0⟩ := asS_inv hl
        obtain ⟨l_1, c_1, e_1, hl1⟩ := asS_inv hl0
        obtain ⟨n_5, e_5, hl2⟩ := asI_inv hl1
        obtain ⟨n_6, e_6, hl3⟩ := asI_inv hl2
        obtain ⟨n_7, e_7, hl4⟩ := asI_inv hl3
        obtain ⟨n_8, e_8, hl5⟩ := asI_inv hl4
        obtain ⟨n_9, e_9, hl6⟩ := asI_inv hl5
        obtain ⟨n_10, e_10, hl7⟩ := asI_inv hl6
        have hh := e151_1 c k (r151 c k n) f h l_0 c_0 l_1 c_1 n_5 n_6 n_7 n_8 n_9 n_10
        rw [fset_self e_0] at hh
        rw [fset_self e_1] at hh
        rw [fset_self e_5] at hh
        rw [fset_self e_6] at hh
        rw [fset_self e_7] at hh
        rw [fset_self e_8] at hh
        rw [fset_self e_9] at hh
        rw [fset_self e_10] at hh
        exact Eq.mpr hh hl7
      · have hl : f151 (r151 c k (n + 1)) 2 f h := hl
        obtain ⟨l_0, c_0, e_0, hl0⟩ := asS_inv hl
        obtain ⟨l_1, c_1, e_1, hl1⟩ := asS_inv hl0
        obtain ⟨n_5, e_5, hl2⟩ := asI_inv hl1
        obtain ⟨n_6, e_6, hl3⟩ := asI_inv hl2
        obtain ⟨n_7, e_7, hl4⟩ := asI_inv hl3
        obtain ⟨n_8, e_8, hl5⟩ := asI_inv hl4
        obtain ⟨n_9, e_9, hl6⟩ := asI_inv hl5
        obtain ⟨n_10, e_10, hl7⟩ := asI_inv hl6
        have hh := e151_2 c k (r151 c k n) f h l_0 c_0 l_1 c_1 n_5 n_6 n_7 n_8 n_9 n_10
        rw [fset_self e_0] at hh
        rw [fset_self e_1] at hh
        rw [fset_self e_5] at hh
        rw [fset_self e_6] at hh
        rw [fset_self e_7] at hh
        rw [fset_self e_8] at hh
        rw [fset_self e_9] at hh
        rw [fset_self e_10] at hh
        exact Eq.mpr hh hl7
    ) (by simp [u151]) hg

theorem e152_0 (c : Caller Prop FT) (k : KV) (J : J152) (f : FT) (h : H) (v_0 : AV) (v_1 : AV) : chunkA env c q152 u152 (f152 J) d152 (retA env Go.Proofs.Tryz.f152.results.toList k) .root (fset (fset f 0 v_0) 1 v_1) h = s152_0 c k J v_0 v_1 h := by kernel_rfl
theorem w152 {c : Caller Prop FT} (hc : CallOk Go.Proofs.Tryz.prog (CP env) G (fun p => p) c) {k : KV} {n : Nat} {args : List AV} {h : H} (hg : f152 (r152 c k n) 0 (finit args) h) : SW Go.Proofs.Tryz.prog G (.func 152) args h k :=
  fn_ok mixed envOk hc q152 Go.Proofs.Tryz.func152 rfl (by kernel_rfl) (by kernel_rfl) k u152 (fun n => f152 (r152 c k n))
    (fun L f h hl => by
      match L, hl with
      | 0, hl => exact hl
      | _ + 1, hl => exact hl)
    (fun n p L hm f h hl => by
      simp only [u152, List.mem_cons, Prod.mk.injEq, List.not_mem_nil, or_false] at hm
      rcases hm with ⟨rfl, rfl⟩
      · have hl : f152 (r152 c k (n + 1)) 0 f h := hl
        have hh := e152_0 c k (r152 c k n) f h (f 0) (f 1)
        rw [fset_self (rfl : f 0 = f 0)] at hh
        rw [fset_self (rfl : f 1 = f 1)] at hh
        exact Eq.mpr hh hl
    ) (by simp [u152]) hg

theorem e154_0 (c : Caller Prop FT) (k : KV) (J : J154) (f : FT) (h : H) : chunkA env c q154 u154 (f154 J) d154 (retA env Go.Proofs.Tryz.f154.results.toList k) .root f h = s154_0 c k J  h := by kernel_rfl
theorem w154 {c : Caller Prop FT} (hc : CallOk Go.Proofs.Tryz.prog (CP env) G (fun p => p) c) {k : KV} {n : Nat} {args : List AV} {h : H} (hg : f154 (r154 c k n) 0 (finit args) h) : SW Go.Proofs.Tryz.prog G (.func 154) args h k :=
  fn_ok mixed envOk hc q154 Go.Proofs.Tryz.func154 rfl (by kernel_rfl) (by kernel_rfl) k u154 (fun n => f154 (r154 c k n))
    (fun L f h hl => by
      match L, hl with
      | 0, hl => exact hl
      | _ + 1, hl => exact hl)
    (fun n p L hm f h hl => by
      simp only [u154, List.mem_cons, Prod.mk.injEq, List.not_mem_nil, or_false] at hm
      rcases hm with ⟨rfl, rfl⟩
      · have hl : f154 (r154 c k (n + 1)) 0 f h := hl
        have hh := e154_0 c k (r154 c k n) f h 
        exact Eq.mpr hh hl
    ) (by simp [u154]) hg

theorem w156 {c : Caller Prop FT} (hc : CallOk Go.Proofs.Tryz.prog (CP env) G (fun p => p) c) {k : KV} {m : Nat} {a : List AV} {h : H} (hg : runJ env c q156 u156 d156 (retA env Go.Proofs.Tryz.f156.results.toList k) m 0 (finit a) h) : SW Go.Proofs.Tryz.prog G (.func 156) a h k := fnI_ok mixed envOk hc q156 Go.Proofs.Tryz.func156 rfl (by kernel_rfl) (by kernel_rfl) (by kernel_rfl) (by simp [u156]) hg
theorem w160 {c : Caller Prop FT} (hc : CallOk Go.Proofs.Tryz.prog (CP env) G (fun p => p) c) {k : KV} {m : Nat} {a : List AV} {h : H} (hg : runJ env c q160 u160 d160 (retA env Go.Proofs.Tryz.f160.results.toList k) m 0 (finit a) h) : SW Go.Proofs.Tryz.prog G (.func 160) a h k := fnI_ok mixed envOk hc q160 Go.Proofs.Tryz.func160 rfl (by kernel_rfl) (by kernel_rfl) (by kernel_rfl) (by simp [u160]) hg
theorem e161_0 (c : Caller Prop FT) (k : KV) (J : J161) (f : FT) (h : H) (v_0 : AV) (n_1 : Int) : chunkA env c q161 u161 (f161 J) d161 (retA env Go.Proofs.Tryz.f161.results.toList k) .root (fset (fset f 0 v_0) 1 (.int .i64 n_1)) h = s161_0 c k J v_0 n_1 h := by kernel_rfl
theorem e161_1 (c : Caller Prop FT) (k : KV) (J : J161) (f : FT) (h : H) (v_0 : AV) (n_1 : Int) : chunkA env c q161 u161 (f161 J) d161 (retA env Go.Proofs.Tryz.f161.results.toList k) (.l (.r (.r .root))) (fset (fset f 0 v_0) 1 (.int .i64 n_1)) h = s161_1 c k J v_0 n_1 h := by kernel_rfl
theorem w161 {c : Caller Prop FT} (hc : CallOk Go.Proofs.Tryz.prog (CP env) G (fun p => p) c) {k : KV} {n : Nat} {args : List AV} {h : H} (hg : f161 (r161 c k n) 0 (finit args) h) : SW Go.Proofs.Tryz.prog G (.func 161) args h k :=
  fn_ok mixed envOk hc q161 Go.Proofs.Tryz.func161 rfl (by kernel_rfl) (by kernel_rfl) k u161 (fun n => f161 (r161 c k n))
    (fun L f h hl => by
      match L, hl with
      | 0, hl => obtain ⟨_, _, hl0⟩ := asI_inv (show _ from hl); exact hl0
      | 1, hl => obtain ⟨_, _, hl0⟩ := asI_inv (show _ from hl); exact hl0
      | _ + 2, hl => exact hl)
    (fun n p L hm f h hl => by
      simp only [u161, List.mem_cons, Prod.mk.injEq, List.not_mem_nil, or_false] at hm
      rcases hm with ⟨rfl, rfl⟩ | ⟨rfl, rfl⟩
      · have hl : f161 (r161 c k (n + 1)) 0 f h := hl
        obtain ⟨n_1, e_1, hl1⟩ := asI_inv hl
        have hh := e161_0 c k (r161 c k n) f h (f 0) n_1
        rw [fset_self (rfl : f 0 = f 0)] at hh
        rw [fset_self e_1] at hh
        exact Eq.mpr hh hl1
      · have hl : f161 (r161 c k (n + 1)) 1 f h := hl
        obtain ⟨n_1, e_1, hl1⟩ := asI_inv hl
        have hh := e161_1 c k (r161 c k n) f h (f 0) n_1
        rw [fset_self (rfl : f 0 = f 0)] at hh
        rw [fset_self e_1] at hh
        exact Eq.mpr hh hl1
    ) (by simp [u161]) hg

theorem e171_0 (c : Caller Prop FT) (k : KV) (J : J171) (f : FT) (h : H) (v_0 : AV) : chunkA env c q171 u171 (f171 J) d171 (retA env Go.Proofs.Tryz.f171.results.toList k) .root (fset f 0 v_0) h = s171_0 c k J v_0 h := by kernel_rfl
theorem e171_1 (c : Caller Prop FT) (k : KV) (J : J171) (f : FT) (h : H) (n_2 : Int) (n_3 : Int) : chunkA env c q171 u171 (f171 J) d171 (retA env Go.Proofs.Tryz.f171.results.toList k) (.r (.r (.l (.r (.r (.l (.r (.r (.r .root))))))))) (fset (fset f 2 (.int .i64 n_2)) 3 (.int .i64 n_3)) h = s171_1 c k J n_2 n_3 h := by kernel_rfl
theorem w171 {c : Caller Prop FT} (hc : CallOk Go.Proofs.Tryz.prog (CP env) G (fun p => p) c) {k : KV} {n : Nat} {args : List AV} {h : H} (hg : f171 (r171 c k n) 0 (finit args) h) : SW Go.Proofs.Tryz.prog G (.func 171) args h k :=
  fn_ok mixed envOk hc q171 Go.Proofs.Tryz.func171 rfl (by kernel_rfl) (by kernel_rfl) k u171 (fun n => f171 (r171 c k n))
    (fun L f h hl => by
      match L, hl with
      | 0, hl => exact hl
      | 1, hl => obtain ⟨_, _, hl0⟩ := asI_inv (show _ from hl); obtain ⟨_, _, hl1⟩ := asI_inv (show _ from hl0); exact hl1
      | _ + 2, hl => exact hl)
    (fun n p L hm f h hl => by
      simp only [u171, List.mem_cons, Prod.mk.injEq, List.not_mem_nil, or_false] at hm
      rcases hm with ⟨rfl, rfl⟩ | ⟨rfl, rfl⟩
      · have hl : f171 (r171 c k (n + 1)) 0 f h := hl
        have hh := e171_0 c k (r171 c k n) f h (f 0)
        rw [fset_self (rfl : f 0 = f 0)] at hh
        exact Eq.mpr hh hl
      · have hl : f171 (r171 c k (n + 1)) 1 f h := hl
        obtain ⟨n_2, e_2, hl0⟩ := asI_inv hl
        obtain ⟨n_3, e_3, hl1⟩ := asI_inv hl0
        have hh := e171_1 c k (r171 c k n) f h n_2 n_3
        rw [fset_self e_2] at hh
        rw [fset_self e_3] at hh
        exact Eq.mpr hh hl1
    ) (by simp [u171]) hg

theorem e172_0 (c : Caller Prop FT) (k : KV) (J : J172) (f : FT) (h : H) (n_0 : Int) : chunkA env c q172 u172 (f172 J) d172 (retA env Go.Proofs.Tryz.f172.results.toList k) .root (fset f 0 (.int .u8 n_0)) h = s172_0 c k J n_0 h := by kernel_rfl
theorem w172 {c : Caller Prop FT} (hc : CallOk Go.Proofs.Tryz.prog (CP env) G (fun p => p) c) {k : KV} {n : Nat} {args : List AV} {h : H} (hg : f172 (r172 c k n) 0 (finit args) h) : SW Go.Proofs.Tryz.prog G (.func 172) args h k :=
  fn_ok mixed envOk hc q172 Go.Proofs.Tryz.func172 rfl (by kernel_rfl) (by kernel_rfl) k u172 (fun n => f172 (r172 c k n))
    (fun L f h hl => by
      match L, hl with
      | 0, hl => obtain ⟨_, _, hl0⟩ := asI_inv (show _ from hl); exact hl0
      | _ + 1, hl => exact hl)
    (fun n p L hm f h hl => by
      simp only [u172, List.mem_cons, Prod.mk.injEq, List.not_mem_nil, or_false] at hm
      rcases hm with ⟨rfl, rfl⟩
      · have hl : f172 (r172 c k (n + 1)) 0 f h := hl
        obtain ⟨n_0, e_0, hl0⟩ := asI_inv hl
        have hh := e172_0 c k (r172 c k n) f h n_0
        rw [fset_self e_0] at hh
        exact Eq.mpr hh hl0
    ) (by simp [u172]) hg

theorem w183 {c : Caller Prop FT} (hc : CallOk Go.Proofs.Tryz.prog (CP env) G (fun p => p) c) {k : KV} {m : Nat} {a : List AV} {h : H} (hg : runJ env c q183 u183 d183 (retA env Go.Proofs.Tryz.f183.results.toList k) m 0 (finit a) h) : SW Go.Proofs.Tryz.prog G (.func 183) a h k := fnI_ok mixed envOk hc q183 Go.Proofs.Tryz.func183 rfl (by kernel_rfl) (by kernel_rfl) (by kernel_rfl) (by simp [u183]) hg
theorem w186 {c : Caller Prop FT} (hc : CallOk Go.Proofs.Tryz.prog (CP env) G (fun p => p) c) {k : KV} {m : Nat} {a : List AV} {h : H} (hg : runJ env c q186 u186 d186 (retA env Go.Proofs.Tryz.f186.results.toList k) m 0 (finit a) h) : SW Go.Proofs.Tryz.prog G (.func 186) a h k := fnI_ok mixed envOk hc q186 Go.Proofs.Tryz.func186 rfl (by kernel_rfl) (by kernel_rfl) (by kernel_rfl) (by simp [u186]) hg
theorem w190 {c : Caller Prop FT} (hc : CallOk Go.Proofs.Tryz.prog (CP env) G (fun p => p) c) {k : KV} {m : Nat} {a : List AV} {h : H} (hg : runJ env c q190 u190 d190 (retA env Go.Proofs.Tryz.f190.results.toList k) m 0 (finit a) h) : SW Go.Proofs.Tryz.prog G (.func 190) a h k := fnI_ok mixed envOk hc q190 Go.Proofs.Tryz.func190 rfl (by kernel_rfl) (by kernel_rfl) (by kernel_rfl) (by simp [u190]) hg
theorem w201 {c : Caller Prop FT} (hc : CallOk Go.Proofs.Tryz.prog (CP env) G (fun p => p) c) {k : KV} {m : Nat} {a : List AV} {h : H} (hg : runJ env c q201 u201 d201 (retA env Go.Proofs.Tryz.f201.results.toList k) m 0 (finit a) h) : SW Go.Proofs.Tryz.prog G (.func 201) a h k := fnI_ok mixed envOk hc q201 Go.Proofs.Tryz.func201 rfl (by kernel_rfl) (by kernel_rfl) (by kernel_rfl) (by simp [u201]) hg
theorem w204 {c : Caller Prop FT} (hc : CallOk Go.Proofs.Tryz.prog (CP env) G (fun p => p) c) {k : KV} {m : Nat} {a : List AV} {h : H} (hg : runJ env c q204 u204 d204 (retA env Go.Proofs.Tryz.f204.results.toList k) m 0 (finit a) h) : SW Go.Proofs.Tryz.prog G (.func 204) a h k := fnI_ok mixed envOk hc q204 Go.Proofs.Tryz.func204 rfl (by kernel_rfl) (by kernel_rfl) (by kernel_rfl) (by simp [u204]) hg
theorem w210 {c : Caller Prop FT} (hc : CallOk Go.Proofs.Tryz.prog (CP env) G (fun p => p) c) {k : KV} {m : Nat} {a : List AV} {h : H} (hg : runJ env c q210 u210 d210 (retA env Go.Proofs.Tryz.f210.results.toList k) m 0 (finit a) h) : SW Go.Proofs.Tryz.prog G (.func 210) a h k := fnI_ok mixed envOk hc q210 Go.Proofs.Tryz.func210 rfl (by kernel_rfl) (by kernel_rfl) (by kernel_rfl) (by simp [u210]) hg
theorem e212_0 (c : Caller Prop FT) (k : KV) (J : J212) (f : FT) (h : H) (v_0 : AV) (n_1 : Int) (n_2 : Int) : chunkA env c q212 u212 (f212 J) d212 (retA env Go.Proofs.Tryz.f212.results.toList k) .root (fset (fset (fset f 0 v_0) 1 (.int .i64 n_1)) 2 (.int .i64 n_2)) h = s212_0 c k J v_0 n_1 n_2 h := by kernel_rfl
theorem w212 {c : Caller Prop FT} (hc : CallOk Go.Proofs.Tryz.prog (CP env) G (fun p => p) c) {k : KV} {n : Nat} {args : List AV} {h : H} (hg : f212 (r212 c k n) 0 (finit args) h) : SW Go.Proofs.Tryz.prog G (.func 212) args h k :=
  fn_ok mixed envOk hc q212 Go.Proofs.Tryz.func212 rfl (by kernel_rfl) (by kernel_rfl) k u212 (fun n => f212 (r212 c k n))
    (fun L f h hl => by
      match L, hl with
      | 0, hl => obtain ⟨_, _, hl0⟩ := asI_inv (show _ from hl); obtain ⟨_, _, hl1⟩ := asI_inv (show _ from hl0); exact hl1
      | _ + 1, hl => exact hl)
    (fun n p L hm f h hl => by
      simp only [u212, List.mem_cons, Prod.mk.injEq, List.not_mem_nil, or_false] at hm
      rcases hm with ⟨rfl, rfl⟩
      · have hl : f212 (r212 c k (n + 1)) 0 f h := hl
        obtain ⟨n_1, e_1, hl1⟩ := asI_inv hl
        obtain ⟨n_2, e_2, hl2⟩ := asI_inv hl1
        have hh := e212_0 c k (r212 c k n) f h (f 0) n_1 n_2
        rw [fset_self (rfl : f 0 = f 0)] at hh
        rw [fset_self e_1] at hh
        rw [fset_self e_2] at hh
        exact Eq.mpr hh hl2
    ) (by simp [u212]) hg

theorem e214_0 (c : Caller Prop FT) (k : KV) (J : J214) (f : FT) (h : H) (v_0 : AV) : chunkA env c q214 u214 (f214 J) d214 (retA env Go.Proofs.Tryz.f214.results.toList k) .root (fset f 0 v_0) h = s214_0 c k J v_0 h := by kernel_rfl
theorem e214_1 (c : Caller Prop FT) (k : KV) (J : J214) (f : FT) (h : H) (v_0 : AV) (v_6 : AV) (n_7 : Int) (n_8 : Int) : chunkA env c q214 u214 (f214 J) d214 (retA env Go.Proofs.Tryz.f214.results.toList k) (.l (.r (.l (.r .root)))) (fset (fset (fset (fset f 0 v_0) 6 v_6) 7 (.int .i64 n_7)) 8 (.int .i64 n_8)) h = s214_1 c k J v_0 v_6 n_7 n_8 h := by kernel_rfl
theorem w214 {c : Caller Prop FT} (hc : CallOk Go.Proofs.Tryz.prog (CP env) G (fun p => p) c) {k : KV} {n : Nat} {args : List AV} {h : H} (hg : f214 (r214 c k n) 0 (finit args) h) : SW Go.Proofs.Tryz.prog G (.func 214) args h k :=
  fn_ok mixed envOk hc q214 Go.Proofs.Tryz.func214 rfl (by kernel_rfl) (by kernel_rfl) k u214 (fun n => f214 (r214 c k n))
    (fun L f h hl => by
      match L, hl with
      | 0, hl => exact hl
      | 1, hl => obtain ⟨_, _, hl0⟩ := asI_inv (show _ from hl); obtain ⟨_, _, hl1⟩ := asI_inv (show _ from hl0); exact hl1
      | _ + 2, hl => exact hl)
    (fun n p L hm f h hl => by
      simp only [u214, List.mem_cons, Prod.mk.injEq, List.not_mem_nil, or_false] at hm
      rcases hm with ⟨rfl, rfl⟩ | ⟨rfl, rfl⟩
      · have hl : f214 (r214 c k (n + 1)) 0 f h := hl
        have hh := e214_0 c k (r214 c k n) f h (f 0)
        rw [fset_self (rfl : f 0 = f 0)] at hh
        exact Eq.mpr hh hl
      · have hl : f214 (r214 c k (n + 1)) 1 f h := hl
        obtain ⟨n_7, e_7, hl2⟩ := asI_inv hl
        obtain ⟨n_8, e_8, hl3⟩ := asI_inv hl2
        have hh := e214_1 c k (r214 c k n) f h (f 0) (f 6) n_7 n_8
        rw [fset_self (rfl : f 0 = f 0)] at hh
        rw [fset_self (rfl : f 6 = f 6)] at hh
        rw [fset_self e_7] at hh
        rw [fset_self e_8] at hh
        exact Eq.mpr hh hl3
    ) (by simp [u214]) hg

theorem e221_0 (c : Caller Prop FT) (k : KV) (J : J221) (f : FT) (h : H) (v_0 : AV) : chunkA env c q221 u221 (f221 J) d221 (retA env Go.Proofs.Tryz.f221.results.toList k) .root (fset f 0 v_0) h = s221_0 c k J v_0 h := by kernel_rfl
theorem w221 {c : Caller Prop FT} (hc : CallOk Go.Proofs.Tryz.prog (CP env) G (fun p => p) c) {k : KV} {n : Nat} {args : List AV} {h : H} (hg : f221 (r221 c k n) 0 (finit args) h) : SW Go.Proofs.Tryz.prog G (.func 221) args h k :=
  fn_ok mixed envOk hc q221 Go.Proofs.Tryz.func221 rfl (by kernel_rfl) (by kernel_rfl) k u221 (fun n => f221 (r221 c k n))
    (fun L f h hl => by
      match L, hl with
      | 0, hl => exact hl
      | _ + 1, hl => exact hl)
    (fun n p L hm f h hl => by
      simp only [u221, List.mem_cons, Prod.mk.injEq, List.not_mem_nil, or_false] at hm
      rcases hm with ⟨rfl, rfl⟩
      · have hl : f221 (r221 c k (n + 1)) 0 f h := hl
        have hh := e221_0 c k (r221 c k n) f h (f 0)
        rw [fset_self (rfl : f 0 = f 0)] at hh
        exact Eq.mpr hh hl
    ) (by simp [u221]) hg

theorem w233 {c : Caller Prop FT} (hc : CallOk Go.Proofs.Tryz.prog (CP env) G (fun p => p) c) {k : KV} {m : Nat} {a : List AV} {h : H} (hg : runJ env c q233 u233 d233 (retA env Go.Proofs.Tryz.f233.results.toList k) m 0 (finit a) h) : SW Go.Proofs.Tryz.prog G (.func 233) a h k := fnI_ok mixed envOk hc q233 Go.Proofs.Tryz.func233 rfl (by kernel_rfl) (by kernel_rfl) (by kernel_rfl) (by simp [u233]) hg
theorem w237 {c : Caller Prop FT} (hc : CallOk Go.Proofs.Tryz.prog (CP env) G (fun p => p) c) {k : KV} {m : Nat} {a : List AV} {h : H} (hg : runJ env c q237 u237 d237 (retA env Go.Proofs.Tryz.f237.results.toList k) m 0 (finit a) h) : SW Go.Proofs.Tryz.prog G (.func 237) a h k := fnI_ok mixed envOk hc q237 Go.Proofs.Tryz.func237 rfl (by kernel_rfl) (by kernel_rfl) (by kernel_rfl) (by simp [u237]) hg
theorem e240_0 (c : Caller Prop FT) (k : KV) (J : J240) (f : FT) (h : H) (v_0 : AV) (v_1 : AV) : chunkA env c q240 u240 (f240 J) d240 (retA env Go.Proofs.Tryz.f240.results.toList k) .root (fset (fset f 0 v_0) 1 v_1) h = s240_0 c k J v_0 v_1 h := by kernel_rfl
theorem e240_1 (c : Caller Prop FT) (k : KV) (J : J240) (f : FT) (h : H) (v_0 : AV) (v_1 : AV) (l_6 : Nat) (c_6 : Nat) : chunkA env c q240 u240 (f240 J) d240 (retA env Go.Proofs.Tryz.f240.results.toList k) (.r (.r (.r (.r (.r (.r (.l (.r .root)))))))) (fset (fset (fset f 0 v_0) 1 v_1) 6 (.str l_6 c_6)) h = s240_1 c k J v_0 v_1 l_6 c_6 h := by kernel_rfl
theorem e240_2 (c : Caller Prop FT) (k : KV) (J : J240) (f : FT) (h : H) (v_0 : AV) (v_1 : AV) : chunkA env c q240 u240 (f240 J) d240 (retA env Go.Proofs.Tryz.f240.results.toList k) (.lab (.r .root) 0) (fset (fset f 0 v_0) 1 v_1) h = s240_2 c k J v_0 v_1 h := by kernel_rfl
theorem e240_3 (c : Caller Prop FT) (k : KV) (J : J240) (f : FT) (h : H) (v_0 : AV) (v_1 : AV) (l_6 : Nat) (c_6 : Nat) : chunkA env c q240 u240 (f240 J) d240 (retA env Go.Proofs.Tryz.f240.results.toList k) (.r (.r (.r (.r (.lab (.r .root) 0))))) (fset (fset (fset f 0 v_0) 1 v_1) 6 (.str l_6 c_6)) h = s240_3 c k J v_0 v_1 l_6 c_6 h := by kernel_rfl
theorem w240 {c : Caller Prop FT} (hc : CallOk Go.Proofs.Tryz.prog (CP env) G (fun p => p) c) {k : KV} {n : Nat} {args : List AV} {h : H} (hg : f240 (r240 c k n) 0 (finit args) h) : SW Go.Proofs.Tryz.prog G (.func 240) args h k :=
  fn_ok mixed envOk hc q240 Go.Proofs.Tryz.func240 rfl (by kernel_rfl) (by kernel_rfl) k u240 (fun n => f240 (r240 c k n))
    (fun L f h hl => by
      match L, hl with
      | 0, hl => exact hl
      | 1, hl => obtain ⟨_, _, _, hl0⟩ := asS_inv (show _ from hl); exact hl0
      | 2, hl => exact hl
      | 3, hl => obtain ⟨_, _, _, hl0⟩ := asS_inv (show _ from hl); exact hl0
      | _ + 4, hl => exact hl)
    (fun n p L hm f h hl => by
      simp only [u240, List.mem_cons, Prod.mk.injEq, List.not_mem_nil, or_false] at hm
      rcases hm with ⟨rfl, rfl⟩ | ⟨rfl, rfl⟩ | ⟨rfl, rfl⟩ | ⟨rfl, rfl⟩
      · have hl : f240 (r240 c k (n + 1)) 0 f h := hl
        have hh := e240_0 c k (r240 c k n) f h (f 0) (f 1)
        rw [fset_self (rfl : f 0 = f 0)] at hh
        rw [fset_self (rfl : f 1 = f 1)] at hh
        exact Eq.mpr hh hl
      · have hl : f240 (r240 c k (n + 1)) 1 f h := hl
        obtain ⟨l_6, c_6, e_6, hl2⟩ := asS_inv hl
        have hh := e240_1 c k (r240 c k n) f h (f 0) (f 1) l_6 c_6
        rw [fset_self (rfl : f 0 = f 0)] at hh
        rw [fset_self (rfl : f 1 = f 1)] at hh
        rw [fset_self e_6] at hh
        exact Eq.mpr hh hl2
      · have hl : f240 (r240 c k (n + 1)) 2 f h := hl
        have hh := e240_2 c k (r240 c k n) f h (f 0) (f 1)
        rw [fset_self (rfl : f 0 = f 0)] at hh
        rw [fset_self (rfl : f 1 = f 1)] at hh
        exact Eq.mpr hh hl
      · have hl : f240 (r240 c k (n + 1)) 3 f h := hl
        obtain ⟨l_6, c_6, e_6, hl2⟩ := asS_inv hl
        have hh := e240_3 c k (r240 c k n) f h (f 0) (f 1) l_6 c_6
        rw [fset_self (rfl : f 0 = f 0)] at hh
        rw [fset_self (rfl : f 1 = f 1)] at hh
        rw [fset_self e_6] at hh
        exact Eq.mpr hh hl2
    ) (by simp [u240]) hg

theorem w244 {c : Caller Prop FT} (hc : CallOk Go.Proofs.Tryz.prog (CP env) G (fun p => p) c) {k : KV} {m : Nat} {a : List AV} {h : H} (hg : runJ env c q244 u244 d244 (retA env Go.Proofs.Tryz.f244.results.toList k) m 0 (finit a) h) : SW Go.Proofs.Tryz.prog G (.func 244) a h k := fnI_ok mixed envOk hc q244 Go.Proofs.Tryz.func244 rfl (by kernel_rfl) (by kernel_rfl) (by kernel_rfl) (by simp [u244]) hg
theorem e255_0 (c : Caller Prop FT) (k : KV) (J : J255) (f : FT) (h : H) (v_0 : AV) : chunkA env c q255 u255 (f255 J) d255 (retA env Go.Proofs.Tryz.f255.results.toList k) .root (fset f 0 v_0) h = s255_0 c k J v_0 h := by kernel_rfl
theorem w255 {c : Caller Prop FT} (hc : CallOk Go.Proofs.Tryz.prog (CP env) G (fun p => p) c) {k : KV} {n : Nat} {args : List AV} {h : H} (hg : f255 (r255 c k n) 0 (finit args) h) : SW Go.Proofs.Tryz.prog G (.func 255) args h k :=
  fn_ok mixed envOk hc q255 Go.Proofs.Tryz.func255 rfl (by kernel_rfl) (by kernel_rfl) k u255 (fun n => f255 (r255 c k n))
    (fun L f h hl => by
      match L, hl with
      | 0, hl => exact hl
      | _ + 1, hl => exact hl)
    (fun n p L hm f h hl => by
      simp only [u255, List.mem_cons, Prod.mk.injEq, List.not_mem_nil, or_false] at hm
      rcases hm with ⟨rfl, rfl⟩
      · have hl : f255 (r255 c k (n + 1)) 0 f h := hl
        have hh := e255_0 c k (r255 c k n) f h (f 0)
        rw [fset_self (rfl : f 0 = f 0)] at hh
        exact Eq.mpr hh hl
    ) (by simp [u255]) hg

theorem e256_0 (c : Caller Prop FT) (k : KV) (J : J256) (f : FT) (h : H) (v_0 : AV) : chunkA env c q256 u256 (f256 J) d256 (retA env Go.Proofs.Tryz.f256.results.toList k) .root (fset f 0 v_0) h = s256_0 c k J v_0 h := by kernel_rfl
theorem e256_1 (c : Caller Prop FT) (k : KV) (J : J256) (f : FT) (h : H) (v_0 : AV) : chunkA env c q256 u256 (f256 J) d256 (retA env Go.Proofs.Tryz.f256.results.toList k) (.r .root) (fset f 0 v_0) h = s256_1 c k J v_0 h := by kernel_rfl
theorem w256 {c : Caller Prop FT} (hc : CallOk Go.Proofs.Tryz.prog (CP env) G (fun p => p) c) {k : KV} {n : Nat} {args : List AV} {h : H} (hg : f256 (r256 c k n) 0 (finit args) h) : SW Go.Proofs.Tryz.prog G (.func 256) args h k :=
  fn_ok mixed envOk hc q256 Go.Proofs.Tryz.func256 rfl (by kernel_rfl) (by kernel_rfl) k u256 (fun n => f256 (r256 c k n))
    (fun L f h hl => by
      match L, hl with
      | 0, hl => exact hl
      | 1, hl => exact hl
      | _ + 2, hl => exact hl)
    (fun n p L hm f h hl => by
      simp only [u256, List.mem_cons, Prod.mk.injEq, List.not_mem_nil, or_false] at hm
      rcases hm with ⟨rfl, rfl⟩ | ⟨rfl, rfl⟩
      · have hl : f256 (r256 c k (n + 1)) 0 f h := hl
        have hh := e256_0 c k (r256 c k n) f h (f 0)
        rw [fset_self (rfl : f 0 = f 0)] at hh
        exact Eq.mpr hh hl
      · have hl : f256 (r256 c k (n + 1)) 1 f h := hl
        have hh := e256_1 c k (r256 c k n) f h (f 0)
        rw [fset_self (rfl : f 0 = f 0)] at hh
        exact Eq.mpr hh hl
    ) (by simp [u256]) hg

theorem w261 {c : Caller Prop FT} (hc : CallOk Go.Proofs.Tryz.prog (CP env) G (fun p => p) c) {k : KV} {m : Nat} {a : List AV} {h : H} (hg : runJ env c q261 u261 d261 (retA env Go.Proofs.Tryz.f261.results.toList k) m 0 (finit a) h) : SW Go.Proofs.Tryz.prog G (.func 261) a h k := fnI_ok mixed envOk hc q261 Go.Proofs.Tryz.func261 rfl (by kernel_rfl) (by kernel_rfl) (by kernel_rfl) (by simp [u261]) hg
theorem w266 {c : Caller Prop FT} (hc : CallOk Go.Proofs.Tryz.prog (CP env) G (fun p => p) c) {k : KV} {m : Nat} {a : List AV} {h : H} (hg : runJ env c q266 u266 d266 (retA env Go.Proofs.Tryz.f266.results.toList k) m 0 (finit a) h) : SW Go.Proofs.Tryz.prog G (.func 266) a h k := fnI_ok mixed envOk hc q266 Go.Proofs.Tryz.func266 rfl (by kernel_rfl) (by kernel_rfl) (by kernel_rfl) (by simp [u266]) hg
theorem w287 {c : Caller Prop FT} (hc : CallOk Go.Proofs.Tryz.prog (CP env) G (fun p => p) c) {k : KV} {m : Nat} {a : List AV} {h : H} (hg : runJ env c q287 u287 d287 (retA env Go.Proofs.Tryz.f287.results.toList k) m 0 (finit a) h) : SW Go.Proofs.Tryz.prog G (.func 287) a h k := fnI_ok mixed envOk hc q287 Go.Proofs.Tryz.func287 rfl (by kernel_rfl) (by kernel_rfl) (by kernel_rfl) (by simp [u287]) hg
theorem w290 {c : Caller Prop FT} (hc : CallOk Go.Proofs.Tryz.prog (CP env) G (fun p => p) c) {k : KV} {m : Nat} {a : List AV} {h : H} (hg : runJ env c q290 u290 d290 (retA env Go.Proofs.Tryz.f290.results.toList k) m 0 (finit a) h) : SW Go.Proofs.Tryz.prog G (.func 290) a h k := fnI_ok mixed envOk hc q290 Go.Proofs.Tryz.func290 rfl (by kernel_rfl) (by kernel_rfl) (by kernel_rfl) (by simp [u290]) hg
theorem w294 {c : Caller Prop FT} (hc : CallOk Go.Proofs.Tryz.prog (CP env) G (fun p => p) c) {k : KV} {m : Nat} {a : List AV} {h : H} (hg : runJ env c q294 u294 d294 (retA env Go.Proofs.Tryz.f294.results.toList k) m 0 (finit a) h) : SW Go.Proofs.Tryz.prog G (.func 294) a h k := fnI_ok mixed envOk hc q294 Go.Proofs.Tryz.func294 rfl (by kernel_rfl) (by kernel_rfl) (by kernel_rfl) (by simp [u294]) hg
theorem w299 {c : Caller Prop FT} (hc : CallOk Go.Proofs.Tryz.prog (CP env) G (fun p => p) c) {k : KV} {m : Nat} {a : List AV} {h : H} (hg : runJ env c q299 u299 d299 (retA env Go.Proofs.Tryz.f299.results.toList k) m 0 (finit a) h) : SW Go.Proofs.Tryz.prog G (.func 299) a h k := fnI_ok mixed envOk hc q299 Go.Proofs.Tryz.func299 rfl (by kernel_rfl) (by kernel_rfl) (by kernel_rfl) (by simp [u299]) hg
theorem w305 {c : Caller Prop FT} (hc : CallOk Go.Proofs.Tryz.prog (CP env) G (fun p => p) c) {k : KV} {m : Nat} {a : List AV} {h : H} (hg : runJ env c q305 u305 d305 (retA env Go.Proofs.Tryz.f305.results.toList k) m 0 (finit a) h) : SW Go.Proofs.Tryz.prog G (.func 305) a h k := fnI_ok mixed envOk hc q305 Go.Proofs.Tryz.func305 rfl (by kernel_rfl) (by kernel_rfl) (by kernel_rfl) (by simp [u305]) hg
theorem w323 {c : Caller Prop FT} (hc : CallOk Go.Proofs.Tryz.prog (CP env) G (fun p => p) c) {k : KV} {m : Nat} {a : List AV} {h : H} (hg : runJ env c q323 u323 d323 (retA env Go.Proofs.Tryz.f323.results.toList k) m 0 (finit a) h) : SW Go.Proofs.Tryz.prog G (.func 323) a h k := fnI_ok mixed envOk hc q323 Go.Proofs.Tryz.func323 rfl (by kernel_rfl) (by kernel_rfl) (by kernel_rfl) (by simp [u323]) hg
theorem w335 {c : Caller Prop FT} (hc : CallOk Go.Proofs.Tryz.prog (CP env) G (fun p => p) c) {k : KV} {m : Nat} {a : List AV} {h : H} (hg : runJ env c q335 u335 d335 (retA env Go.Proofs.Tryz.f335.results.toList k) m 0 (finit a) h) : SW Go.Proofs.Tryz.prog G (.func 335) a h k := fnI_ok mixed envOk hc q335 Go.Proofs.Tryz.func335 rfl (by kernel_rfl) (by kernel_rfl) (by kernel_rfl) (by simp [u335]) hg
theorem w353 {c : Caller Prop FT} (hc : CallOk Go.Proofs.Tryz.prog (CP env) G (fun p => p) c) {k : KV} {m : Nat} {a : List AV} {h : H} (hg : runJ env c q353 u353 d353 (retA env Go.Proofs.Tryz.f353.results.toList k) m 0 (finit a) h) : SW Go.Proofs.Tryz.prog G (.func 353) a h k := fnI_ok mixed envOk hc q353 Go.Proofs.Tryz.func353 rfl (by kernel_rfl) (by kernel_rfl) (by kernel_rfl) (by simp [u353]) hg
theorem w356 {c : Caller Prop FT} (hc : CallOk Go.Proofs.Tryz.prog (CP env) G (fun p => p) c) {k : KV} {m : Nat} {a : List AV} {h : H} (hg : runJ env c q356 u356 d356 (retA env Go.Proofs.Tryz.f356.results.toList k) m 0 (finit a) h) : SW Go.Proofs.Tryz.prog G (.func 356) a h k := fnI_ok mixed envOk hc q356 Go.Proofs.Tryz.func356 rfl (by kernel_rfl) (by kernel_rfl) (by kernel_rfl) (by simp [u356]) hg
end Go.Den
