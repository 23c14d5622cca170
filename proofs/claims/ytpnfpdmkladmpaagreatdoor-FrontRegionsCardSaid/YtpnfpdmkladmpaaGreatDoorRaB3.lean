/-
  A part of the proof: the pieces are what the program does.
-/
import Derived.Test.YtpnfpdmkladmpaaGreatDoorRaA1
import Derived.Test.YtpnfpdmkladmpaaGreatDoorRaA2
import Derived.KernelRfl
namespace Go.Den
set_option maxRecDepth 100000
theorem e4_0 (c : Caller Prop FT) (k : KV) (J : J4) (f : FT) (h : H) (n_0 : Int) (n_1 : Int) : chunkA env c q4 u4 (f4 J) d4 (retA env Go.Proofs.Tryz.f4.results.toList k) .root (fset (fset f 0 (.int .i64 n_0)) 1 (.int .i64 n_1)) h = s4_0 c k J n_0 n_1 h := by kernel_rfl
theorem e4_1 (c : Caller Prop FT) (k : KV) (J : J4) (f : FT) (h : H) (n_0 : Int) (l_5 : Nat) (c_5 : Nat) (n_6 : Int) (l_7 : Nat) (c_7 : Nat) (n_8 : Int) : chunkA env c q4 u4 (f4 J) d4 (retA env Go.Proofs.Tryz.f4.results.toList k) (.l (.r (.l (.r (.r (.r (.r (.r .root)))))))) (fset (fset (fset (fset (fset f 0 (.int .i64 n_0)) 5 (.str l_5 c_5)) 6 (.int .i64 n_6)) 7 (.str l_7 c_7)) 8 (.int .i64 n_8)) h = s4_1 c k J n_0 l_5 c_5 n_6 l_7 c_7 n_8 h := by kernel_rfl
theorem e4_2 (c : Caller Prop FT) (k : KV) (J : J4) (f : FT) (h : H) (n_0 : Int) (l_5 : Nat) (c_5 : Nat) (n_6 : Int) (l_7 : Nat) (c_7 : Nat) (n_8 : Int) : chunkA env c q4 u4 (f4 J) d4 (retA env Go.Proofs.Tryz.f4.results.toList k) (.r (.l (.l (.r (.l (.l (.r (.l (.r (.r (.r (.r (.r .root))))))))))))) (fset (fset (fset (fset (fset f 0 (.int .i64 n_0)) 5 (.str l_5 c_5)) 6 (.int .i64 n_6)) 7 (.str l_7 c_7)) 8 (.int .i64 n_8)) h = s4_2 c k J n_0 l_5 c_5 n_6 l_7 c_7 n_8 h := by kernel_rfl
theorem e4_3 (c : Caller Prop FT) (k : KV) (J : J4) (f : FT) (h : H) (n_0 : Int) (l_5 : Nat) (c_5 : Nat) (n_6 : Int) (l_7 : Nat) (c_7 : Nat) (n_8 : Int) : chunkA env c q4 u4 (f4 J) d4 (retA env Go.Proofs.Tryz.f4.results.toList k) (.r (.r (.l (.l (.r (.l (.r (.r (.r (.r (.r .root))))))))))) (fset (fset (fset (fset (fset f 0 (.int .i64 n_0)) 5 (.str l_5 c_5)) 6 (.int .i64 n_6)) 7 (.str l_7 c_7)) 8 (.int .i64 n_8)) h = s4_3 c k J n_0 l_5 c_5 n_6 l_7 c_7 n_8 h := by kernel_rfl
theorem w4 {c : Caller Prop FT} (hc : CallOk Go.Proofs.Tryz.prog (CP env) G (fun p => p) c) {k : KV} {n : Nat} {args : List AV} {h : H} (hg : f4 (r4 c k n) 0 (finit args) h) : SW Go.Proofs.Tryz.prog G (.func 4) args h k :=
  fn_ok mixed envOk hc q4 Go.Proofs.Tryz.func4 rfl (by kernel_rfl) (by kernel_rfl) k u4 (fun n => f4 (r4 c k n))
    (fun L f h hl => by
      match L, hl with
      | 0, hl => obtain ⟨_, _, hl0⟩ := asI_inv (show _ from hl); obtain ⟨_, _, hl1⟩ := asI_inv (show _ from hl0); exact hl1
      | 1, hl => obtain ⟨_, _, hl0⟩ := asI_inv (show _ from hl); obtain ⟨_, _, _, hl1⟩ := asS_inv (show _ from hl0); obtain ⟨_, _, hl2⟩ := asI_inv (show _ from hl1); obtain ⟨_, _, _, hl3⟩ := asS_inv (show _ from hl2); obtain ⟨_, _, hl4⟩ := asI_inv (show _ from hl3); exact hl4
      | 2, hl => obtain ⟨_, _, hl0⟩ := asI_inv (show _ from hl); obtain ⟨_, _, _, hl1⟩ := asS_inv (show _ from hl0); obtain ⟨_, _, hl2⟩ := asI_inv (show _ from hl1); obtain ⟨_, _, _, hl3⟩ := asS_inv (show _ from hl2); obtain ⟨_, _, hl4⟩ := asI_inv (show _ from hl3); exact hl4
      | 3, hl => obtain ⟨_, _, hl0⟩ := asI_inv (show _ from hl); obtain ⟨_, _, _, hl1⟩ := asS_inv (show _ from hl0); obtain ⟨_, _, hl2⟩ := asI_inv (show _ from hl1); obtain ⟨_, _, _, hl3⟩ := asS_inv (show _ from hl2); obtain ⟨_, _, hl4⟩ := asI_inv (show _ from hl3); exact hl4
      | _ + 4, hl => exact hl)
    (fun n p L hm f h hl => by
      simp only [u4, List.mem_cons, Prod.mk.injEq, List.not_mem_nil, or_false] at hm
      rcases hm with ⟨rfl, rfl⟩ | ⟨rfl, rfl⟩ | ⟨rfl, rfl⟩ | ⟨rfl, rfl⟩
      · have hl : f4 (r4 c k (n + 1)) 0 f h := hl
        obtain ⟨n_0, e_0, hl0⟩ := asI_inv hl
        obtain ⟨n_1, e_1, hl1⟩ := asI_inv hl0
        have hh := e4_0 c k (r4 c k n) f h n_0 n_1
        rw [fset_self e_0] at hh
        rw [fset_self e_1] at hh
        exact Eq.mpr hh hl1
      · have hl : f4 (r4 c k (n + 1)) 1 f h := hl
        obtain ⟨n_0, e_0, hl0⟩ := asI_inv hl
        obtain ⟨l_5, c_5, e_5, hl1⟩ := asS_inv hl0
        obtain ⟨n_6, e_6, hl2⟩ := asI_inv hl1
        obtain ⟨l_7, c_7, e_7, hl3⟩ := asS_inv hl2
        obtain ⟨n_8, e_8, hl4⟩ := asI_inv hl3
        have hh := e4_1 c k (r4 c k n) f h n_0 l_5 c_5 n_6 l_7 c_7 n_8
        rw [fset_self e_0] at hh
        rw [fset_self e_5] at hh
        rw [fset_self e_6] at hh
        rw [fset_self e_7] at hh
        rw [fset_self e_8] at hh
        exact Eq.mpr hh hl4
      · have hl : f4 (r4 c k (n + 1)) 2 f h := hl
        obtain ⟨n_0, e_0, hl0⟩ := asI_inv hl
        obtain ⟨l_5, c_5, e_5, hl1⟩ := asS_inv hl0
        obtain ⟨n_6, e_6, hl2⟩ := asI_inv hl1
        obtain ⟨l_7, c_7, e_7, hl3⟩ := asS_inv hl2
        obtain ⟨n_8, e_8, hl4⟩ := asI_inv hl3
        have hh := e4_2 c k (r4 c k n) f h n_0 l_5 c_5 n_6 l_7 c_7 n_8
        rw [fset_self e_0] at hh
        rw [fset_self e_5] at hh
        rw [fset_self e_6] at hh
        rw [fset_self e_7] at hh
        rw [fset_self e_8] at hh
        exact Eq.mpr hh hl4
      · have hl : f4 (r4 c k (n + 1)) 3 f h := hl
        obtain ⟨n_0, e_0, hl0⟩ := asI_inv hl
        obtain ⟨l_5, c_5, e_5, hl1⟩ := asS_inv hl0
        obtain ⟨n_6, e_6, hl2⟩ := asI_inv hl1
        obtain ⟨l_7, c_7, e_7, hl3⟩ := asS_inv hl2
        obtain ⟨n_8, e_8, hl4⟩ := asI_inv hl3
        have hh := e4_3 c k (r4 c k n) f h n_0 l_5 c_5 n_6 l_7 c_7 n_8
        rw [fset_self e_0] at hh
        rw [fset_self e_5] at hh
        rw [fset_self e_6] at hh
        rw [fset_self e_7] at hh
        rw [fset_self e_8] at hh
        exact Eq.mpr hh hl4
    ) (by simp [u4]) hg

theorem e7_0 (c : Caller Prop FT) (k : KV) (J : J7) (f : FT) (h : H) : chunkA env c q7 u7 (f7 J) d7 (retA env Go.Proofs.Tryz.f7.results.toList k) .root f h = s7_0 c k J  h := by kernel_rfl
theorem w7 {c : Caller Prop FT} (hc : CallOk Go.Proofs.Tryz.prog (CP env) G (fun p => p) c) {k : KV} {n : Nat} {args : List AV} {h : H} (hg : f7 (r7 c k n) 0 (finit args) h) : SW Go.Proofs.Tryz.prog G (.func 7) args h k :=
  fn_ok mixed envOk hc q7 Go.Proofs.Tryz.func7 rfl (by kernel_rfl) (by kernel_rfl) k u7 (fun n => f7 (r7 c k n))
    (fun L f h hl => by
      match L, hl with
      | 0, hl => exact hl
      | _ + 1, hl => exact hl)
    (fun n p L hm f h hl => by
      simp only [u7, List.mem_cons, Prod.mk.injEq, List.not_mem_nil, or_false] at hm
      rcases hm with ⟨rfl, rfl⟩
      · have hl : f7 (r7 c k (n + 1)) 0 f h := hl
        have hh := e7_0 c k (r7 c k n) f h 
        exact Eq.mpr hh hl
    ) (by simp [u7]) hg

theorem e9_0 (c : Caller Prop FT) (k : KV) (J : J9) (f : FT) (h : H) (l_0 : Nat) (c_0 : Nat) : chunkA env c q9 u9 (f9 J) d9 (retA env Go.Proofs.Tryz.f9.results.toList k) .root (fset f 0 (.str l_0 c_0)) h = s9_0 c k J l_0 c_0 h := by kernel_rfl
theorem w9 {c : Caller Prop FT} (hc : CallOk Go.Proofs.Tryz.prog (CP env) G (fun p => p) c) {k : KV} {n : Nat} {args : List AV} {h : H} (hg : f9 (r9 c k n) 0 (finit args) h) : SW Go.Proofs.Tryz.prog G (.func 9) args h k :=
  fn_ok mixed envOk hc q9 Go.Proofs.Tryz.func9 rfl (by kernel_rfl) (by kernel_rfl) k u9 (fun n => f9 (r9 c k n))
    (fun L f h hl => by
      match L, hl with
      | 0, hl => obtain ⟨_, _, _, hl0⟩ := asS_inv (show _ from hl); exact hl0
      | _ + 1, hl => exact hl)
    (fun n p L hm f h hl => by
      simp only [u9, List.mem_cons, Prod.mk.injEq, List.not_mem_nil, or_false] at hm
      rcases hm with ⟨rfl, rfl⟩
      · have hl : f9 (r9 c k (n + 1)) 0 f h := hl
        obtain ⟨l_0, c_0, e_0, hl0⟩ := asS_inv hl
        have hh := e9_0 c k (r9 c k n) f h l_0 c_0
        rw [fset_self e_0] at hh
        exact Eq.mpr hh hl0
    ) (by simp [u9]) hg

theorem w10 {c : Caller Prop FT} (hc : CallOk Go.Proofs.Tryz.prog (CP env) G (fun p => p) c) {k : KV} {m : Nat} {a : List AV} {h : H} (hg : runJ env c q10 u10 d10 (retA env Go.Proofs.Tryz.f10.results.toList k) m 0 (finit a) h) : SW Go.Proofs.Tryz.prog G (.func 10) a h k := fnI_ok mixed envOk hc q10 Go.Proofs.Tryz.func10 rfl (by kernel_rfl) (by kernel_rfl) (by kernel_rfl) (by simp [u10]) hg
theorem e24_0 (c : Caller Prop FT) (k : KV) (J : J24) (f : FT) (h : H) (v_0 : AV) (l_1 : Nat) (c_1 : Nat) (l_2 : Nat) (c_2 : Nat) : chunkA env c q24 u24 (f24 J) d24 (retA env Go.Proofs.Tryz.f24.results.toList k) .root (fset (fset (fset f 0 v_0) 1 (.str l_1 c_1)) 2 (.str l_2 c_2)) h = s24_0 c k J v_0 l_1 c_1 l_2 c_2 h := by kernel_rfl
theorem w24 {c : Caller Prop FT} (hc : CallOk Go.Proofs.Tryz.prog (CP env) G (fun p => p) c) {k : KV} {n : Nat} {args : List AV} {h : H} (hg : f24 (r24 c k n) 0 (finit args) h) : SW Go.Proofs.Tryz.prog G (.func 24) args h k :=
  fn_ok mixed envOk hc q24 Go.Proofs.Tryz.func24 rfl (by kernel_rfl) (by kernel_rfl) k u24 (fun n => f24 (r24 c k n))
    (fun L f h hl => by
      match L, hl with
      | 0, hl => obtain ⟨_, _, _, hl0⟩ := asS_inv (show _ from hl); obtain ⟨_, _, _, hl1⟩ := asS_inv (show _ from hl0); exact hl1
      | _ + 1, hl => exact hl)
    (fun n p L hm f h hl => by
      simp only [u24, List.mem_cons, Prod.mk.injEq, List.not_mem_nil, or_false] at hm
      rcases hm with ⟨rfl, rfl⟩
      · have hl : f24 (r24 c k (n + 1)) 0 f h := hl
        obtain ⟨l_1, c_1, e_1, hl1⟩ := asS_inv hl
        obtain ⟨l_2, c_2, e_2, hl2⟩ := asS_inv hl1
        have hh := e24_0 c k (r24 c k n) f h (f 0) l_1 c_1 l_2 c_2
        rw [fset_self (rfl : f 0 = f 0)] at hh
        rw [fset_self e_1] at hh
        rw [fset_self e_2] at hh
        exact Eq.mpr hh hl2
    ) (by simp [u24]) hg

theorem e34_0 (c : Caller Prop FT) (k : KV) (J : J34) (f : FT) (h : H) (v_0 : AV) : chunkA env c q34 u34 (f34 J) d34 (retA env Go.Proofs.Tryz.f34.results.toList k) .root (fset f 0 v_0) h = s34_0 c k J v_0 h := by kernel_rfl
theorem w34 {c : Caller Prop FT} (hc : CallOk Go.Proofs.Tryz.prog (CP env) G (fun p => p) c) {k : KV} {n : Nat} {args : List AV} {h : H} (hg : f34 (r34 c k n) 0 (finit args) h) : SW Go.Proofs.Tryz.prog G (.func 34) args h k :=
  fn_ok mixed envOk hc q34 Go.Proofs.Tryz.func34 rfl (by kernel_rfl) (by kernel_rfl) k u34 (fun n => f34 (r34 c k n))
    (fun L f h hl => by
      match L, hl with
      | 0, hl => exact hl
      | _ + 1, hl => exact hl)
    (fun n p L hm f h hl => by
      simp only [u34, List.mem_cons, Prod.mk.injEq, List.not_mem_nil, or_false] at hm
      rcases hm with ⟨rfl, rfl⟩
      · have hl : f34 (r34 c k (n + 1)) 0 f h := hl
        have hh := e34_0 c k (r34 c k n) f h (f 0)
        rw [fset_self (rfl : f 0 = f 0)] at hh
        exact Eq.mpr hh hl
    ) (by simp [u34]) hg

theorem e46_0 (c : Caller Prop FT) (k : KV) (J : J46) (f : FT) (h : H) (l_0 : Nat) (c_0 : Nat) (l_1 : Nat) (c_1 : Nat) : chunkA env c q46 u46 (f46 J) d46 (retA env Go.Proofs.Tryz.f46.results.toList k) .root (fset (fset f 0 (.str l_0 c_0)) 1 (.str l_1 c_1)) h = s46_0 c k J l_0 c_0 l_1 c_1 h := by kernel_rfl
theorem e46_1 (c : Caller Prop FT) (k : KV) (J : J46) (f : FT) (h : H) (l_1 : Nat) (c_1 : Nat) (v_4 : AV) (v_6 : AV) (n_7 : Int) : chunkA env c q46 u46 (f46 J) d46 (retA env Go.Proofs.Tryz.f46.results.toList k) (.l (.l (.r (.r (.r .root))))) (fset (fset (fset (fset f 1 (.str l_1 c_1)) 4 v_4) 6 v_6) 7 (.int .i64 n_7)) h = s46_1 c k J l_1 c_1 v_4 v_6 n_7 h := by kernel_rfl
theorem e46_2 (c : Caller Prop FT) (k : KV) (J : J46) (f : FT) (h : H) (l_1 : Nat) (c_1 : Nat) (v_4 : AV) (v_6 : AV) (v_8 : AV) : chunkA env c q46 u46 (f46 J) d46 (retA env Go.Proofs.Tryz.f46.results.toList k) (.r (.r (.l (.r (.l (.l (.l (.r (.r (.r .root)))))))))) (fset (fset (fset (fset f 1 (.str l_1 c_1)) 4 v_4) 6 v_6) 8 v_8) h = s46_2 c k J l_1 c_1 v_4 v_6 v_8 h := by kernel_rfl
theorem e46_3 (c : Caller Prop FT) (k : KV) (J : J46) (f : FT) (h : H) (v_4 : AV) (v_6 : AV) : chunkA env c q46 u46 (f46 J) d46 (retA env Go.Proofs.Tryz.f46.results.toList k) (.r (.r (.r (.r (.r .root))))) (fset (fset f 4 v_4) 6 v_6) h = s46_3 c k J v_4 v_6 h := by kernel_rfl
theorem w46 {c : Caller Prop FT} (hc : CallOk Go.Proofs.Tryz.prog (CP env) G (fun p => p) c) {k : KV} {n : Nat} {args : List AV} {h : H} (hg : f46 (r46 c k n) 0 (finit args) h) : SW Go.Proofs.Tryz.prog G (.func 46) args h k :=
  fn_ok mixed envOk hc q46 Go.Proofs.Tryz.func46 rfl (by kernel_rfl) (by kernel_rfl) k u46 (fun n => f46 (r46 c k n))
    (fun L f h hl => by
      match L, hl with
      | 0, hl => obtain ⟨_, _, _, hl0⟩ := asS_inv (show _ from hl); obtain ⟨_, _, _, hl1⟩ := asS_inv (show _ from hl0); exact hl1
      | 1, hl => obtain ⟨_, _, _, hl0⟩ := asS_inv (show _ from hl); obtain ⟨_, _, hl1⟩ := asI_inv (show _ from hl0); exact hl1
      | 2, hl => obtain ⟨_, _, _, hl0⟩ := asS_inv (show _ from hl); exact hl0
      | 3, hl => exact hl
      | _ + 4, hl => exact hl)
    (fun n p L hm f h hl => by
      simp only [u46, List.mem_cons, Prod.mk.injEq, List.not_mem_nil, or_false] at hm
      rcases hm with ⟨rfl, rfl⟩ | ⟨rfl, rfl⟩ | ⟨rfl, rfl⟩ | ⟨rfl, rfl⟩
      · have hl : f46 (r46 c k (n + 1)) 0 f h := hl
        obtain ⟨l_0, c_0, e_0, hl0⟩ := asS_inv hl
        obtain ⟨l_1, c_1, e_1, hl1⟩ := asS_inv hl0
        have hh := e46_0 c k (r46 c k n) f h l_0 c_0 l_1 c_1
        rw [fset_self e_0] at hh
        rw [fset_self e_1] at hh
        exact Eq.mpr hh hl1
      · have hl : f46 (r46 c k (n + 1)) 1 f h := hl
        obtain ⟨l_1, c_1, e_1, hl0⟩ := asS_inv hl
        obtain ⟨n_7, e_7, hl3⟩ := asI_inv hl0
        have hh := e46_1 c k (r46 c k n) f h l_1 c_1 (f 4) (f 6) n_7
        rw [fset_self e_1] at hh
        rw [fset_self (rfl : f 4 = f 4)] at hh
        rw [fset_self (rfl : f 6 = f 6)] at hh
        rw [fset_self e_7] at hh
        exact Eq.mpr hh hl3
      · have hl : f46 (r46 c k (n + 1)) 2 f h := hl
        obtain ⟨l_1, c_1, e_1, hl0⟩ := asS_inv hl
        have hh := e46_2 c k (r46 c k n) f h l_1 c_1 (f 4) (f 6) (f 8)
        rw [fset_self e_1] at hh
        rw [fset_self (rfl : f 4 = f 4)] at hh
        rw [fset_self (rfl : f 6 = f 6)] at hh
        rw [fset_self (rfl : f 8 = f 8)] at hh
        exact Eq.mpr hh hl0
      · have hl : f46 (r46 c k (n + 1)) 3 f h := hl
        have hh := e46_3 c k (r46 c k n) f h (f 4) (f 6)
        rw [fset_self (rfl : f 4 = f 4)] at hh
        rw [fset_self (rfl : f 6 = f 6)] at hh
        exact Eq.mpr hh hl
    ) (by simp [u46]) hg

theorem e47_0 (c : Caller Prop FT) (k : KV) (J : J47) (f : FT) (h : H) (v_0 : AV) : chunkA env c q47 u47 (f47 J) d47 (retA env Go.Proofs.Tryz.f47.results.toList k) .root (fset f 0 v_0) h = s47_0 c k J v_0 h := by kernel_rfl
theorem w47 {c : Caller Prop FT} (hc : CallOk Go.Proofs.Tryz.prog (CP env) G (fun p => p) c) {k : KV} {n : Nat} {args : List AV} {h : H} (hg : f47 (r47 c k n) 0 (finit args) h) : SW Go.Proofs.Tryz.prog G (.func 47) args h k :=
  fn_ok mixed envOk hc q47 Go.Proofs.Tryz.func47 rfl (by kernel_rfl) (by kernel_rfl) k u47 (fun n => f47 (r47 c k n))
    (fun L f h hl => by
      match L, hl with
      | 0, hl => exact hl
      | _ + 1, hl => exact hl)
    (fun n p L hm f h hl => by
      simp only [u47, List.mem_cons, Prod.mk.injEq, List.not_mem_nil, or_false] at hm
      rcases hm with ⟨rfl, rfl⟩
      · have hl : f47 (r47 c k (n + 1)) 0 f h := hl
        have hh := e47_0 c k (r47 c k n) f h (f 0)
        rw [fset_self (rfl : f 0 = f 0)] at hh
        exact Eq.mpr hh hl
    ) (by simp [u47]) hg

theorem e52_0 (c : Caller Prop FT) (k : KV) (J : J52) (f : FT) (h : H) (v_0 : AV) : chunkA env c q52 u52 (f52 J) d52 (retA env Go.Proofs.Tryz.f52.results.toList k) .root (fset f 0 v_0) h = s52_0 c k J v_0 h := by kernel_rfl
theorem w52 {c : Caller Prop FT} (hc : CallOk Go.Proofs.Tryz.prog (CP env) G (fun p => p) c) {k : KV} {n : Nat} {args : List AV} {h : H} (hg : f52 (r52 c k n) 0 (finit args) h) : SW Go.Proofs.Tryz.prog G (.func 52) args h k :=
  fn_ok mixed envOk hc q52 Go.Proofs.Tryz.func52 rfl (by kernel_rfl) (by kernel_rfl) k u52 (fun n => f52 (r52 c k n))
    (fun L f h hl => by
      match L, hl with
      | 0, hl => exact hl
      | _ + 1, hl => exact hl)
    (fun n p L hm f h hl => by
      simp only [u52, List.mem_cons, Prod.mk.injEq, List.not_mem_nil, or_false] at hm
      rcases hm with ⟨rfl, rfl⟩
      · have hl : f52 (r52 c k (n + 1)) 0 f h := hl
        have hh := e52_0 c k (r52 c k n) f h (f 0)
        rw [fset_self (rfl : f 0 = f 0)] at hh
        exact Eq.mpr hh hl
    ) (by simp [u52]) hg

theorem e55_0 (c : Caller Prop FT) (k : KV) (J : J55) (f : FT) (h : H) (v_0 : AV) (v_1 : AV) : chunkA env c q55 u55 (f55 J) d55 (retA env Go.Proofs.Tryz.f55.results.toList k) .root (fset (fset f 0 v_0) 1 v_1) h = s55_0 c k J v_0 v_1 h := by kernel_rfl
theorem e55_1 (c : Caller Prop FT) (k : KV) (J : J55) (f : FT) (h : H) (v_0 : AV) (v_1 : AV) (n_7 : Int) (n_8 : Int) : chunkA env c q55 u55 (f55 J) d55 (retA env Go.Proofs.Tryz.f55.results.toList k) (.l (.r (.l (.r .root)))) (fset (fset (fset (fset f 0 v_0) 1 v_1) 7 (.int .i64 n_7)) 8 (.int .i64 n_8)) h = s55_1 c k J v_0 v_1 n_7 n_8 h := by kernel_rfl
theorem w55 {c : Caller Prop FT} (hc : CallOk Go.Proofs.Tryz.prog (CP env) G (fun p => p) c) {k : KV} {n : Nat} {args : List AV} {h : H} (hg : f55 (r55 c k n) 0 (finit args) h) : SW Go.Proofs.Tryz.prog G (.func 55) args h k :=
  fn_ok mixed envOk hc q55 Go.Proofs.Tryz.func55 rfl (by kernel_rfl) (by kernel_rfl) k u55 (fun n => f55 (r55 c k n))
    (fun L f h hl => by
      match L, hl with
      | 0, hl => exact hl
      | 1, hl => obtain ⟨_, _, hl0⟩ := asI_inv (show _ from hl); obtain ⟨_, _, hl1⟩ := asI_inv (show _ from hl0); exact hl1
      | _ + 2, hl => exact hl)
    (fun n p L hm f h hl => by
      simp only [u55, List.mem_cons, Prod.mk.injEq, List.not_mem_nil, or_false] at hm
      rcases hm with ⟨rfl, rfl⟩ | ⟨rfl, rfl⟩
      · have hl : f55 (r55 c k (n + 1)) 0 f h := hl
        have hh := e55_0 c k (r55 c k n) f h (f 0) (f 1)
        rw [fset_self (rfl : f 0 = f 0)] at hh
        rw [fset_self (rfl : f 1 = f 1)] at hh
        exact Eq.mpr hh hl
      · have hl : f55 (r55 c k (n + 1)) 1 f h := hl
        obtain ⟨n_7, e_7, hl2⟩ := asI_inv hl
        obtain ⟨n_8, e_8, hl3⟩ := asI_inv hl2
        have hh := e55_1 c k (r55 c k n) f h (f 0) (f 1) n_7 n_8
        rw [fset_self (rfl : f 0 = f 0)] at hh
        rw [fset_self (rfl : f 1 = f 1)] at hh
        rw [fset_self e_7] at hh
        rw [fset_self e_8] at hh
        exact Eq.mpr hh hl3
    ) (by simp [u55]) hg

theorem e58_0 (c : Caller Prop FT) (k : KV) (J : J58) (f : FT) (h : H) (v_0 : AV) (l_1 : Nat) (c_1 : Nat) : chunkA env c q58 u58 (f58 J) d58 (retA env Go.Proofs.Tryz.f58.results.toList k) .root (fset (fset f 0 v_0) 1 (.str l_1 c_1)) h = s58_0 c k J v_0 l_1 c_1 h := by kernel_rfl
theorem e58_1 (c : Caller Prop FT) (k : KV) (J : J58) (f : FT) (h : H) (v_0 : AV) (l_1 : Nat) (c_1 : Nat) : chunkA env c q58 u58 (f58 J) d58 (retA env Go.Proofs.Tryz.f58.results.toList k) (.r .root) (fset (fset f 0 v_0) 1 (.str l_1 c_1)) h = s58_1 c k J v_0 l_1 c_1 h := by kernel_rfl
theorem w58 {c : Caller Prop FT} (hc : CallOk Go.Proofs.Tryz.prog (CP env) G (fun p => p) c) {k : KV} {n : Nat} {args : List AV} {h : H} (hg : f58 (r58 c k n) 0 (finit args) h) : SW Go.Proofs.Tryz.prog G (.func 58) args h k :=
  fn_ok mixed envOk hc q58 Go.Proofs.Tryz.func58 rfl (by kernel_rfl) (by kernel_rfl) k u58 (fun n => f58 (r58 c k n))
    (fun L f h hl => by
      match L, hl with
      | 0, hl => obtain ⟨_, _, _, hl0⟩ := asS_inv (show _ from hl); exact hl0
      | 1, hl => obtain ⟨_, _, _, hl0⟩ := asS_inv (show _ from hl); exact hl0
      | _ + 2, hl => exact hl)
    (fun n p L hm f h hl => by
      simp only [u58, List.mem_cons, Prod.mk.injEq, List.not_mem_nil, or_false] at hm
      rcases hm with ⟨rfl, rfl⟩ | ⟨rfl, rfl⟩
      · have hl : f58 (r58 c k (n + 1)) 0 f h := hl
        obtain ⟨l_1, c_1, e_1, hl1⟩ := asS_inv hl
        have hh := e58_0 c k (r58 c k n) f h (f 0) l_1 c_1
        rw [fset_self (rfl : f 0 = f 0)] at hh
        rw [fset_self e_1] at hh
        exact Eq.mpr hh hl1
      · have hl : f58 (r58 c k (n + 1)) 1 f h := hl
        obtain ⟨l_1, c_1, e_1, hl1⟩ := asS_inv hl
        have hh := e58_1 c k (r58 c k n) f h (f 0) l_1 c_1
        rw [fset_self (rfl : f 0 = f 0)] at hh
        rw [fset_self e_1] at hh
        exact Eq.mpr hh hl1
    ) (by simp [u58]) hg

theorem e62_0 (c : Caller Prop FT) (k : KV) (J : J62) (f : FT) (h : H) (v_0 : AV) (n_1 : Int) : chunkA env c q62 u62 (f62 J) d62 (retA env Go.Proofs.Tryz.f62.results.toList k) .root (fset (fset f 0 v_0) 1 (.int .i64 n_1)) h = s62_0 c k J v_0 n_1 h := by kernel_rfl
theorem w62 {c : Caller Prop FT} (hc : CallOk Go.Proofs.Tryz.prog (CP env) G (fun p => p) c) {k : KV} {n : Nat} {args : List AV} {h : H} (hg : f62 (r62 c k n) 0 (finit args) h) : SW Go.Proofs.Tryz.prog G (.func 62) args h k :=
  fn_ok mixed envOk hc q62 Go.Proofs.Tryz.func62 rfl (by kernel_rfl) (by kernel_rfl) k u62 (fun n => f62 (r62 c k n))
    (fun L f h hl => by
      match L, hl with
      | 0, hl => obtain ⟨_, _, hl0⟩ := asI_inv (show _ from hl); exact hl0
      | _ + 1, hl => exact hl)
    (fun n p L hm f h hl => by
      simp only [u62, List.mem_cons, Prod.mk.injEq, List.not_mem_nil, or_false] at hm
      rcases hm with ⟨rfl, rfl⟩
      · have hl : f62 (r62 c k (n + 1)) 0 f h := hl
        obtain ⟨n_1, e_1, hl1⟩ := asI_inv hl
        have hh := e62_0 c k (r62 c k n) f h (f 0) n_1
        rw [fset_self (rfl : f 0 = f 0)] at hh
        rw [fset_self e_1] at hh
        exact Eq.mpr hh hl1
    ) (by simp [u62]) hg

theorem e66_0 (c : Caller Prop FT) (k : KV) (J : J66) (f : FT) (h : H) (v_0 : AV) : chunkA env c q66 u66 (f66 J) d66 (retA env Go.Proofs.Tryz.f66.results.toList k) .root (fset f 0 v_0) h = s66_0 c k J v_0 h := by kernel_rfl
theorem w66 {c : Caller Prop FT} (hc : CallOk Go.Proofs.Tryz.prog (CP env) G (fun p => p) c) {k : KV} {n : Nat} {args : List AV} {h : H} (hg : f66 (r66 c k n) 0 (finit args) h) : SW Go.Proofs.Tryz.prog G (.func 66) args h k :=
  fn_ok mixed envOk hc q66 Go.Proofs.Tryz.func66 rfl (by kernel_rfl) (by kernel_rfl) k u66 (fun n => f66 (r66 c k n))
    (fun L f h hl => by
      match L, hl with
      | 0, hl => exact hl
      | _ + 1, hl => exact hl)
    (fun n p L hm f h hl => by
      simp only [u66, List.mem_cons, Prod.mk.injEq, List.not_mem_nil, or_false] at hm
      rcases hm with ⟨rfl, rfl⟩
      · have hl : f66 (r66 c k (n + 1)) 0 f h := hl
        have hh := e66_0 c k (r66 c k n) f h (f 0)
        rw [fset_self (rfl : f 0 = f 0)] at hh
        exact Eq.mpr hh hl
    ) (by simp [u66]) hg

theorem e68_0 (c : Caller Prop FT) (k : KV) (J : J68) (f : FT) (h : H) (l_0 : Nat) (c_0 : Nat) : chunkA env c q68 u68 (f68 J) d68 (retA env Go.Proofs.Tryz.f68.results.toList k) .root (fset f 0 (.str l_0 c_0)) h = s68_0 c k J l_0 c_0 h := by kernel_rfl
theorem w68 {c : Caller Prop FT} (hc : CallOk Go.Proofs.Tryz.prog (CP env) G (fun p => p) c) {k : KV} {n : Nat} {args : List AV} {h : H} (hg : f68 (r68 c k n) 0 (finit args) h) : SW Go.Proofs.Tryz.prog G (.func 68) args h k :=
  fn_ok mixed envOk hc q68 Go.Proofs.Tryz.func68 rfl (by kernel_rfl) (by kernel_rfl) k u68 (fun n => f68 (r68 c k n))
    (fun L f h hl => by
      match L, hl with
      | 0, hl => obtain ⟨_, _, _, hl0⟩ := asS_inv (show _ from hl); exact hl0
      | _ + 1, hl => exact hl)
    (fun n p L hm f h hl => by
      simp only [u68, List.mem_cons, Prod.mk.injEq, List.not_mem_nil, or_false] at hm
      rcases hm with ⟨rfl, rfl⟩
      · have hl : f68 (r68 c k (n + 1)) 0 f h := hl
        obtain ⟨l_0, c_0, e_0, hl0⟩ := asS_inv hl
        have hh := e68_0 c k (r68 c k n) f h l_0 c_0
        rw [fset_self e_0] at hh
        exact Eq.mpr hh hl0
    ) (by simp [u68]) hg

theorem e70_0 (c : Caller Prop FT) (k : KV) (J : J70) (f : FT) (h : H) (v_0 : AV) (v_1 : AV) : chunkA env c q70 u70 (f70 J) d70 (retA env Go.Proofs.Tryz.f70.results.toList k) .root (fset (fset f 0 v_0) 1 v_1) h = s70_0 c k J v_0 v_1 h := by kernel_rfl
theorem e70_1 (c : Caller Prop FT) (k : KV) (J : J70) (f : FT) (h : H) (v_0 : AV) (v_1 : AV) (n_3 : Int) : chunkA env c q70 u70 (f70 J) d70 (retA env Go.Proofs.Tryz.f70.results.toList k) (.l (.r .root)) (fset (fset (fset f 0 v_0) 1 v_1) 3 (.int .i64 n_3)) h = s70_1 c k J v_0 v_1 n_3 h := by kernel_rfl
theorem w70 {c : Caller Prop FT} (hc : CallOk Go.Proofs.Tryz.prog (CP env) G (fun p => p) c) {k : KV} {n : Nat} {args : List AV} {h : H} (hg : f70 (r70 c k n) 0 (finit args) h) : SW Go.Proofs.Tryz.prog G (.func 70) args h k :=
  fn_ok mixed envOk hc q70 Go.Proofs.Tryz.func70 rfl (by kernel_rfl) (by kernel_rfl) k u70 (fun n => f70 (r70 c k n))
    (fun L f h hl => by
      match L, hl with
      | 0, hl => exact hl
      | 1, hl => obtain ⟨_, _, hl0⟩ := asI_inv (show _ from hl); exact hl0
      | _ + 2, hl => exact hl)
    (fun n p L hm f h hl => by
      simp only [u70, List.mem_cons, Prod.mk.injEq, List.not_mem_nil, or_false] at hm
      rcases hm with ⟨rfl, rfl⟩ | ⟨rfl, rfl⟩
      · have hl : f70 (r70 c k (n + 1)) 0 f h := hl
        have hh := e70_0 c k (r70 c k n) f h (f 0) (f 1)
        rw [fset_self (rfl : f 0 = f 0)] at hh
        rw [fset_self (rfl : f 1 = f 1)] at hh
        exact Eq.mpr hh hl
      · have hl : f70 (r70 c k (n + 1)) 1 f h := hl
        obtain ⟨n_3, e_3, hl2⟩ := asI_inv hl
        have hh := e70_1 c k (r70 c k n) f h (f 0) (f 1) n_3
        rw [fset_self (rfl : f 0 = f 0)] at hh
        rw [fset_self (rfl : f 1 = f 1)] at hh
        rw [fset_self e_3] at hh
        exact Eq.mpr hh hl2
    ) (by simp [u70]) hg

theorem e77_0 (c : Caller Prop FT) (k : KV) (J : J77) (f : FT) (h : H) (l_0 : Nat) (c_0 : Nat) (v_1 : AV) : chunkA env c q77 u77 (f77 J) d77 (retA env Go.Proofs.Tryz.f77.results.toList k) .root (fset (fset f 0 (.str l_0 c_0)) 1 v_1) h = s77_0 c k J l_0 c_0 v_1 h := by kernel_rfl
theorem w77 {c : Caller Prop FT} (hc : CallOk Go.Proofs.Tryz.prog (CP env) G (fun p => p) c) {k : KV} {n : Nat} {args : List AV} {h : H} (hg : f77 (r77 c k n) 0 (finit args) h) : SW Go.Proofs.Tryz.prog G (.func 77) args h k :=
  fn_ok mixed envOk hc q77 Go.Proofs.Tryz.func77 rfl (by kernel_rfl) (by kernel_rfl) k u77 (fun n => f77 (r77 c k n))
    (fun L f h hl => by
      match L, hl with
      | 0, hl => obtain ⟨_, _, _, hl0⟩ := asS_inv (show _ from hl); exact hl0
      | _ + 1, hl => exact hl)
    (fun n p L hm f h hl => by
      simp only [u77, List.mem_cons, Prod.mk.injEq, List.not_mem_nil, or_false] at hm
      rcases hm with ⟨rfl, rfl⟩
      · have hl : f77 (r77 c k (n + 1)) 0 f h := hl
        obtain ⟨l_0, c_0, e_0, hl0⟩ := asS_inv hl
        have hh := e77_0 c k (r77 c k n) f h l_0 c_0 (f 1)
        rw [fset_self e_0] at hh
        rw [fset_self (rfl : f 1 = f 1)] at hh
        exact Eq.mpr hh hl0
    ) (by simp [u77]) hg

theorem e80_0 (c : Caller Prop FT) (k : KV) (J : J80) (f : FT) (h : H) (n_0 : Int) : chunkA env c q80 u80 (f80 J) d80 (retA env Go.Proofs.Tryz.f80.results.toList k) .root (fset f 0 (.int .u8 n_0)) h = s80_0 c k J n_0 h := by kernel_rfl
theorem w80 {c : Caller Prop FT} (hc : CallOk Go.Proofs.Tryz.prog (CP env) G (fun p => p) c) {k : KV} {n : Nat} {args : List AV} {h : H} (hg : f80 (r80 c k n) 0 (finit args) h) : SW Go.Proofs.Tryz.prog G (.func 80) args h k :=
  fn_ok mixed envOk hc q80 Go.Proofs.Tryz.func80 rfl (by kernel_rfl) (by kernel_rfl) k u80 (fun n => f80 (r80 c k n))
    (fun L f h hl => by
      match L, hl with
      | 0, hl => obtain ⟨_, _, hl0⟩ := asI_inv (show _ from hl); exact hl0
      | _ + 1, hl => exact hl)
    (fun n p L hm f h hl => by
      simp only [u80, List.mem_cons, Prod.mk.injEq, List.not_mem_nil, or_false] at hm
      rcases hm with ⟨rfl, rfl⟩
      · have hl : f80 (r80 c k (n + 1)) 0 f h := hl
        obtain ⟨n_0, e_0, hl0⟩ := asI_inv hl
        have hh := e80_0 c k (r80 c k n) f h n_0
        rw [fset_self e_0] at hh
        exact Eq.mpr hh hl0
    ) (by simp [u80]) hg

theorem e83_0 (c : Caller Prop FT) (k : KV) (J : J83) (f : FT) (h : H) (v_0 : AV) (n_1 : Int) : chunkA env c q83 u83 (f83 J) d83 (retA env Go.Proofs.Tryz.f83.results.toList k) .root (fset (fset f 0 v_0) 1 (.int .i64 n_1)) h = s83_0 c k J v_0 n_1 h := by kernel_rfl
theorem w83 {c : Caller Prop FT} (hc : CallOk Go.Proofs.Tryz.prog (CP env) G (fun p => p) c) {k : KV} {n : Nat} {args : List AV} {h : H} (hg : f83 (r83 c k n) 0 (finit args) h) : SW Go.Proofs.Tryz.prog G (.func 83) args h k :=
  fn_ok mixed envOk hc q83 Go.Proofs.Tryz.func83 rfl (by kernel_rfl) (by kernel_rfl) k u83 (fun n => f83 (r83 c k n))
    (fun L f h hl => by
      match L, hl with
      | 0, hl => obtain ⟨_, _, hl0⟩ := asI_inv (show _ from hl); exact hl0
      | _ + 1, hl => exact hl)
    (fun n p L hm f h hl => by
      simp only [u83, List.mem_cons, Prod.mk.injEq, List.not_mem_nil, or_false] at hm
      rcases hm with ⟨rfl, rfl⟩
      · have hl : f83 (r83 c k (n + 1)) 0 f h := hl
        obtain ⟨n_1, e_1, hl1⟩ := asI_inv hl
        have hh := e83_0 c k (r83 c k n) f h (f 0) n_1
        rw [fset_self (rfl : f 0 = f 0)] at hh
        rw [fset_self e_1] at hh
        exact Eq.mpr hh hl1
    ) (by simp [u83]) hg

theorem e86_0 (c : Caller Prop FT) (k : KV) (J : J86) (f : FT) (h : H) (v_0 : AV) (n_1 : Int) (v_2 : AV) : chunkA env c q86 u86 (f86 J) d86 (retA env Go.Proofs.Tryz.f86.results.toList k) .root (fset (fset (fset f 0 v_0) 1 (.int .i64 n_1)) 2 v_2) h = s86_0 c k J v_0 n_1 v_2 h := by kernel_rfl
theorem e86_1 (c : Caller Prop FT) (k : KV) (J : J86) (f : FT) (h : H) (v_0 : AV) (v_6 : AV) : chunkA env c q86 u86 (f86 J) d86 (retA env Go.Proofs.Tryz.f86.results.toList k) (.r (.r (.l (.r (.l (.r (.r (.r (.r .root))))))))) (fset (fset f 0 v_0) 6 v_6) h = s86_1 c k J v_0 v_6 h := by kernel_rfl
theorem e86_2 (c : Caller Prop FT) (k : KV) (J : J86) (f : FT) (h : H) (v_0 : AV) (n_1 : Int) (b_81 : Bool) : chunkA env c q86 u86 (f86 J) d86 (retA env Go.Proofs.Tryz.f86.results.toList k) (.r (.r (.r (.l (.r (.r (.r (.r .root)))))))) (fset (fset (fset f 0 v_0) 1 (.int .i64 n_1)) 81 (.bool b_81)) h = s86_2 c k J v_0 n_1 b_81 h := by kernel_rfl
theorem e86_3 (c : Caller Prop FT) (k : KV) (J : J86) (f : FT) (h : H) (v_0 : AV) (n_1 : Int) (n_34 : Int) (b_41 : Bool) : chunkA env c q86 u86 (f86 J) d86 (retA env Go.Proofs.Tryz.f86.results.toList k) (.r (.l (.r (.r (.r (.r .root)))))) (fset (fset (fset (fset f 0 v_0) 1 (.int .i64 n_1)) 34 (.int .i64 n_34)) 41 (.bool b_41)) h = s86_3 c k J v_0 n_1 n_34 b_41 h := by kernel_rfl
theorem e86_4 (c : Caller Prop FT) (k : KV) (J : J86) (f : FT) (h : H) (v_0 : AV) (n_1 : Int) : chunkA env c q86 u86 (f86 J) d86 (retA env Go.Proofs.Tryz.f86.results.toList k) (.r (.r (.r .root))) (fset (fset f 0 v_0) 1 (.int .i64 n_1)) h = s86_4 c k J v_0 n_1 h := by kernel_rfl
theorem w86 {c : Caller Prop FT} (hc : CallOk Go.Proofs.Tryz.prog (CP env) G (fun p => p) c) {k : KV} {n : Nat} {args : List AV} {h : H} (hg : f86 (r86 c k n) 0 (finit args) h) : SW Go.Proofs.Tryz.prog G (.func 86) args h k :=
  fn_ok mixed envOk hc q86 Go.Proofs.Tryz.func86 rfl (by kernel_rfl) (by kernel_rfl) k u86 (fun n => f86 (r86 c k n))
    (fun L f h hl => by
      match L, hl with
      | 0, hl => obtain ⟨_, _, hl0⟩ := asI_inv (show _ from hl); exact hl0
      | 1, hl => exact hl
      | 2, hl => obtain ⟨_, _, hl0⟩ := asI_inv (show _ from hl); obtain ⟨_, _, hl1⟩ := asB_inv (show _ from hl0); exact hl1
      | 3, hl => obtain ⟨_, _, hl0⟩ := asI_inv (show _ from hl); obtain ⟨_, _, hl1⟩ := asI_inv (show _ from hl0); obtain ⟨_, _, hl2⟩ := asB_inv (show _ from hl1); exact hl2
      | 4, hl => obtain ⟨_, _, hl0⟩ := asI_inv (show _ from hl); exact hl0
      | _ + 5, hl => exact hl)
    (fun n p L hm f h hl => by
      simp only [u86, List.mem_cons, Prod.mk.injEq, List.not_mem_nil, or_false] at hm
      rcases hm with ⟨rfl, rfl⟩ | ⟨rfl, rfl⟩ | ⟨rfl, rfl⟩ | ⟨rfl, rfl⟩ | ⟨rfl, rfl⟩
      · have hl : f86 (r86 c k (n + 1)) 0 f h := hl
        obtain ⟨n_1, e_1, hl1⟩ := asI_inv hl
        have hh := e86_0 c k (r86 c k n) f h (f 0) n_1 (f 2)
        rw [fset_self (rfl : f 0 = f 0)] at hh
        rw [fset_self e_1] at hh
        rw [fset_self (rfl : f 2 = f 2)] at hh
        exact Eq.mpr hh hl1
      · have hl : f86 (r86 c k (n + 1)) 1 f h := hl
        have hh := e86_1 c k (r86 c k n) f h (f 0) (f 6)
        rw [fset_self (rfl : f 0 = f 0)] at hh
        rw [fset_self (rfl : f 6 = f 6)] at hh
        exact Eq.mpr hh hl
      · have hl : f86 (r86 c k (n + 1)) 2 f h := hl
        obtain ⟨n_1, e_1, hl1⟩ := asI_inv hl
        obtain ⟨b_81, e_81, hl2⟩ := asB_inv hl1
        have hh := e86_2 c k (r86 c k n) f h (f 0) n_1 b_81
        rw [fset_self (rfl : f 0 = f 0)] at hh
        rw [fset_self e_1] at hh
        rw [fset_self e_81] at hh
        exact Eq.mpr hh hl2
      · have hl : f86 (r86 c k (n + 1)) 3 f h := hl
        obtain ⟨n_1, e_1, hl1⟩ := asI_inv hl
        obtain ⟨n_34, e_34, hl2⟩ := asI_inv hl1
        obtain ⟨b_41, e_41, hl3⟩ := asB_inv hl2
        have hh := e86_3 c k (r86 c k n) f h (f 0) n_1 n_34 b_41
        rw [fset_self (rfl : f 0 = f 0)] at hh
        rw [fset_self e_1] at hh
        rw [fset_self e_34] at hh
        rw [fset_self e_41] at hh
        exact Eq.mpr hh hl3
      · have hl : f86 (r86 c k (n + 1)) 4 f h := hl
        obtain ⟨n_1, e_1, hl1⟩ := asI_inv hl
        have hh := e86_4 c k (r86 c k n) f h (f 0) n_1
        rw [fset_self (rfl : f 0 = f 0)] at hh
        rw [fset_self e_1] at hh
        exact Eq.mpr hh hl1
    ) (by simp [u86]) hg

theorem e88_0 (c : Caller Prop FT) (k : KV) (J : J88) (f : FT) (h : H) (v_0 : AV) (v_1 : AV) : chunkA env c q88 u88 (f88 J) d88 (retA env Go.Proofs.Tryz.f88.results.toList k) .root (fset (fset f 0 v_0) 1 v_1) h = s88_0 c k J v_0 v_1 h := by kernel_rfl
theorem e88_1 (c : Caller Prop FT) (k : KV) (J : J88) (f : FT) (h : H) (v_0 : AV) (v_3 : AV) (v_33 : AV) (n_34 : Int) (n_35 : Int) : chunkA env c q88 u88 (f88 J) d88 (retA env Go.Proofs.Tryz.f88.results.toList k) (.l (.r (.l (.r (.r (.r .root)))))) (fset (fset (fset (fset (fset f 0 v_0) 3 v_3) 33 v_33) 34 (.int .i64 n_34)) 35 (.int .i64 n_35)) h = s88_1 c k J v_0 v_3 v_33 n_34 n_35 h := by kernel_rfl
theorem w88 {c : Caller Prop FT} (hc : CallOk Go.Proofs.Tryz.prog (CP env) G (fun p => p) c) {k : KV} {n : Nat} {args : List AV} {h : H} (hg : f88 (r88 c k n) 0 (finit args) h) : SW Go.Proofs.Tryz.prog G (.func 88) args h k :=
  fn_ok mixed envOk hc q88 Go.Proofs.Tryz.func88 rfl (by kernel_rfl) (by kernel_rfl) k u88 (fun n => f88 (r88 c k n))
    (fun L f h hl => by
      match L, hl with
      | 0, hl => exact hl
      | 1, hl => obtain ⟨_, _, hl0⟩ := asI_inv (show _ from hl); obtain ⟨_, _, hl1⟩ := asI_inv (show _ from hl0); exact hl1
      | _ + 2, hl => exact hl)
    (fun n p L hm f h hl => by
      simp only [u88, List.mem_cons, Prod.mk.injEq, List.not_mem_nil, or_false] at hm
      rcases hm with ⟨rfl, rfl⟩ | ⟨rfl, rfl⟩
      · have hl : f88 (r88 c k (n + 1)) 0 f h := hl
        have hh := e88_0 c k (r88 c k n) f h (f 0) (f 1)
        rw [fset_self (rfl : f 0 = f 0)] at hh
        rw [fset_self (rfl : f 1 = f 1)] at hh
        exact Eq.mpr hh hl
      · have hl : f88 (r88 c k (n + 1)) 1 f h := hl
        obtain ⟨n_34, e_34, hl3⟩ := asI_inv hl
        obtain ⟨n_35, e_35, hl4⟩ := asI_inv hl3
        have hh := e88_1 c k (r88 c k n) f h (f 0) (f 3) (f 33) n_34 n_35
        rw [fset_self (rfl : f 0 = f 0)] at hh
        rw [fset_self (rfl : f 3 = f 3)] at hh
        rw [fset_self (rfl : f 33 = f 33)] at hh
        rw [fset_self e_34] at hh
        rw [fset_self e_35] at hh
        exact Eq.mpr hh hl4
    ) (by simp [u88]) hg

theorem e89_0 (c : Caller Prop FT) (k : KV) (J : J89) (f : FT) (h : H) (v_0 : AV) (v_1 : AV) : chunkA env c q89 u89 (f89 J) d89 (retA env Go.Proofs.Tryz.f89.results.toList k) .root (fset (fset f 0 v_0) 1 v_1) h = s89_0 c k J v_0 v_1 h := by kernel_rfl
theorem w89 {c : Caller Prop FT} (hc : CallOk Go.Proofs.Tryz.prog (CP env) G (fun p => p) c) {k : KV} {n : Nat} {args : List AV} {h : H} (hg : f89 (r89 c k n) 0 (finit args) h) : SW Go.Proofs.Tryz.prog G (.func 89) args h k :=
  fn_ok mixed envOk hc q89 Go.Proofs.Tryz.func89 rfl (by kernel_rfl) (by kernel_rfl) k u89 (fun n => f89 (r89 c k n))
    (fun L f h hl => by
      match L, hl with
      | 0, hl => exact hl
      | _ + 1, hl => exact hl)
    (fun n p L hm f h hl => by
      simp only [u89, List.mem_cons, Prod.mk.injEq, List.not_mem_nil, or_false] at hm
      rcases hm with ⟨rfl, rfl⟩
      · have hl : f89 (r89 c k (n + 1)) 0 f h := hl
        have hh := e89_0 c k (r89 c k n) f h (f 0) (f 1)
        rw [fset_self (rfl : f 0 = f 0)] at hh
        rw [fset_self (rfl : f 1 = f 1)] at hh
        exact Eq.mpr hh hl
    ) (by simp [u89]) hg

theorem e92_0 (c : Caller Prop FT) (k : KV) (J : J92) (f : FT) (h : H) (v_0 : AV) : chunkA env c q92 u92 (f92 J) d92 (retA env Go.Proofs.Tryz.f92.results.toList k) .root (fset f 0 v_0) h = s92_0 c k J v_0 h := by kernel_rfl
theorem e92_1 (c : Caller Prop FT) (k : KV) (J : J92) (f : FT) (h : H) (v_0 : AV) (v_2 : AV) (b_3 : Bool) (v_5 : AV) (n_7 : Int) (n_8 : Int) (v_86 : AV) (n_87 : Int) (n_88 : Int) : chunkA env c q92 u92 (f92 J) d92 (retA env Go.Proofs.Tryz.f92.results.toList k) (.l (.r (.l (.r (.r (.r (.r (.r (.r (.r (.r (.l (.r .root))))))))))))) (fset (fset (fset (fset (fset (fset (fset (fset (fset f 0 v_0) 2 v_2) 3 (.bool b_3)) 5 v_5) 7 (.int .i64 n_7)) 8 (.int .i64 n_8)) 86 v_86) 87 (.int .i64 n_87)) 88 (.int .i64 n_88)) h = s92_1 c k J v_0 v_2 b_3 v_5 n_7 n_8 v_86 n_87 n_88 h := by kernel_rfl
theorem e92_2 (c : Caller Prop FT) (k : KV) (J : J92) (f : FT) (h : H) (v_0 : AV) (v_2 : AV) (b_3 : Bool) (b_4 : Bool) (v_5 : AV) : chunkA env c q92 u92 (f92 J) d92 (retA env Go.Proofs.Tryz.f92.results.toList k) (.lab (.r .root) 1) (fset (fset (fset (fset (fset f 0 v_0) 2 v_2) 3 (.bool b_3)) 4 (.bool b_4)) 5 v_5) h = s92_2 c k J v_0 v_2 b_3 b_4 v_5 h := by kernel_rfl
theorem e92_3 (c : Caller Prop FT) (k : KV) (J : J92) (f : FT) (h : H) (v_0 : AV) (v_2 : AV) (b_3 : Bool) (v_5 : AV) (n_7 : Int) (n_8 : Int) (v_86 : AV) (n_87 : Int) (n_88 : Int) : chunkA env c q92 u92 (f92 J) d92 (retA env Go.Proofs.Tryz.f92.results.toList k) (.l (.r (.l (.r (.r (.r (.r (.r (.lab (.r .root) 1))))))))) (fset (fset (fset (fset (fset (fset (fset (fset (fset f 0 v_0) 2 v_2) 3 (.bool b_3)) 5 v_5) 7 (.int .i64 n_7)) 8 (.int .i64 n_8)) 86 v_86) 87 (.int .i64 n_87)) 88 (.int .i64 n_88)) h = s92_3 c k J v_0 v_2 b_3 v_5 n_7 n_8 v_86 n_87 n_88 h := by kernel_rfl
theorem e92_4 (c : Caller Prop FT) (k : KV) (J : J92) (f : FT) (h : H) (v_2 : AV) (b_3 : Bool) (b_4 : Bool) : chunkA env c q92 u92 (f92 J) d92 (retA env Go.Proofs.Tryz.f92.results.toList k) (.lab (.r .root) 0) (fset (fset (fset f 2 v_2) 3 (.bool b_3)) 4 (.bool b_4)) h = s92_4 c k J v_2 b_3 b_4 h := by kernel_rfl
theorem e92_5 (c : Caller Prop FT) (k : KV) (J : J92) (f : FT) (h : H) (v_0 : AV) (v_2 : AV) (b_3 : Bool) (b_4 : Bool) (v_5 : AV) (b_6 : Bool) : chunkA env c q92 u92 (f92 J) d92 (retA env Go.Proofs.Tryz.f92.results.toList k) (.r (.l (.r (.r (.r (.r (.r (.r (.l (.r .root)))))))))) (fset (fset (fset (fset (fset (fset f 0 v_0) 2 v_2) 3 (.bool b_3)) 4 (.bool b_4)) 5 v_5) 6 (.bool b_6)) h = s92_5 c k J v_0 v_2 b_3 b_4 v_5 b_6 h := by kernel_rfl
theorem w92 {c : Caller Prop FT} (hc : CallOk Go.Proofs.Tryz.prog (CP env) G (fun p => p) c) {k : KV} {n : Nat} {args : List AV} {h : H} (hg : f92 (r92 c k n) 0 (finit args) h) : SW Go.Proofs.Tryz.prog G (.func 92) args h k :=
  fn_ok mixed envOk hc q92 Go.Proofs.Tryz.func92 rfl (by kernel_rfl) (by kernel_rfl) k u92 (fun n => f92 (r92 c k n))
    (fun L f h hl => by
      match L, hl with
      | 0, hl => exact hl
      | 1, hl => obtain ⟨_, _, hl0⟩ := asB_inv (show _ from hl); obtain ⟨_, _, hl1⟩ := asI_inv (show _ from hl0); obtain ⟨_, _, hl2⟩ := asI_inv (show _ from hl1); obtain ⟨_, _, hl3⟩ := asI_inv (show _ from hl2); obtain ⟨_, _, hl4⟩ := asI_inv (show _ from hl3); exact hl4
      | 2, hl => obtain ⟨_, _, hl0⟩ := asB_inv (show _ from hl); obtain ⟨_, _, hl1⟩ := asB_inv (show _ from hl0); exact hl1
      | 3, hl => obtain ⟨_, _, hl0⟩ := asB_inv (show _ from hl); obtain ⟨_, _, hl1⟩ := asI_inv (show _ from hl0); obtain ⟨_, _, hl2⟩ := asI_inv (show _ from hl1); obtain ⟨_, _, hl3⟩ := asI_inv (show _ from hl2); obtain ⟨_, _, hl4⟩ := asI_inv (show _ from hl3); exact hl4
      | 4, hl => obtain ⟨_, _, hl0⟩ := asB_inv (show _ from hl); obtain ⟨_, _, hl1⟩ := asB_inv (show _ from hl0); exact hl1
      | 5, hl => obtain ⟨_, _, hl0⟩ := asB_inv (show _ from hl); obtain ⟨_, _, hl1⟩ := asB_inv (show _ from hl0); obtain ⟨_, _, hl2⟩ := asB_inv (show _ from hl1); exact hl2
      | _ + 6, hl => exact hl)
    (fun n p L hm f h hl => by
      simp only [u92, List.mem_cons, Prod.mk.injEq, List.not_mem_nil, or_false] at hm
      rcases hm with ⟨rfl, rfl⟩ | ⟨rfl, rfl⟩ | ⟨rfl, rfl⟩ | ⟨rfl, rfl⟩ | ⟨rfl, rfl⟩ | ⟨rfl, rfl⟩
      · have hl : f92 (r92 c k (n + 1)) 0 f h := hl
        have hh := e92_0 c k (r92 c k n) f h (f 0)
        rw [fset_self (rfl : f 0 = f 0)] at hh
        exact Eq.mpr hh hl
      · have hl : f92 (r92 c k (n + 1)) 1 f h := hl
        obtain ⟨b_3, e_3, hl2⟩ := asB_inv hl
        obtain ⟨n_7, e_7, hl4⟩ := asI_inv hl2
        obtain ⟨n_8, e_8, hl5⟩ := asI_inv hl4
        obtain ⟨n_87, e_87, hl7⟩ := asI_inv hl5
        obtain ⟨n_88, e_88, hl8⟩ := asI_inv hl7
        have hh := e92_1 c k (r92 c k n) f h (f 0) (f 2) b_3 (f 5) n_7 n_8 (f 86) n_87 n_88
        rw [fset_self (rfl : f 0 = f 0)] at hh
        rw [fset_self (rfl : f 2 = f 2)] at hh
        rw [fset_self e_3] at hh
        rw [fset_self (rfl : f 5 = f 5)] at hh
        rw [fset_self e_7] at hh
        rw [fset_self e_8] at hh
        rw [fset_self (rfl : f 86 = f 86)] at hh
        rw [fset_self e_87] at hh
        rw [fset_self e_88] at hh
        exact Eq.mpr hh hl8
      · have hl : f92 (r92 c k (n + 1)) 2 f h := hl
        obtain ⟨b_3, e_3, hl2⟩ := asB_inv hl
        obtain ⟨b_4, e_4, hl3⟩ := asB_inv hl2
        have hh := e92_2 c k (r92 c k n) f h (f 0) (f 2) b_3 b_4 (f 5)
        rw [fset_self (rfl : f 0 = f 0)] at hh
        rw [fset_self (rfl : f 2 = f 2)] at hh
        rw [fset_self e_3] at hh
        rw [fset_self e_4] at hh
        rw [fset_self (rfl : f 5 = f 5)] at hh
        exact Eq.mpr hh hl3
      · have hl : f92 (r92 c k (n + 1)) 3 f h := hl
        obtain ⟨b_3, e_3, hl2⟩ := asB_inv hl
        obtain ⟨n_7, e_7, hl4⟩ := asI_inv hl2
        obtain ⟨n_8, e_8, hl5⟩ := asI_inv hl4
        obtain ⟨n_87, e_87, hl7⟩ := asI_inv hl5
        obtain ⟨n_88, e_88, hl8⟩ := asI_inv hl7
        have hh := e92_3 c k (r92 c k n) f h (f 0) (f 2) b_3 (f 5) n_7 n_8 (f 86) n_87 n_88
        rw [fset_self (rfl : f 0 = f 0)] at hh
        rw [fset_self (rfl : f 2 = f 2)] at hh
        rw [fset_self e_3] at hh
        rw [fset_self (rfl : f 5 = f 5)] at hh
        rw [fset_self e_7] at hh
        rw [fset_self e_8] at hh
        rw [fset_self (rfl : f 86 = f 86)] at hh
        rw [fset_self e_87] at hh
        rw [fset_self e_88] at hh
        exact Eq.mpr hh hl8
      · have hl : f92 (r92 c k (n + 1)) 4 f h := hl
        obtain ⟨b_3, e_3, hl1⟩ := asB_inv hl
        obtain ⟨b_4, e_4, hl2⟩ := asB_inv hl1
        have hh := e92_4 c k (r92 c k n) f h (f 2) b_3 b_4
        rw [fset_self (rfl : f 2 = f 2)] at hh
        rw [fset_self e_3] at hh
        rw [fset_self e_4] at hh
        exact Eq.mpr hh hl2
      · have hl : f92 (r92 c k (n + 1)) 5 f h := hl
        obtain ⟨b_3, e_3, hl2⟩ := asB_inv hl
        obtain ⟨b_4, e_4, hl3⟩ := asB_inv hl2
        obtain ⟨b_6, e_6, hl5⟩ := asB_inv hl3
        have hh := e92_5 c k (r92 c k n) f h (f 0) (f 2) b_3 b_4 (f 5) b_6
        rw [fset_self (rfl : f 0 = f 0)] at hh
        rw [fset_self (rfl : f 2 = f 2)] at hh
        rw [fset_self e_3] at hh
        rw [fset_self e_4] at hh
        rw [fset_self (rfl : f 5 = f 5)] at hh
        rw [fset_self e_6] at hh
        exact Eq.mpr hh hl5
    ) (by simp [u92]) hg

theorem e95_0 (c : Caller Prop FT) (k : KV) (J : J95) (f : FT) (h : H) (v_0 : AV) (v_1 : AV) : chunkA env c q95 u95 (f95 J) d95 (retA env Go.Proofs.Tryz.f95.results.toList k) .root (fset (fset f 0 v_0) 1 v_1) h = s95_0 c k J v_0 v_1 h := by kernel_rfl
theorem e95_1 (c : Caller Prop FT) (k : KV) (J : J95) (f : FT) (h : H) (v_3 : AV) (v_4 : AV) : chunkA env c q95 u95 (f95 J) d95 (retA env Go.Proofs.Tryz.f95.results.toList k) (.r (.r .root)) (fset (fset f 3 v_3) 4 v_4) h = s95_1 c k J v_3 v_4 h := by kernel_rfl
theorem w95 {c : Caller Prop FT} (hc : CallOk Go.Proofs.Tryz.prog (CP env) G (fun p => p) c) {k : KV} {n : Nat} {args : List AV} {h : H} (hg : f95 (r95 c k n) 0 (finit args) h) : SW Go.Proofs.Tryz.prog G (.func 95) args h k :=
  fn_ok mixed envOk hc q95 Go.Proofs.Tryz.func95 rfl (by kernel_rfl) (by kernel_rfl) k u95 (fun n => f95 (r95 c k n))
    (fun L f h hl => by
      match L, hl with
      | 0, hl => exact hl
      | 1, hl => exact hl
      | _ + 2, hl => exact hl)
    (fun n p L hm f h hl => by
      simp only [u95, List.mem_cons, Prod.mk.injEq, List.not_mem_nil, or_false] at hm
      rcases hm with ⟨rfl, rfl⟩ | ⟨rfl, rfl⟩
      · have hl : f95 (r95 c k (n + 1)) 0 f h := hl
        have hh := e95_0 c k (r95 c k n) f h (f 0) (f 1)
        rw [fset_self (rfl : f 0 = f 0)] at hh
        rw [fset_self (rfl : f 1 = f 1)] at hh
        exact Eq.mpr hh hl
      · have hl : f95 (r95 c k (n + 1)) 1 f h := hl
        have hh := e95_1 c k (r95 c k n) f h (f 3) (f 4)
        rw [fset_self (rfl : f 3 = f 3)] at hh
        rw [fset_self (rfl : f 4 = f 4)] at hh
        exact Eq.mpr hh hl
    ) (by simp [u95]) hg

theorem e96_0 (c : Caller Prop FT) (k : KV) (J : J96) (f : FT) (h : H) (v_0 : AV) (l_1 : Nat) (c_1 : Nat) : chunkA env c q96 u96 (f96 J) d96 (retA env Go.Proofs.Tryz.f96.results.toList k) .root (fset (fset f 0 v_0) 1 (.str l_1 c_1)) h = s96_0 c k J v_0 l_1 c_1 h := by kernel_rfl
theorem w96 {c : Caller Prop FT} (hc : CallOk Go.Proofs.Tryz.prog (CP env) G (fun p => p) c) {k : KV} {n : Nat} {args : List AV} {h : H} (hg : f96 (r96 c k n) 0 (finit args) h) : SW Go.Proofs.Tryz.prog G (.func 96) args h k :=
  fn_ok mixed envOk hc q96 Go.Proofs.Tryz.func96 rfl (by kernel_rfl) (by kernel_rfl) k u96 (fun n => f96 (r96 c k n))
    (fun L f h hl => by
      match L, hl with
      | 0, hl => obtain ⟨_, _, _, hl0⟩ := asS_inv (show _ from hl); exact hl0
      | _ + 1, hl => exact hl)
    (fun n p L hm f h hl => by
      simp only [u96, List.mem_cons, Prod.mk.injEq, List.not_mem_nil, or_false] at hm
      rcases hm with ⟨rfl, rfl⟩
      · have hl : f96 (r96 c k (n + 1)) 0 f h := hl
        obtain ⟨l_1, c_1, e_1, hl1⟩ := asS_inv hl
        have hh := e96_0 c k (r96 c k n) f h (f 0) l_1 c_1
        rw [fset_self (rfl : f 0 = f 0)] at hh
        rw [fset_self e_1] at hh
        exact Eq.mpr hh hl1
    ) (by simp [u96]) hg

theorem e105_0 (c : Caller Prop FT) (k : KV) (J : J105) (f : FT) (h : H) (l_0 : Nat) (c_0 : Nat) (l_1 : Nat) (c_1 : Nat) : chunkA env c q105 u105 (f105 J) d105 (retA env Go.Proofs.Tryz.f105.results.toList k) .root (fset (fset f 0 (.str l_0 c_0)) 1 (.str l_1 c_1)) h = s105_0 c k J l_0 c_0 l_1 c_1 h := by kernel_rfl
theorem w105 {c : Caller Prop FT} (hc : CallOk Go.Proofs.Tryz.prog (CP env) G (fun p => p) c) {k : KV} {n : Nat} {args : List AV} {h : H} (hg : f105 (r105 c k n) 0 (finit args) h) : SW Go.Proofs.Tryz.prog G (.func 105) args h k :=
  fn_ok mixed envOk hc q105 Go.Proofs.Tryz.func105 rfl (by kernel_rfl) (by kernel_rfl) k u105 (fun n => f105 (r105 c k n))
    (fun L f h hl => by
      match L, hl with
      | 0, hl => obtain ⟨_, _, _, hl0⟩ := asS_inv (show _ from hl); obtain ⟨_, _, _, hl1⟩ := asS_inv (show _ from hl0); exact hl1
      | _ + 1, hl => exact hl)
    (fun n p L hm f h hl => by
      simp only [u105, List.mem_cons, Prod.mk.injEq, List.not_mem_nil, or_false] at hm
      rcases hm with ⟨rfl, rfl⟩
      · have hl : f105 (r105 c k (n + 1)) 0 f h := hl
        obtain ⟨l_0, c_0, e_0, hl0⟩ := asS_inv hl
        obtain ⟨l_1, c_1, e_1, hl1⟩ := asS_inv hl0
        have hh := e105_0 c k (r105 c k n) f h l_0 c_0 l_1 c_1
        rw [fset_self e_0] at hh
        rw [fset_self e_1] at hh
        exact Eq.mpr hh hl1
    ) (by simp [u105]) hg

theorem e108_0 (c : Caller Prop FT) (k : KV) (J : J108) (f : FT) (h : H) (v_0 : AV) : chunkA env c q108 u108 (f108 J) d108 (retA env Go.Proofs.Tryz.f108.results.toList k) .root (fset f 0 v_0) h = s108_0 c k J v_0 h := by kernel_rfl
theorem w108 {c : Caller Prop FT} (hc : CallOk Go.Proofs.Tryz.prog (CP env) G (fun p => p) c) {k : KV} {n : Nat} {args : List AV} {h : H} (hg : f108 (r108 c k n) 0 (finit args) h) : SW Go.Proofs.Tryz.prog G (.func 108) args h k :=
  fn_ok mixed envOk hc q108 Go.Proofs.Tryz.func108 rfl (by kernel_rfl) (by kernel_rfl) k u108 (fun n => f108 (r108 c k n))
    (fun L f h hl => by
      match L, hl with
      | 0, hl => exact hl
      | _ + 1, hl => exact hl)
    (fun n p L hm f h hl => by
      simp only [u108, List.mem_cons, Prod.mk.injEq, List.not_mem_nil, or_false] at hm
      rcases hm with ⟨rfl, rfl⟩
      · have hl : f108 (r108 c k (n + 1)) 0 f h := hl
        have hh := e108_0 c k (r108 c k n) f h (f 0)
        rw [fset_self (rfl : f 0 = f 0)] at hh
        exact Eq.mpr hh hl
    ) (by simp [u108]) hg

theorem e109_0 (c : Caller Prop FT) (k : KV) (J : J109) (f : FT) (h : H) (v_0 : AV) (l_1 : Nat) (c_1 : Nat) : chunkA env c q109 u109 (f109 J) d109 (retA env Go.Proofs.Tryz.f109.results.toList k) .root (fset (fset f 0 v_0) 1 (.str l_1 c_1)) h = s109_0 c k J v_0 l_1 c_1 h := by kernel_rfl
theorem w109 {c : Caller Prop FT} (hc : CallOk Go.Proofs.Tryz.prog (CP env) G (fun p => p) c) {k : KV} {n : Nat} {args : List AV} {h : H} (hg : f109 (r109 c k n) 0 (finit args) h) : SW Go.Proofs.Tryz.prog G (.func 109) args h k :=
  fn_ok mixed envOk hc q109 Go.Proofs.Tryz.func109 rfl (by kernel_rfl) (by kernel_rfl) k u109 (fun n => f109 (r109 c k n))
    (fun L f h hl => by
      match L, hl with
      | 0, hl => obtain ⟨_, _, _, hl0⟩ := asS_inv (show _ from hl); exact hl0
      | _ + 1, hl => exact hl)
    (fun n p L hm f h hl => by
      simp only [u109, List.mem_cons, Prod.mk.injEq, List.not_mem_nil, or_false] at hm
      rcases hm with ⟨rfl, rfl⟩
      · have hl : f109 (r109 c k (n + 1)) 0 f h := hl
        obtain ⟨l_1, c_1, e_1, hl1⟩ := asS_inv hl
        have hh := e109_0 c k (r109 c k n) f h (f 0) l_1 c_1
        rw [fset_self (rfl : f 0 = f 0)] at hh
        rw [fset_self e_1] at hh
        exact Eq.mpr hh hl1
    ) (by simp [u109]) hg

theorem e125_0 (c : Caller Prop FT) (k : KV) (J : J125) (f : FT) (h : H) (v_0 : AV) : chunkA env c q125 u125 (f125 J) d125 (retA env Go.Proofs.Tryz.f125.results.toList k) .root (fset f 0 v_0) h = s125_0 c k J v_0 h := by kernel_rfl
theorem e125_1 (c : Caller Prop FT) (k : KV) (J : J125) (f : FT) (h : H) (v_0 : AV) : chunkA env c q125 u125 (f125 J) d125 (retA env Go.Proofs.Tryz.f125.results.toList k) (.l (.l (.l (.r (.l (.l (.r (.r .root)))))))) (fset f 0 v_0) h = s125_1 c k J v_0 h := by kernel_rfl
theorem e125_2 (c : Caller Prop FT) (k : KV) (J : J125) (f : FT) (h : H) (v_0 : AV) (n_4 : Int) : chunkA env c q125 u125 (f125 J) d125 (retA env Go.Proofs.Tryz.f125.results.toList k) (.l (.r (.l (.r (.r (.r .root)))))) (fset (fset f 0 v_0) 4 (.int .i64 n_4)) h = s125_2 c k J v_0 n_4 h := by kernel_rfl
theorem w125 {c : Caller Prop FT} (hc : CallOk Go.Proofs.Tryz.prog (CP env) G (fun p => p) c) {k : KV} {n : Nat} {args : List AV} {h : H} (hg : f125 (r125 c k n) 0 (finit args) h) : SW Go.Proofs.Tryz.prog G (.func 125) args h k :=
  fn_ok mixed envOk hc q125 Go.Proofs.Tryz.func125 rfl (by kernel_rfl) (by kernel_rfl) k u125 (fun n => f125 (r125 c k n))
    (fun L f h hl => by
      match L, hl with
      | 0, hl => exact hl
      | 1, hl => exact hl
      | 2, hl => obtain ⟨_, _, hl0⟩ := asI_inv (show _ from hl); exact hl0
      | _ + 3, hl => exact hl)
    (fun n p L hm f h hl => by
      simp only [u125, List.mem_cons, Prod.mk.injEq, List.not_mem_nil, or_false] at hm
      rcases hm with ⟨rfl, rfl⟩ | ⟨rfl, rfl⟩ | ⟨rfl, rfl⟩
      · have hl : f125 (r125 c k (n + 1)) 0 f h := hl
        have hh := e125_0 c k (r125 c k n) f h (f 0)
        rw [fset_self (rfl : f 0 = f 0)] at hh
        exact Eq.mpr hh hl
      · have hl : f125 (r125 c k (n + 1)) 1 f h := hl
        have hh := e125_1 c k (r125 c k n) f h (f 0)
        rw [fset_self (rfl : f 0 = f 0)] at hh
        exact Eq.mpr hh hl
      · have hl : f125 (r125 c k (n + 1)) 2 f h := hl
        obtain ⟨n_4, e_4, hl1⟩ := asI_inv hl
        have hh := e125_2 c k (r125 c k n) f h (f 0) n_4
        rw [fset_self (rfl : f 0 = f 0)] at hh
        rw [fset_self e_4] at hh
        exact Eq.mpr hh hl1
    ) (by simp [u125]) hg

theorem e127_0 (c : Caller Prop FT) (k : KV) (J : J127) (f : FT) (h : H) (v_0 : AV) (n_1 : Int) (n_2 : Int) : chunkA env c q127 u127 (f127 J) d127 (retA env Go.Proofs.Tryz.f127.results.toList k) .root (fset (fset (fset f 0 v_0) 1 (.int .i64 n_1)) 2 (.int .i64 n_2)) h = s127_0 c k J v_0 n_1 n_2 h := by kernel_rfl
theorem w127 {c : Caller Prop FT} (hc : CallOk Go.Proofs.Tryz.prog (CP env) G (fun p => p) c) {k : KV} {n : Nat} {args : List AV} {h : H} (hg : f127 (r127 c k n) 0 (finit args) h) : SW Go.Proofs.Tryz.prog G (.func 127) args h k :=
  fn_ok mixed envOk hc q127 Go.Proofs.Tryz.func127 rfl (by kernel_rfl) (by kernel_rfl) k u127 (fun n => f127 (r127 c k n))
    (fun L f h hl => by
      match L, hl with
      | 0, hl => obtain ⟨_, _, hl0⟩ := asI_inv (show _ from hl); obtain ⟨_, _, hl1⟩ := asI_inv (show _ from hl0); exact hl1
      | _ + 1, hl => exact hl)
    (fun n p L hm f h hl => by
      simp only [u127, List.mem_cons, Prod.mk.injEq, List.not_mem_nil, or_false] at hm
      rcases hm with ⟨rfl, rfl⟩
      · have hl : f127 (r127 c k (n + 1)) 0 f h := hl
        obtain ⟨n_1, e_1, hl1⟩ := asI_inv hl
        obtain ⟨n_2, e_2, hl2⟩ := asI_inv hl1
        have hh := e127_0 c k (r127 c k n) f h (f 0) n_1 n_2
        rw [fset_self (rfl : f 0 = f 0)] at hh
        rw [fset_self e_1] at hh
        rw [fset_self e_2] at hh
        exact Eq.mpr hh hl2
    ) (by simp [u127]) hg

theorem e128_0 (c : Caller Prop FT) (k : KV) (J : J128) (f : FT) (h : H) (v_0 : AV) (l_1 : Nat) (c_1 : Nat) : chunkA env c q128 u128 (f128 J) d128 (retA env Go.Proofs.Tryz.f128.results.toList k) .root (fset (fset f 0 v_0) 1 (.str l_1 c_1)) h = s128_0 c k J v_0 l_1 c_1 h := by kernel_rfl
theorem e128_1 (c : Caller Prop FT) (k : KV) (J : J128) (f : FT) (h : H) (v_0 : AV) (l_1 : Nat) (c_1 : Nat) (n_6 : Int) (n_7 : Int) (n_8 : Int) : chunkA env c q128 u128 (f128 J) d128 (retA env Go.Proofs.Tryz.f128.results.toList k) (.l (.l (.r (.r (.r .root))))) (fset (fset (fset (fset (fset f 0 v_0) 1 (.str l_1 c_1)) 6 (.int .i64 n_6)) 7 (.int .i64 n_7)) 8 (.int .i64 n_8)) h = s128_1 c k J v_0 l_1 c_1 n_6 n_7 n_8 h := by kernel_rfl
theorem w128 {c : Caller Prop FT} (hc : CallOk Go.Proofs.Tryz.prog (CP env) G (fun p => p) c) {k : KV} {n : Nat} {args : List AV} {h : H} (hg : f128 (r128 c k n) 0 (finit args) h) : SW Go.Proofs.Tryz.prog G (.func 128) args h k :=
  fn_ok mixed envOk hc q128 Go.Proofs.Tryz.func128 rfl (by kernel_rfl) (by kernel_rfl) k u128 (fun n => f128 (r128 c k n))
    (fun L f h hl => by
      match L, hl with
      | 0, hl => obtain ⟨_, _, _, hl0⟩ := asS_inv (show _ from hl); exact hl0
      | 1, hl => obtain ⟨_, _, _, hl0⟩ := asS_inv (show _ from hl); obtain ⟨_, _, hl1⟩ := asI_inv (show _ from hl0); obtain ⟨_, _, hl2⟩ := asI_inv (show _ from hl1); obtain ⟨_, _, hl3⟩ := asI_inv (show _ from hl2); exact hl3
      | _ + 2, hl => exact hl)
    (fun n p L hm f h hl => by
      simp only [u128, List.mem_cons, Prod.mk.injEq, List.not_mem_nil, or_false] at hm
      rcases hm with ⟨rfl, rfl⟩ | ⟨rfl, rfl⟩
      · have hl : f128 (r128 c k (n + 1)) 0 f h := hl
        obtain ⟨l_1, c_1, e_1, hl1⟩ := asS_inv hl
        have hh := e128_0 c k (r128 c k n) f h (f 0) l_1 c_1
        rw [fset_self (rfl : f 0 = f 0)] at hh
        rw [fset_self e_1] at hh
        exact Eq.mpr hh hl1
      · have hl : f128 (r128 c k (n + 1)) 1 f h := hl
        obtain ⟨l_1, c_1, e_1, hl1⟩ := asS_inv hl
        obtain ⟨n_6, e_6, hl2⟩ := asI_inv hl1
        obtain ⟨n_7, e_7, hl3⟩ := asI_inv hl2
        obtain ⟨n_8, e_8, hl4⟩ := asI_inv hl3
        have hh := e128_1 c k (r128 c k n) f h (f 0) l_1 c_1 n_6 n_7 n_8
        rw [fset_self (rfl : f 0 = f 0)] at hh
        rw [fset_self e_1] at hh
        rw [fset_self e_6] at hh
        rw [fset_self e_7] at hh
        rw [fset_self e_8] at hh
        exact Eq.mpr hh hl4
    ) (by simp [u128]) hg

theorem e129_0 (c : Caller Prop FT) (k : KV) (J : J129) (f : FT) (h : H) (v_0 : AV) (n_1 : Int) (v_2 : AV) : chunkA env c q129 u129 (f129 J) d129 (retA env Go.Proofs.Tryz.f129.results.toList k) .root (fset (fset (fset f 0 v_0) 1 (.int .i64 n_1)) 2 v_2) h = s129_0 c k J v_0 n_1 v_2 h := by kernel_rfl
theorem e129_1 (c : Caller Prop FT) (k : KV) (J : J129) (f : FT) (h : H) (v_0 : AV) : chunkA env c q129 u129 (f129 J) d129 (retA env Go.Proofs.Tryz.f129.results.toList k) (.r (.r .root)) (fset f 0 v_0) h = s129_1 c k J v_0 h := by kernel_rfl
theorem w129 {c : Caller Prop FT} (hc : CallOk Go.Proofs.Tryz.prog (CP env) G (fun p => p) c) {k : KV} {n : Nat} {args : List AV} {h : H} (hg : f129 (r129 c k n) 0 (finit args) h) : SW Go.Proofs.Tryz.prog G (.func 129) args h k :=
  fn_ok mixed envOk hc q129 Go.Proofs.Tryz.func129 rfl (by kernel_rfl) (by kernel_rfl) k u129 (fun n => f129 (r129 c k n))
    (fun L f h hl => by
      match L, hl with
      | 0, hl => obtain ⟨_, _, hl0⟩ := asI_inv (show _ from hl); exact hl0
      | 1, hl => exact hl
      | _ + 2, hl => exact hl)
    (fun n p L hm f h hl => by
      simp only [u129, List.mem_cons, Prod.mk.injEq, List.not_mem_nil, or_false] at hm
      rcases hm with ⟨rfl, rfl⟩ | ⟨rfl, rfl⟩
      · have hl : f129 (r129 c k (n + 1)) 0 f h := hl
        obtain ⟨n_1, e_1, hl1⟩ := asI_inv hl
        have hh := e129_0 c k (r129 c k n) f h (f 0) n_1 (f 2)
        rw [fset_self (rfl : f 0 = f 0)] at hh
        rw [fset_self e_1] at hh
        rw [fset_self (rfl : f 2 = f 2)] at hh
        exact Eq.mpr hh hl1
      · have hl : f129 (r129 c k (n + 1)) 1 f h := hl
        have hh := e129_1 c k (r129 c k n) f h (f 0)
        rw [fset_self (rfl : f 0 = f 0)] at hh
        exact Eq.mpr hh hl
    ) (by simp [u129]) hg

theorem e134_0 (c : Caller Prop FT) (k : KV) (J : J134) (f : FT) (h : H) (n_0 : Int) (v_1 : AV) : chunkA env c q134 u134 (f134 J) d134 (retA env Go.Proofs.Tryz.f134.results.toList k) .root (fset (fset f 0 (.int .i64 n_0)) 1 v_1) h = s134_0 c k J n_0 v_1 h := by kernel_rfl
theorem w134 {c : Caller Prop FT} (hc : CallOk Go.Proofs.Tryz.prog (CP env) G (fun p => p) c) {k : KV} {n : Nat} {args : List AV} {h : H} (hg : f134 (r134 c k n) 0 (finit args) h) : SW Go.Proofs.Tryz.prog G (.func 134) args h k :=
  fn_ok mixed envOk hc q134 Go.Proofs.Tryz.func134 rfl (by kernel_rfl) (by kernel_rfl) k u134 (fun n => f134 (r134 c k n))
    (fun L f h hl => by
      match L, hl with
      | 0, hl => obtain ⟨_, _, hl0⟩ := asI_inv (show _ from hl); exact hl0
      | _ + 1, hl => exact hl)
    (fun n p L hm f h hl => by
      simp only [u134, List.mem_cons, Prod.mk.injEq, List.not_mem_nil, or_false] at hm
      rcases hm with ⟨rfl, rfl⟩
      · have hl : f134 (r134 c k (n + 1)) 0 f h := hl
        obtain ⟨n_0, e_0, hl0⟩ := asI_inv hl
        have hh := e134_0 c k (r134 c k n) f h n_0 (f 1)
        rw [fset_self e_0] at hh
        rw [fset_self (rfl : f 1 = f 1)] at hh
        exact Eq.mpr hh hl0
    ) (by simp [u134]) hg

theorem w139 {c : Caller Prop FT} (hc : CallOk Go.Proofs.Tryz.prog (CP env) G (fun p => p) c) {k : KV} {m : Nat} {a : List AV} {h : H} (hg : runJ env c q139 u139 d139 (retA env Go.Proofs.Tryz.f139.results.toList k) m 0 (finit a) h) : SW Go.Proofs.Tryz.prog G (.func 139) a h k := fnI_ok mixed envOk hc q139 Go.Proofs.Tryz.func139 rfl (by kernel_rfl) (by kernel_rfl) (by kernel_rfl) (by simp [u139]) hg
theorem w142 {c : Caller Prop FT} (hc : CallOk Go.Proofs.Tryz.prog (CP env) G (fun p => p) c) {k : KV} {m : Nat} {a : List AV} {h : H} (hg : runJ env c q142 u142 d142 (retA env Go.Proofs.Tryz.f142.results.toList k) m 0 (finit a) h) : SW Go.Proofs.Tryz.prog G (.func 142) a h k := fnI_ok mixed envOk hc q142 Go.Proofs.Tryz.func142 rfl (by kernel_rfl) (by kernel_rfl) (by kernel_rfl) (by simp [u142]) hg
theorem w145 {c : Caller Prop FT} (hc : CallOk Go.Proofs.Tryz.prog (CP env) G (fun p => p) c) {k : KV} {m : Nat} {a : List AV} {h : H} (hg : runJ env c q145 u145 d145 (retA env Go.Proofs.Tryz.f145.results.toList k) m 0 (finit a) h) : SW Go.Proofs.Tryz.prog G (.func 145) a h k := fnI_ok mixed envOk hc q145 Go.Proofs.Tryz.func145 rfl (by kernel_rfl) (by kernel_rfl) (by kernel_rfl) (by simp [u145]) hg
theorem e152_0 (c : Caller Prop FT) (k : KV) (J : J152) (f : FT) (h : H) (v_0 : AV) (v_1 : AV) : chunkA env c q152 u152 (f152 J) d152 (retA env Go.Proofs.Tryz.f152.results.toList k) .root (fset (fset f 0 v_0) 1 v_1) h = s152_0 c k J v_0 v_1 h := by kernel_rfl
theorem w152 {c : Caller Prop FT} (hc : CallOk Go.Proofs.Tryz.prog (CP env) G (fun p => p) c) {k : KV} {n : Nat} {args : List AV} {h : H} (hg : f152 (r152 c k n) 0 (finit args) h) : SW Go.Proofs.Tryz.prog G (.func 152) args h k :=
  fn_ok mixed envOk hc q152 Go.Proofs.Tryz.func152 rfl (by kernel_rfl) (by kernel_rfl) k u152 (fun n => f152 (r152 c k n))
    (fun L f h hl => by
      match L, hl with
      | 0, hl => exact hl
      | _ + 1, hl => exact hl)
    (fun n p L hm f h hl => by
      simp only [u152, List.mem_cons, Prod.mk.injEq, List.not_mem_nil, or_false] at hm
      rcases hm with ⟨rfl, rfl⟩
      · have hl : f152 (r152 c k (n + 1)) 0 f h := hl
        have hh := e152_0 c k (r152 c k n) f h (f 0) (f 1)
        rw [fset_self (rfl : f 0 = f 0)] at hh
        rw [fset_self (rfl : f 1 = f 1)] at hh
        exact Eq.mpr hh hl
    ) (by simp [u152]) hg

theorem e153_0 (c : Caller Prop FT) (k : KV) (J : J153) (f : FT) (h : H) (v_0 : AV) : chunkA env c q153 u153 (f153 J) d153 (retA env Go.Proofs.Tryz.f153.results.toList k) .root (fset f 0 v_0) h = s153_0 c k J v_0 h := by kernel_rfl
theorem e153_1 (c : Caller Prop FT) (k : KV) (J : J153) (f : FT) (h : H) (v_0 : AV) (v_7 : AV) (n_8 : Int) (n_9 : Int) : chunkA env c q153 u153 (f153 J) d153 (retA env Go.Proofs.Tryz.f153.results.toList k) (.l (.r (.r .root))) (fset (fset (fset (fset f 0 v_0) 7 v_7) 8 (.int .i64 n_8)) 9 (.int .i64 n_9)) h = s153_1 c k J v_0 v_7 n_8 n_9 h := by kernel_rfl
theorem w153 {c : Caller Prop FT} (hc : CallOk Go.Proofs.Tryz.prog (CP env) G (fun p => p) c) {k : KV} {n : Nat} {args : List AV} {h : H} (hg : f153 (r153 c k n) 0 (finit args) h) : SW Go.Proofs.Tryz.prog G (.func 153) args h k :=
  fn_ok mixed envOk hc q153 Go.Proofs.Tryz.func153 rfl (by kernel_rfl) (by kernel_rfl) k u153 (fun n => f153 (r153 c k n))
    (fun L f h hl => by
      match L, hl with
      | 0, hl => exact hl
      | 1, hl => obtain ⟨_, _, hl0⟩ := asI_inv (show _ from hl); obtain ⟨_, _, hl1⟩ := asI_inv (show _ from hl0); exact hl1
      | _ + 2, hl => exact hl)
    (fun n p L hm f h hl => by
      simp only [u153, List.mem_cons, Prod.mk.injEq, List.not_mem_nil, or_false] at hm
      rcases hm with ⟨rfl, rfl⟩ | ⟨rfl, rfl⟩
      · have hl : f153 (r153 c k (n + 1)) 0 f h := hl
        have hh := e153_0 c k (r153 c k n) f h (f 0)
        rw [fset_self (rfl : f 0 = f 0)] at hh
        exact Eq.mpr hh hl
      · have hl : f153 (r153 c k (n + 1)) 1 f h := hl
        obtain ⟨n_8, e_8, hl2⟩ := asI_inv hl
        obtain ⟨n_9, e_9, hl3⟩ := asI_inv hl2
        have hh := e153_1 c k (r153 c k n) f h (f 0) (f 7) n_8 n_9
        rw [fset_self (rfl : f 0 = f 0)] at hh
        rw [fset_self (rfl : f 7 = f 7)] at hh
        rw [fset_self e_8] at hh
        rw [fset_self e_9] at hh
        exact Eq.mpr hh hl3
    ) (by simp [u153]) hg

theorem e154_0 (c : Caller Prop FT) (k : KV) (J : J154) (f : FT) (h : H) : chunkA env c q154 u154 (f154 J) d154 (retA env Go.Proofs.Tryz.f154.results.toList k) .root f h = s154_0 c k J  h := by kernel_rfl
theorem w154 {c : Caller Prop FT} (hc : CallOk Go.Proofs.Tryz.prog (CP env) G (fun p => p) c) {k : KV} {n : Nat} {args : List AV} {h : H} (hg : f154 (r154 c k n) 0 (finit args) h) : SW Go.Proofs.Tryz.prog G (.func 154) args h k :=
  fn_ok mixed envOk hc q154 Go.Proofs.Tryz.func154 rfl (by kernel_rfl) (by kernel_rfl) k u154 (fun n => f154 (r154 c k n))
    (fun L f h hl => by
      match L, hl with
      | 0, hl => exact hl
      | _ + 1, hl => exact hl)
    (fun n p L hm f h hl => by
      simp only [u154, List.mem_cons, Prod.mk.injEq, List.not_mem_nil, or_false] at hm
      rcases hm with ⟨rfl, rfl⟩
      · have hl : f154 (r154 c k (n + 1)) 0 f h := hl
        have hh := e154_0 c k (r154 c k n) f h 
        exact Eq.mpr hh hl
    ) (by simp [u154]) hg

theorem w156 {c : Caller Prop FT} (hc : CallOk Go.Proofs.Tryz.prog (CP env) G (fun p => p) c) {k : KV} {m : Nat} {a : List AV} {h : H} (hg : runJ env c q156 u156 d156 (retA env Go.Proofs.Tryz.f156.results.toList k) m 0 (finit a) h) : SW Go.Proofs.Tryz.prog G (.func 156) a h k := fnI_ok mixed envOk hc q156 Go.Proofs.Tryz.func156 rfl (by kernel_rfl) (by kernel_rfl) (by kernel_rfl) (by simp [u156]) hg
theorem e158_0 (c : Caller Prop FT) (k : KV) (J : J158) (f : FT) (h : H) (v_0 : AV) : chunkA env c q158 u158 (f158 J) d158 (retA env Go.Proofs.Tryz.f158.results.toList k) .root (fset f 0 v_0) h = s158_0 c k J v_0 h := by kernel_rfl
theorem e158_1 (c : Caller Prop FT) (k : KV) (J : J158) (f : FT) (h : H) (v_0 : AV) (v_2 : AV) (v_3 : AV) (v_14 : AV) (n_15 : Int) (n_16 : Int) : chunkA env c q158 u158 (f158 J) d158 (retA env Go.Proofs.Tryz.f158.results.toList k) (.l (.r (.l (.r .root)))) (fset (fset (fset (fset (fset (fset f 0 v_0) 2 v_2) 3 v_3) 14 v_14) 15 (.int .i64 n_15)) 16 (.int .i64 n_16)) h = s158_1 c k J v_0 v_2 v_3 v_14 n_15 n_16 h := by kernel_rfl
theorem e158_2 (c : Caller Prop FT) (k : KV) (J : J158) (f : FT) (h : H) (v_0 : AV) (v_2 : AV) (v_3 : AV) (v_5 : AV) (v_14 : AV) (n_15 : Int) (n_16 : Int) : chunkA env c q158 u158 (f158 J) d158 (retA env Go.Proofs.Tryz.f158.results.toList k) (.r (.r (.l (.l (.r (.r (.l (.l (.r (.l (.r .root))))))))))) (fset (fset (fset (fset (fset (fset (fset f 0 v_0) 2 v_2) 3 v_3) 5 v_5) 14 v_14) 15 (.int .i64 n_15)) 16 (.int .i64 n_16)) h = s158_2 c k J v_0 v_2 v_3 v_5 v_14 n_15 n_16 h := by kernel_rfl
theorem w158 {c : Caller Prop FT} (hc : CallOk Go.Proofs.Tryz.prog (CP env) G (fun p => p) c) {k : KV} {n : Nat} {args : List AV} {h : H} (hg : f158 (r158 c k n) 0 (finit args) h) : SW Go.Proofs.Tryz.prog G (.func 158) args h k :=
  fn_ok mixed envOk hc q158 Go.Proofs.Tryz.func158 rfl (by kernel_rfl) (by kernel_rfl) k u158 (fun n => f158 (r158 c k n))
    (fun L f h hl => by
      match L, hl with
      | 0, hl => exact hl
      | 1, hl => obtain ⟨_, _, hl0⟩ := asI_inv (show _ from hl); obtain ⟨_, _, hl1⟩ := asI_inv (show _ from hl0); exact hl1
      | 2, hl => obtain ⟨_, _, hl0⟩ := asI_inv (show _ from hl); obtain ⟨_, _, hl1⟩ := asI_inv (show _ from hl0); exact hl1
      | _ + 3, hl => exact hl)
    (fun n p L hm f h hl => by
      simp only [u158, List.mem_cons, Prod.mk.injEq, List.not_mem_nil, or_false] at hm
      rcases hm with ⟨rfl, rfl⟩ | ⟨rfl, rfl⟩ | ⟨rfl, rfl⟩
      · have hl : f158 (r158 c k (n + 1)) 0 f h := hl
        have hh := e158_0 c k (r158 c k n) f h (f 0)
        rw [fset_self (rfl : f 0 = f 0)] at hh
        exact Eq.mpr hh hl
      · have hl : f158 (r158 c k (n + 1)) 1 f h := hl
        obtain ⟨n_15, e_15, hl4⟩ := asI_inv hl
        obtain ⟨n_16, e_16, hl5⟩ := asI_inv hl4
        have hh := e158_1 c k (r158 c k n) f h (f 0) (f 2) (f 3) (f 14) n_15 n_16
        rw [fset_self (rfl : f 0 = f 0)] at hh
        rw [fset_self (rfl : f 2 = f 2)] at hh
        rw [fset_self (rfl : f 3 = f 3)] at hh
        rw [fset_self (rfl : f 14 = f 14)] at hh
        rw [fset_self e_15] at hh
        rw [fset_self e_16] at hh
        exact Eq.mpr hh hl5
      · have hl : f158 (r158 c k (n + 1)) 2 f h := hl
        obtain ⟨n_15, e_15, hl5⟩ := asI_inv hl
        obtain ⟨n_16, e_16, hl6⟩ := asI_inv hl5
        have hh := e158_2 c k (r158 c k n) f h (f 0) (f 2) (f 3) (f 5) (f 14) n_15 n_16
        rw [fset_self (rfl : f 0 = f 0)] at hh
        rw [fset_self (rfl : f 2 = f 2)] at hh
        rw [fset_self (rfl : f 3 = f 3)] at hh
        rw [fset_self (rfl : f 5 = f 5)] at hh
        rw [fset_self (rfl : f 14 = f 14)] at hh
        rw [fset_self e_15] at hh
        rw [fset_self e_16] at hh
        exact Eq.mpr hh hl6
    ) (by simp [u158]) hg

theorem e170_0 (c : Caller Prop FT) (k : KV) (J : J170) (f : FT) (h : H) (v_0 : AV) (l_1 : Nat) (c_1 : Nat) : chunkA env c q170 u170 (f170 J) d170 (retA env Go.Proofs.Tryz.f170.results.toList k) .root (fset (fset f 0 v_0) 1 (.str l_1 c_1)) h = s170_0 c k J v_0 l_1 c_1 h := by kernel_rfl
theorem e170_1 (c : Caller Prop FT) (k : KV) (J : J170) (f : FT) (h : H) (v_0 : AV) (l_1 : Nat) (c_1 : Nat) (n_20 : Int) (n_21 : Int) : chunkA env c q170 u170 (f170 J) d170 (retA env Go.Proofs.Tryz.f170.results.toList k) (.l (.r (.l (.r (.r .root))))) (fset (fset (fset (fset f 0 v_0) 1 (.str l_1 c_1)) 20 (.int .i64 n_20)) 21 (.int .i64 n_21)) h = s170_1 c k J v_0 l_1 c_1 n_20 n_21 h := by kernel_rfl
theorem w170 {c : Caller Prop FT} (hc : CallOk Go.Proofs.Tryz.prog (CP env) G (fun p => p) c) {k : KV} {n : Nat} {args : List AV} {h : H} (hg : f170 (r170 c k n) 0 (finit args) h) : SW Go.Proofs.Tryz.prog G (.func 170) args h k :=
  fn_ok mixed envOk hc q170 Go.Proofs.Tryz.func170 rfl (by kernel_rfl) (by kernel_rfl) k u170 (fun n => f170 (r170 c k n))
    (fun L f h hl => by
      match L, hl with
      | 0, hl => obtain ⟨_, _, _, hl0⟩ := asS_inv (show _ from hl); exact hl0
      | 1, hl => obtain ⟨_, _, _, hl0⟩ := asS_inv (show _ from hl); obtain ⟨_, _, hl1⟩ := asI_inv (show _ from hl0); obtain ⟨_, _, hl2⟩ := asI_inv (show _ from hl1); exact hl2
      | _ + 2, hl => exact hl)
    (fun n p L hm f h hl => by
      simp only [u170, List.mem_cons, Prod.mk.injEq, List.not_mem_nil, or_false] at hm
      rcases hm with ⟨rfl, rfl⟩ | ⟨rfl, rfl⟩
      · have hl : f170 (r170 c k (n + 1)) 0 f h := hl
        obtain ⟨l_1, c_1, e_1, hl1⟩ := asS_inv hl
        have hh := e170_0 c k (r170 c k n) f h (f 0) l_1 c_1
        rw [fset_self (rfl : f 0 = f 0)] at hh
        rw [fset_self e_1] at hh
        exact Eq.mpr hh hl1
      · have hl : f170 (r170 c k (n + 1)) 1 f h := hl
        obtain ⟨l_1, c_1, e_1, hl1⟩ := asS_inv hl
        obtain ⟨n_20, e_20, hl2⟩ := asI_inv hl1
        obtain ⟨n_21, e_21, hl3⟩ := asI_inv hl2
        have hh := e170_1 c k (r170 c k n) f h (f 0) l_1 c_1 n_20 n_21
        rw [fset_self (rfl : f 0 = f 0)] at hh
        rw [fset_self e_1] at hh
        rw [fset_self e_20] at hh
        rw [fset_self e_21] at hh
        exact Eq.mpr hh hl3
    ) (by simp [u170]) hg

theorem e172_0 (c : Caller Prop FT) (k : KV) (J : J172) (f : FT) (h : H) (n_0 : Int) : chunkA env c q172 u172 (f172 J) d172 (retA env Go.Proofs.Tryz.f172.results.toList k) .root (fset f 0 (.int .u8 n_0)) h = s172_0 c k J n_0 h := by kernel_rfl
theorem w172 {c : Caller Prop FT} (hc : CallOk Go.Proofs.Tryz.prog (CP env) G (fun p => p) c) {k : KV} {n : Nat} {args : List AV} {h : H} (hg : f172 (r172 c k n) 0 (finit args) h) : SW Go.Proofs.Tryz.prog G (.func 172) args h k :=
  fn_ok mixed envOk hc q172 Go.Proofs.Tryz.func172 rfl (by kernel_rfl) (by kernel_rfl) k u172 (fun n => f172 (r172 c k n))
    (fun L f h hl => by
      match L, hl with
      | 0, hl => obtain ⟨_, _, hl0⟩ := asI_inv (show _ from hl); exact hl0
      | _ + 1, hl => exact hl)
    (fun n p L hm f h hl => by
      simp only [u172, List.mem_cons, Prod.mk.injEq, List.not_mem_nil, or_false] at hm
      rcases hm with ⟨rfl, rfl⟩
      · have hl : f172 (r172 c k (n + 1)) 0 f h := hl
        obtain ⟨n_0, e_0, hl0⟩ := asI_inv hl
        have hh := e172_0 c k (r172 c k n) f h n_0
        rw [fset_self e_0] at hh
        exact Eq.mpr hh hl0
    ) (by simp [u172]) hg

theorem e175_0 (c : Caller Prop FT) (k : KV) (J : J175) (f : FT) (h : H) (v_0 : AV) : chunkA env c q175 u175 (f175 J) d175 (retA env Go.Proofs.Tryz.f175.results.toList k) .root (fset f 0 v_0) h = s175_0 c k J v_0 h := by kernel_rfl
theorem e175_1 (c : Caller Prop FT) (k : KV) (J : J175) (f : FT) (h : H) (v_0 : AV) (n_3 : Int) : chunkA env c q175 u175 (f175 J) d175 (retA env Go.Proofs.Tryz.f175.results.toList k) (.l (.r (.r (.r (.r (.r .root)))))) (fset (fset f 0 v_0) 3 (.int .i64 n_3)) h = s175_1 c k J v_0 n_3 h := by kernel_rfl
theorem e175_2 (c : Caller Prop FT) (k : KV) (J : J175) (f : FT) (h : H) (v_0 : AV) (n_3 : Int) : chunkA env c q175 u175 (f175 J) d175 (retA env Go.Proofs.Tryz.f175.results.toList k) (.r (.l (.l (.r (.r (.r (.r (.r .root)))))))) (fset (fset f 0 v_0) 3 (.int .i64 n_3)) h = s175_2 c k J v_0 n_3 h := by kernel_rfl
theorem e175_3 (c : Caller Prop FT) (k : KV) (J : J175) (f : FT) (h : H) (v_0 : AV) (n_3 : Int) : chunkA env c q175 u175 (f175 J) d175 (retA env Go.Proofs.Tryz.f175.results.toList k) (.r (.r (.r .root))) (fset (fset f 0 v_0) 3 (.int .i64 n_3)) h = s175_3 c k J v_0 n_3 h := by kernel_rfl
theorem w175 {c : Caller Prop FT} (hc : CallOk Go.Proofs.Tryz.prog (CP env) G (fun p => p) c) {k : KV} {n : Nat} {args : List AV} {h : H} (hg : f175 (r175 c k n) 0 (finit args) h) : SW Go.Proofs.Tryz.prog G (.func 175) args h k :=
  fn_ok mixed envOk hc q175 Go.Proofs.Tryz.func175 rfl (by kernel_rfl) (by kernel_rfl) k u175 (fun n => f175 (r175 c k n))
    (fun L f h hl => by
      match L, hl with
      | 0, hl => exact hl
      | 1, hl => obtain ⟨_, _, hl0⟩ := asI_inv (show _ from hl); exact hl0
      | 2, hl => obtain ⟨_, _, hl0⟩ := asI_inv (show _ from hl); exact hl0
      | 3, hl => obtain ⟨_, _, hl0⟩ := asI_inv (show _ from hl); exact hl0
      | _ + 4, hl => exact hl)
    (fun n p L hm f h hl => by
      simp only [u175, List.mem_cons, Prod.mk.injEq, List.not_mem_nil, or_false] at hm
      rcases hm with ⟨rfl, rfl⟩ | ⟨rfl, rfl⟩ | ⟨rfl, rfl⟩ | ⟨rfl, rfl⟩
      · have hl : f175 (r175 c k (n + 1)) 0 f h := hl
        have hh := e175_0 c k (r175 c k n) f h (f 0)
        rw [fset_self (rfl : f 0 = f 0)] at hh
        exact Eq.mpr hh hl
      · have hl : f175 (r175 c k (n + 1)) 1 f h := hl
        obtain ⟨n_3, e_3, hl1⟩ := asI_inv hl
        have hh := e175_1 c k (r175 c k n) f h (f 0) n_3
        rw [fset_self (rfl : f 0 = f 0)] at hh
        rw [fset_self e_3] at hh
        exact Eq.mpr hh hl1
      · have hl : f175 (r175 c k (n + 1)) 2 f h := hl
        obtain ⟨n_3, e_3, hl1⟩ := asI_inv hl
        have hh := e175_2 c k (r175 c k n) f h (f 0) n_3
        rw [fset_self (rfl : f 0 = f 0)] at hh
        rw [fset_self e_3] at hh
        exact Eq.mpr hh hl1
      · have hl : f175 (r175 c k (n + 1)) 3 f h := hl
        obtain ⟨n_3, e_3, hl1⟩ := asI_inv hl
        have hh := e175_3 c k (r175 c k n) f h (f 0) n_3
        rw [fset_self (rfl : f 0 = f 0)] at hh
        rw [fset_self e_3] at hh
        exact Eq.mpr hh hl1
    ) (by simp [u175]) hg

theorem e176_0 (c : Caller Prop FT) (k : KV) (J : J176) (f : FT) (h : H) (v_0 : AV) : chunkA env c q176 u176 (f176 J) d176 (retA env Go.Proofs.Tryz.f176.results.toList k) .root (fset f 0 v_0) h = s176_0 c k J v_0 h := by kernel_rfl
theorem e176_1 (c : Caller Prop FT) (k : KV) (J : J176) (f : FT) (h : H) (v_0 : AV) (v_8 : AV) (n_9 : Int) (n_10 : Int) : chunkA env c q176 u176 (f176 J) d176 (retA env Go.Proofs.Tryz.f176.results.toList k) (.l (.r (.l (.r (.r .root))))) (fset (fset (fset (fset f 0 v_0) 8 v_8) 9 (.int .i64 n_9)) 10 (.int .i64 n_10)) h = s176_1 c k J v_0 v_8 n_9 n_10 h := by kernel_rfl
theorem w176 {c : Caller Prop FT} (hc : CallOk Go.Proofs.Tryz.prog (CP env) G (fun p => p) c) {k : KV} {n : Nat} {args : List AV} {h : H} (hg : f176 (r176 c k n) 0 (finit args) h) : SW Go.Proofs.Tryz.prog G (.func 176) args h k :=
  fn_ok mixed envOk hc q176 Go.Proofs.Tryz.func176 rfl (by kernel_rfl) (by kernel_rfl) k u176 (fun n => f176 (r176 c k n))
    (fun L f h hl => by
      match L, hl with
      | 0, hl => exact hl
      | 1, hl => obtain ⟨_, _, hl0⟩ := asI_inv (show _ from hl); obtain ⟨_, _, hl1⟩ := asI_inv (show _ from hl0); exact hl1
      | _ + 2, hl => exact hl)
    (fun n p L hm f h hl => by
      simp only [u176, List.mem_cons, Prod.mk.injEq, List.not_mem_nil, or_false] at hm
      rcases hm with ⟨rfl, rfl⟩ | ⟨rfl, rfl⟩
      · have hl : f176 (r176 c k (n + 1)) 0 f h := hl
        have hh := e176_0 c k (r176 c k n) f h (f 0)
        rw [fset_self (rfl : f 0 = f 0)] at hh
        exact Eq.mpr hh hl
      · have hl : f176 (r176 c k (n + 1)) 1 f h := hl
        obtain ⟨n_9, e_9, hl2⟩ := asI_inv hl
        obtain ⟨n_10, e_10, hl3⟩ := asI_inv hl2
        have hh := e176_1 c k (r176 c k n) f h (f 0) (f 8) n_9 n_10
        rw [fset_self (rfl : f 0 = f 0)] at hh
        rw [fset_self (rfl : f 8 = f 8)] at hh
        rw [fset_self e_9] at hh
        rw [fset_self e_10] at hh
        exact Eq.mpr hh hl3
    ) (by simp [u176]) hg

theorem w182 {c : Caller Prop FT} (hc : CallOk Go.Proofs.Tryz.prog (CP env) G (fun p => p) c) {k : KV} {m : Nat} {a : List AV} {h : H} (hg : runJ env c q182 u182 d182 (retA env Go.Proofs.Tryz.f182.results.toList k) m 0 (finit a) h) : SW Go.Proofs.Tryz.prog G (.func 182) a h k := fnI_ok mixed envOk hc q182 Go.Proofs.Tryz.func182 rfl (by kernel_rfl) (by kernel_rfl) (by kernel_rfl) (by simp [u182]) hg
theorem w185 {c : Caller Prop FT} (hc : CallOk Go.Proofs.Tryz.prog (CP env) G (fun p => p) c) {k : KV} {m : Nat} {a : List AV} {h : H} (hg : runJ env c q185 u185 d185 (retA env Go.Proofs.Tryz.f185.results.toList k) m 0 (finit a) h) : SW Go.Proofs.Tryz.prog G (.func 185) a h k := fnI_ok mixed envOk hc q185 Go.Proofs.Tryz.func185 rfl (by kernel_rfl) (by kernel_rfl) (by kernel_rfl) (by simp [u185]) hg
theorem w188 {c : Caller Prop FT} (hc : CallOk Go.Proofs.Tryz.prog (CP env) G (fun p => p) c) {k : KV} {m : Nat} {a : List AV} {h : H} (hg : runJ env c q188 u188 d188 (retA env Go.Proofs.Tryz.f188.results.toList k) m 0 (finit a) h) : SW Go.Proofs.Tryz.prog G (.func 188) a h k := fnI_ok mixed envOk hc q188 Go.Proofs.Tryz.func188 rfl (by kernel_rfl) (by kernel_rfl) (by kernel_rfl) (by simp [u188]) hg
theorem e192_0 (c : Caller Prop FT) (k : KV) (J : J192) (f : FT) (h : H) (l_0 : Nat) (c_0 : Nat) (l_1 : Nat) (c_1 : Nat) : chunkA env c q192 u192 (f192 J) d192 (retA env Go.Proofs.Tryz.f192.results.toList k) .root (fset (fset f 0 (.str l_0 c_0)) 1 (.str l_1 c_1)) h = s192_0 c k J l_0 c_0 l_1 c_1 h := by kernel_rfl
theorem w192 {c : Caller Prop FT} (hc : CallOk Go.Proofs.Tryz.prog (CP env) G (fun p => p) c) {k : KV} {n : Nat} {args : List AV} {h : H} (hg : f192 (r192 c k n) 0 (finit args) h) : SW Go.Proofs.Tryz.prog G (.func 192) args h k :=
  fn_ok mixed envOk hc q192 Go.Proofs.Tryz.func192 rfl (by kernel_rfl) (by kernel_rfl) k u192 (fun n => f192 (r192 c k n))
    (fun L f h hl => by
      match L, hl with
      | 0, hl => obtain ⟨_, _, _, hl0⟩ := asS_inv (show _ from hl); obtain ⟨_, _, _, hl1⟩ := asS_inv (show _ from hl0); exact hl1
      | _ + 1, hl => exact hl)
    (fun n p L hm f h hl => by
      simp only [u192, List.mem_cons, Prod.mk.injEq, List.not_mem_nil, or_false] at hm
      rcases hm with ⟨rfl, rfl⟩
      · have hl : f192 (r192 c k (n + 1)) 0 f h := hl
        obtain ⟨l_0, c_0, e_0, hl0⟩ := asS_inv hl
        obtain ⟨l_1, c_1, e_1, hl1⟩ := asS_inv hl0
        have hh := e192_0 c k (r192 c k n) f h l_0 c_0 l_1 c_1
        rw [fset_self e_0] at hh
        rw [fset_self e_1] at hh
        exact Eq.mpr hh hl1
    ) (by simp [u192]) hg

theorem e194_0 (c : Caller Prop FT) (k : KV) (J : J194) (f : FT) (h : H) (l_0 : Nat) (c_0 : Nat) (n_1 : Int) : chunkA env c q194 u194 (f194 J) d194 (retA env Go.Proofs.Tryz.f194.results.toList k) .root (fset (fset f 0 (.str l_0 c_0)) 1 (.int .u8 n_1)) h = s194_0 c k J l_0 c_0 n_1 h := by kernel_rfl
theorem w194 {c : Caller Prop FT} (hc : CallOk Go.Proofs.Tryz.prog (CP env) G (fun p => p) c) {k : KV} {n : Nat} {args : List AV} {h : H} (hg : f194 (r194 c k n) 0 (finit args) h) : SW Go.Proofs.Tryz.prog G (.func 194) args h k :=
  fn_ok mixed envOk hc q194 Go.Proofs.Tryz.func194 rfl (by kernel_rfl) (by kernel_rfl) k u194 (fun n => f194 (r194 c k n))
    (fun L f h hl => by
      match L, hl with
      | 0, hl => obtain ⟨_, _, _, hl0⟩ := asS_inv (show _ from hl); obtain ⟨_, _, hl1⟩ := asI_inv (show _ from hl0); exact hl1
      | _ + 1, hl => exact hl)
    (fun n p L hm f h hl => by
      simp only [u194, List.mem_cons, Prod.mk.injEq, List.not_mem_nil, or_false] at hm
      rcases hm with ⟨rfl, rfl⟩
      · have hl : f194 (r194 c k (n + 1)) 0 f h := hl
        obtain ⟨l_0, c_0, e_0, hl0⟩ := asS_inv hl
        obtain ⟨n_1, e_1, hl1⟩ := asI_inv hl0
        have hh := e194_0 c k (r194 c k n) f h l_0 c_0 n_1
        rw [fset_self e_0] at hh
        rw [fset_self e_1] at hh
        exact Eq.mpr hh hl1
    ) (by simp [u194]) hg

theorem w200 {c : Caller Prop FT} (hc : CallOk Go.Proofs.Tryz.prog (CP env) G (fun p => p) c) {k : KV} {m : Nat} {a : List AV} {h : H} (hg : runJ env c q200 u200 d200 (retA env Go.Proofs.Tryz.f200.results.toList k) m 0 (finit a) h) : SW Go.Proofs.Tryz.prog G (.func 200) a h k := fnI_ok mixed envOk hc q200 Go.Proofs.Tryz.func200 rfl (by kernel_rfl) (by kernel_rfl) (by kernel_rfl) (by simp [u200]) hg
theorem w203 {c : Caller Prop FT} (hc : CallOk Go.Proofs.Tryz.prog (CP env) G (fun p => p) c) {k : KV} {m : Nat} {a : List AV} {h : H} (hg : runJ env c q203 u203 d203 (retA env Go.Proofs.Tryz.f203.results.toList k) m 0 (finit a) h) : SW Go.Proofs.Tryz.prog G (.func 203) a h k := fnI_ok mixed envOk hc q203 Go.Proofs.Tryz.func203 rfl (by kernel_rfl) (by kernel_rfl) (by kernel_rfl) (by simp [u203]) hg
theorem e208_0 (c : Caller Prop FT) (k : KV) (J : J208) (f : FT) (h : H) (l_0 : Nat) (c_0 : Nat) : chunkA env c q208 u208 (f208 J) d208 (retA env Go.Proofs.Tryz.f208.results.toList k) .root (fset f 0 (.str l_0 c_0)) h = s208_0 c k J l_0 c_0 h := by kernel_rfl
theorem w208 {c : Caller Prop FT} (hc : CallOk Go.Proofs.Tryz.prog (CP env) G (fun p => p) c) {k : KV} {n : Nat} {args : List AV} {h : H} (hg : f208 (r208 c k n) 0 (finit args) h) : SW Go.Proofs.Tryz.prog G (.func 208) args h k :=
  fn_ok mixed envOk hc q208 Go.Proofs.Tryz.func208 rfl (by kernel_rfl) (by kernel_rfl) k u208 (fun n => f208 (r208 c k n))
    (fun L f h hl => by
      match L, hl with
      | 0, hl => obtain ⟨_, _, _, hl0⟩ := asS_inv (show _ from hl); exact hl0
      | _ + 1, hl => exact hl)
    (fun n p L hm f h hl => by
      simp only [u208, List.mem_cons, Prod.mk.injEq, List.not_mem_nil, or_false] at hm
      rcases hm with ⟨rfl, rfl⟩
      · have hl : f208 (r208 c k (n + 1)) 0 f h := hl
        obtain ⟨l_0, c_0, e_0, hl0⟩ := asS_inv hl
        have hh := e208_0 c k (r208 c k n) f h l_0 c_0
        rw [fset_self e_0] at hh
        exact Eq.mpr hh hl0
    ) (by simp [u208]) hg

theorem e221_0 (c : Caller Prop FT) (k : KV) (J : J221) (f : FT) (h : H) (v_0 : AV) : chunkA env c q221 u221 (f221 J) d221 (retA env Go.Proofs.Tryz.f221.results.toList k) .root (fset f 0 v_0) h = s221_0 c k J v_0 h := by kernel_rfl
theorem w221 {c : Caller Prop FT} (hc : CallOk Go.Proofs.Tryz.prog (CP env) G (fun p => p) c) {k : KV} {n : Nat} {args : List AV} {h : H} (hg : f221 (r221 c k n) 0 (finit args) h) : SW Go.Proofs.Tryz.prog G (.func 221) args h k :=
  fn_ok mixed envOk hc q221 Go.Proofs.Tryz.func221 rfl (by kernel_rfl) (by kernel_rfl) k u221 (fun n => f221 (r221 c k n))
    (fun L f h hl => by
      match L, hl with
      | 0, hl => exact hl
      | _ + 1, hl => exact hl)
    (fun n p L hm f h hl => by
      simp only [u221, List.mem_cons, Prod.mk.injEq, List.not_mem_nil, or_false] at hm
      rcases hm with ⟨rfl, rfl⟩
      · have hl : f221 (r221 c k (n + 1)) 0 f h := hl
        have hh := e221_0 c k (r221 c k n) f h (f 0)
        rw [fset_self (rfl : f 0 = f 0)] at hh
        exact Eq.mpr hh hl
    ) (by simp [u221]) hg

theorem w222 {c : Caller Prop FT} (hc : CallOk Go.Proofs.Tryz.prog (CP env) G (fun p => p) c) {k : KV} {m : Nat} {a : List AV} {h : H} (hg : runJ env c q222 u222 d222 (retA env Go.Proofs.Tryz.f222.results.toList k) m 0 (finit a) h) : SW Go.Proofs.Tryz.prog G (.func 222) a h k := fnI_ok mixed envOk hc q222 Go.Proofs.Tryz.func222 rfl (by kernel_rfl) (by kernel_rfl) (by kernel_rfl) (by simp [u222]) hg
theorem w236 {c : Caller Prop FT} (hc : CallOk Go.Proofs.Tryz.prog (CP env) G (fun p => p) c) {k : KV} {m : Nat} {a : List AV} {h : H} (hg : runJ env c q236 u236 d236 (retA env Go.Proofs.Tryz.f236.results.toList k) m 0 (finit a) h) : SW Go.Proofs.Tryz.prog G (.func 236) a h k := fnI_ok mixed envOk hc q236 Go.Proofs.Tryz.func236 rfl (by kernel_rfl) (by kernel_rfl) (by kernel_rfl) (by simp [u236]) hg
theorem e255_0 (c : Caller Prop FT) (k : KV) (J : J255) (f : FT) (h : H) (v_0 : AV) : chunkA env c q255 u255 (f255 J) d255 (retA env Go.Proofs.Tryz.f255.results.toList k) .root (fset f 0 v_0) h = s255_0 c k J v_0 h := by kernel_rfl
theorem w255 {c : Caller Prop FT} (hc : CallOk Go.Proofs.Tryz.prog (CP env) G (fun p => p) c) {k : KV} {n : Nat} {args : List AV} {h : H} (hg : f255 (r255 c k n) 0 (finit args) h) : SW Go.Proofs.Tryz.prog G (.func 255) args h k :=
  fn_ok mixed envOk hc q255 Go.Proofs.Tryz.func255 rfl (by kernel_rfl) (by kernel_rfl) k u255 (fun n => f255 (r255 c k n))
    (fun L f h hl => by
      match L, hl with
      | 0, hl => exact hl
      | _ + 1, hl => exact hl)
    (fun n p L hm f h hl => by
      simp only [u255, List.mem_cons, Prod.mk.injEq, List.not_mem_nil, or_false] at hm
      rcases hm with ⟨rfl, rfl⟩
      · have hl : f255 (r255 c k (n + 1)) 0 f h := hl
        have hh := e255_0 c k (r255 c k n) f h (f 0)
        rw [fset_self (rfl : f 0 = f 0)] at hh
        exact Eq.mpr hh hl
    ) (by simp [u255]) hg

theorem e256_0 (c : Caller Prop FT) (k : KV) (J : J256) (f : FT) (h : H) (v_0 : AV) : chunkA env c q256 u256 (f256 J) d256 (retA env Go.Proofs.Tryz.f256.results.toList k) .root (fset f 0 v_0) h = s256_0 c k J v_0 h := by kernel_rfl
theorem e256_1 (c : Caller Prop FT) (k : KV) (J : J256) (f : FT) (h : H) (v_0 : AV) : chunkA env c q256 u256 (f256 J) d256 (retA env Go.Proofs.Tryz.f256.results.toList k) (.r .root) (fset f 0 v_0) h = s256_1 c k J v_0 h := by kernel_rfl
theorem w256 {c : Caller Prop FT} (hc : CallOk Go.Proofs.Tryz.prog (CP env) G (fun p => p) c) {k : KV} {n : Nat} {args : List AV} {h : H} (hg : f256 (r256 c k n) 0 (finit args) h) : SW Go.Proofs.Tryz.prog G (.func 256) args h k :=
  fn_ok mixed envOk hc q256 Go.Proofs.Tryz.func256 rfl (by kernel_rfl) (by kernel_rfl) k u256 (fun n => f256 (r256 c k n))
    (fun L f h hl => by
      match L, hl with
      | 0, hl => exact hl
      | 1, hl => exact hl
      | _ + 2, hl => exact hl)
    (fun n p L hm f h hl => by
      simp only [u256, List.mem_cons, Prod.mk.injEq, List.not_mem_nil, or_false] at hm
      rcases hm with ⟨rfl, rfl⟩ | ⟨rfl, rfl⟩
      · have hl : f256 (r256 c k (n + 1)) 0 f h := hl
        have hh := e256_0 c k (r256 c k n) f h (f 0)
        rw [fset_self (rfl : f 0 = f 0)] at hh
        exact Eq.mpr hh hl
      · have hl : f256 (r256 c k (n + 1)) 1 f h := hl
        have hh := e256_1 c k (r256 c k n) f h (f 0)
        rw [fset_self (rfl : f 0 = f 0)] at hh
        exact Eq.mpr hh hl
    ) (by simp [u256]) hg

theorem w259 {c : Caller Prop FT} (hc : CallOk Go.Proofs.Tryz.prog (CP env) G (fun p => p) c) {k : KV} {m : Nat} {a : List AV} {h : H} (hg : runJ env c q259 u259 d259 (retA env Go.Proofs.Tryz.f259.results.toList k) m 0 (finit a) h) : SW Go.Proofs.Tryz.prog G (.func 259) a h k := fnI_ok mixed envOk hc q259 Go.Proofs.Tryz.func259 rfl (by kernel_rfl) (by kernel_rfl) (by kernel_rfl) (by simp [u259]) hg
theorem w262 {c : Caller Prop FT} (hc : CallOk Go.Proofs.Tryz.prog (CP env) G (fun p => p) c) {k : KV} {m : Nat} {a : List AV} {h : H} (hg : runJ env c q262 u262 d262 (retA env Go.Proofs.Tryz.f262.results.toList k) m 0 (finit a) h) : SW Go.Proofs.Tryz.prog G (.func 262) a h k := fnI_ok mixed envOk hc q262 Go.Proofs.Tryz.func262 rfl (by kernel_rfl) (by kernel_rfl) (by kernel_rfl) (by simp [u262]) hg
theorem w287 {c : Caller Prop FT} (hc : CallOk Go.Proofs.Tryz.prog (CP env) G (fun p => p) c) {k : KV} {m : Nat} {a : List AV} {h : H} (hg : runJ env c q287 u287 d287 (retA env Go.Proofs.Tryz.f287.results.toList k) m 0 (finit a) h) : SW Go.Proofs.Tryz.prog G (.func 287) a h k := fnI_ok mixed envOk hc q287 Go.Proofs.Tryz.func287 rfl (by kernel_rfl) (by kernel_rfl) (by kernel_rfl) (by simp [u287]) hg
theorem w290 {c : Caller Prop FT} (hc : CallOk Go.Proofs.Tryz.prog (CP env) G (fun p => p) c) {k : KV} {m : Nat} {a : List AV} {h : H} (hg : runJ env c q290 u290 d290 (retA env Go.Proofs.Tryz.f290.results.toList k) m 0 (finit a) h) : SW Go.Proofs.Tryz.prog G (.func 290) a h k := fnI_ok mixed envOk hc q290 Go.Proofs.Tryz.func290 rfl (by kernel_rfl) (by kernel_rfl) (by kernel_rfl) (by simp [u290]) hg
theorem w294 {c : Caller Prop FT} (hc : CallOk Go.Proofs.Tryz.prog (CP env) G (fun p => p) c) {k : KV} {m : Nat} {a : List AV} {h : H} (hg : runJ env c q294 u294 d294 (retA env Go.Proofs.Tryz.f294.results.toList k) m 0 (finit a) h) : SW Go.Proofs.Tryz.prog G (.func 294) a h k := fnI_ok mixed envOk hc q294 Go.Proofs.Tryz.func294 rfl (by kernel_rfl) (by kernel_rfl) (by kernel_rfl) (by simp [u294]) hg
theorem w299 {c : Caller Prop FT} (hc : CallOk Go.Proofs.Tryz.prog (CP env) G (fun p => p) c) {k : KV} {m : Nat} {a : List AV} {h : H} (hg : runJ env c q299 u299 d299 (retA env Go.Proofs.Tryz.f299.results.toList k) m 0 (finit a) h) : SW Go.Proofs.Tryz.prog G (.func 299) a h k := fnI_ok mixed envOk hc q299 Go.Proofs.Tryz.func299 rfl (by kernel_rfl) (by kernel_rfl) (by kernel_rfl) (by simp [u299]) hg
theorem w319 {c : Caller Prop FT} (hc : CallOk Go.Proofs.Tryz.prog (CP env) G (fun p => p) c) {k : KV} {m : Nat} {a : List AV} {h : H} (hg : runJ env c q319 u319 d319 (retA env Go.Proofs.Tryz.f319.results.toList k) m 0 (finit a) h) : SW Go.Proofs.Tryz.prog G (.func 319) a h k := fnI_ok mixed envOk hc q319 Go.Proofs.Tryz.func319 rfl (by kernel_rfl) (by kernel_rfl) (by kernel_rfl) (by simp [u319]) hg
theorem w324 {c : Caller Prop FT} (hc : CallOk Go.Proofs.Tryz.prog (CP env) G (fun p => p) c) {k : KV} {m : Nat} {a : List AV} {h : H} (hg : runJ env c q324 u324 d324 (retA env Go.Proofs.Tryz.f324.results.toList k) m 0 (finit a) h) : SW Go.Proofs.Tryz.prog G (.func 324) a h k := fnI_ok mixed envOk hc q324 Go.Proofs.Tryz.func324 rfl (by kernel_rfl) (by kernel_rfl) (by kernel_rfl) (by simp [u324]) hg
theorem w341 {c : Caller Prop FT} (hc : CallOk Go.Proofs.Tryz.prog (CP env) G (fun p => p) c) {k : KV} {m : Nat} {a : List AV} {h : H} (hg : runJ env c q341 u341 d341 (retA env Go.Proofs.Tryz.f341.results.toList k) m 0 (finit a) h) : SW Go.Proofs.Tryz.prog G (.func 341) a h k := fnI_ok mixed envOk hc q341 Go.Proofs.Tryz.func341 rfl (by kernel_rfl) (by kernel_rfl) (by kernel_rfl) (by simp [u341]) hg
theorem w354 {c : Caller Prop FT} (hc : CallOk Go.Proofs.Tryz.prog (CP env) G (fun p => p) c) {k : KV} {m : Nat} {a : List AV} {h : H} (hg : runJ env c q354 u354 d354 (retA env Go.Proofs.Tryz.f354.results.toList k) m 0 (finit a) h) : SW Go.Proofs.Tryz.prog G (.func 354) a h k := fnI_ok mixed envOk hc q354 Go.Proofs.Tryz.func354 rfl (by kernel_rfl) (by kernel_rfl) (by kernel_rfl) (by simp [u354]) hg
end Go.Den
