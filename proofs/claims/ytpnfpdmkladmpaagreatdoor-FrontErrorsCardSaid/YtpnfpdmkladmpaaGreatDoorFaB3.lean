/-
  A part of the proof: the pieces are what the program does.
-/
import Derived.Test.YtpnfpdmkladmpaaGreatDoorFaA1
import Derived.Test.YtpnfpdmkladmpaaGreatDoorFaA2
import Derived.KernelRfl
namespace Go.Den
set_option maxRecDepth 100000
theorem e3_0 (c : Caller Prop FT) (k : KV) (J : J3) (f : FT) (h : H) (n_0 : Int) (n_1 : Int) : chunkA env c q3 u3 (f3 J) d3 (retA env Go.Proofs.Tryz.f3.results.toList k) .root (fset (fset f 0 (.int .i64 n_0)) 1 (.int .i64 n_1)) h = s3_0 c k J n_0 n_1 h := by kernel_rfl
theorem e3_1 (c : Caller Prop FT) (k : KV) (J : J3) (f : FT) (h : H) (n_1 : Int) (v_5 : AV) (v_6 : AV) (n_7 : Int) (l_8 : Nat) (c_8 : Nat) (n_9 : Int) : chunkA env c q3 u3 (f3 J) d3 (retA env Go.Proofs.Tryz.f3.results.toList k) (.l (.r (.l (.r (.r (.r (.r (.r (.r .root))))))))) (fset (fset (fset (fset (fset (fset f 1 (.int .i64 n_1)) 5 v_5) 6 v_6) 7 (.int .i64 n_7)) 8 (.str l_8 c_8)) 9 (.int .i64 n_9)) h = s3_1 c k J n_1 v_5 v_6 n_7 l_8 c_8 n_9 h := by kernel_rfl
theorem e3_2 (c : Caller Prop FT) (k : KV) (J : J3) (f : FT) (h : H) (v_10 : AV) (n_13 : Int) : chunkA env c q3 u3 (f3 J) d3 (retA env Go.Proofs.Tryz.f3.results.toList k) (.r (.r (.r (.r (.r (.r (.r (.r (.r (.r (.r (.r (.r (.r .root)))))))))))))) (fset (fset f 10 v_10) 13 (.int .i64 n_13)) h = s3_2 c k J v_10 n_13 h := by kernel_rfl
theorem e3_3 (c : Caller Prop FT) (k : KV) (J : J3) (f : FT) (h : H) (n_1 : Int) (v_5 : AV) (n_7 : Int) (v_10 : AV) (n_13 : Int) : chunkA env c q3 u3 (f3 J) d3 (retA env Go.Proofs.Tryz.f3.results.toList k) (.r (.r (.r (.r (.r (.r (.r (.r (.r (.r (.r (.r (.r .root))))))))))))) (fset (fset (fset (fset (fset f 1 (.int .i64 n_1)) 5 v_5) 7 (.int .i64 n_7)) 10 v_10) 13 (.int .i64 n_13)) h = s3_3 c k J n_1 v_5 n_7 v_10 n_13 h := by kernel_rfl
theorem e3_4 (c : Caller Prop FT) (k : KV) (J : J3) (f : FT) (h : H) (n_1 : Int) (v_5 : AV) (n_7 : Int) (v_10 : AV) : chunkA env c q3 u3 (f3 J) d3 (retA env Go.Proofs.Tryz.f3.results.toList k) (.r (.r (.r (.r (.r (.r (.r (.r (.r (.r (.r .root))))))))))) (fset (fset (fset (fset f 1 (.int .i64 n_1)) 5 v_5) 7 (.int .i64 n_7)) 10 v_10) h = s3_4 c k J n_1 v_5 n_7 v_10 h := by kernel_rfl
theorem w3 {c : Caller Prop FT} (hc : CallOk Go.Proofs.Tryz.prog (CP env) G (fun p => p) c) {k : KV} {n : Nat} {args : List AV} {h : H} (hg : f3 (r3 c k n) 0 (finit args) h) : SW Go.Proofs.Tryz.prog G (.func 3) args h k :=
  fn_ok mixed envOk hc q3 Go.Proofs.Tryz.func3 rfl (by kernel_rfl) (by kernel_rfl) k u3 (fun n => f3 (r3 c k n))
    (fun L f h hl => by
      match L, hl with
      | 0, hl => obtain ⟨_, _, hl0⟩ := asI_inv (show _ from hl); obtain ⟨_, _, hl1⟩ := asI_inv (show _ from hl0); exact hl1
      | 1, hl => obtain ⟨_, _, hl0⟩ := asI_inv (show _ from hl); obtain ⟨_, _, hl1⟩ := asI_inv (show _ from hl0); obtain ⟨_, _, _, hl2⟩ := asS_inv (show _ from hl1); obtain ⟨_, _, hl3⟩ := asI_inv (show _ from hl2); exact hl3
      | 2, hl => obtain ⟨_, _, hl0⟩ := asI_inv (show _ from hl); exact hl0
      | 3, hl => obtain ⟨_, _, hl0⟩ := asI_inv (show _ from hl); obtain ⟨_, _, hl1⟩ := asI_inv (show _ from hl0); obtain ⟨_, _, hl2⟩ := asI_inv (show _ from hl1); exact hl2
      | 4, hl => obtain ⟨_, _, hl0⟩ := asI_inv (show _ from hl); obtain ⟨_, _, hl1⟩ := asI_inv (show _ from hl0); exact hl1
      | _ + 5, hl => exact hl)
    (fun n p L hm f h hl => by
      simp only [u3, List.mem_cons, Prod.mk.injEq, List.not_mem_nil, or_false] at hm
      rcases hm with ⟨rfl, rfl⟩ | ⟨rfl, rfl⟩ | ⟨rfl, rfl⟩ | ⟨rfl, rfl⟩ | ⟨rfl, rfl⟩
      · have hl : f3 (r3 c k (n + 1)) 0 f h := hl
        obtain ⟨n_0, e_0, hl0⟩ := asI_inv hl
        obtain ⟨n_1, e_1, hl1⟩ := asI_inv hl0
        have hh := e3_0 c k (r3 c k n) f h n_0 n_1
        rw [fset_self e_0] at hh
        rw [fset_self e_1] at hh
        exact Eq.mpr hh hl1
      · have hl : f3 (r3 c k (n + 1)) 1 f h := hl
        obtain ⟨n_1, e_1, hl0⟩ := asI_inv hl
        obtain ⟨n_7, e_7, hl3⟩ := asI_inv hl0
        obtain ⟨l_8, c_8, e_8, hl4⟩ := asS_inv hl3
        obtain ⟨n_9, e_9, hl5⟩ := asI_inv hl4
        have hh := e3_1 c k (r3 c k n) f h n_1 (f 5) (f 6) n_7 l_8 c_8 n_9
        rw [fset_self e_1] at hh
        rw [fset_self (rfl : f 5 = f 5)] at hh
        rw [fset_self (rfl : f 6 = f 6)] at hh
        rw [fset_self e_7] at hh
        rw [fset_self e_8] at hh
        rw [fset_self e_9] at hh
        exact Eq.mpr hh hl5
      · have hl : f3 (r3 c k (n + 1)) 2 f h := hl
        obtain ⟨n_13, e_13, hl1⟩ := asI_inv hl
        have hh := e3_2 c k (r3 c k n) f h (f 10) n_13
        rw [fset_self (rfl : f 10 = f 10)] at hh
        rw [fset_self e_13] at hh
        exact Eq.mpr hh hl1
      · have hl : f3 (r3 c k (n + 1)) 3 f h := hl
        obtain ⟨n_1, e_1, hl0⟩ := asI_inv hl
        obtain ⟨n_7, e_7, hl2⟩ := asI_inv hl0
        obtain ⟨n_13, e_13, hl4⟩ := asI_inv hl2
        have hh := e3_3 c k (r3 c k n) f h n_1 (f 5) n_7 (f 10) n_13
        rw [fset_self e_1] at hh
        rw [fset_self (rfl : f 5 = f 5)] at hh
        rw [fset_self e_7] at hh
        rw [fset_self (rfl : f 10 = f 10)] at hh
        rw [fset_self e_13] at hh
        exact Eq.mpr hh hl4
      · have hl : f3 (r3 c k (n + 1)) 4 f h := hl
        obtain ⟨n_1, e_1, hl0⟩ := asI_inv hl
        obtain ⟨n_7, e_7, hl2⟩ := asI_inv hl0
        have hh := e3_4 c k (r3 c k n) f h n_1 (f 5) n_7 (f 10)
        rw [fset_self e_1] at hh
        rw [fset_self (rfl : f 5 = f 5)] at hh
        rw [fset_self e_7] at hh
        rw [fset_self (rfl : f 10 = f 10)] at hh
        exact Eq.mpr hh hl2
    ) (by simp [u3]) hg

theorem e7_0 (c : Caller Prop FT) (k : KV) (J : J7) (f : FT) (h : H) : chunkA env c q7 u7 (f7 J) d7 (retA env Go.Proofs.Tryz.f7.results.toList k) .root f h = s7_0 c k J  h := by kernel_rfl
theorem w7 {c : Caller Prop FT} (hc : CallOk Go.Proofs.Tryz.prog (CP env) G (fun p => p) c) {k : KV} {n : Nat} {args : List AV} {h : H} (hg : f7 (r7 c k n) 0 (finit args) h) : SW Go.Proofs.Tryz.prog G (.func 7) args h k :=
  fn_ok mixed envOk hc q7 Go.Proofs.Tryz.func7 rfl (by kernel_rfl) (by kernel_rfl) k u7 (fun n => f7 (r7 c k n))
    (fun L f h hl => by
      match L, hl with
      | 0, hl => exact hl
      | _ + 1, hl => exact hl)
    (fun n p L hm f h hl => by
      simp only [u7, List.mem_cons, Prod.mk.injEq, List.not_mem_nil, or_false] at hm
      rcases hm with ⟨rfl, rfl⟩
      · have hl : f7 (r7 c k (n + 1)) 0 f h := hl
        have hh := e7_0 c k (r7 c k n) f h 
        exact Eq.mpr hh hl
    ) (by simp [u7]) hg

theorem e9_0 (c : Caller Prop FT) (k : KV) (J : J9) (f : FT) (h : H) (l_0 : Nat) (c_0 : Nat) : chunkA env c q9 u9 (f9 J) d9 (retA env Go.Proofs.Tryz.f9.results.toList k) .root (fset f 0 (.str l_0 c_0)) h = s9_0 c k J l_0 c_0 h := by kernel_rfl
theorem w9 {c : Caller Prop FT} (hc : CallOk Go.Proofs.Tryz.prog (CP env) G (fun p => p) c) {k : KV} {n : Nat} {args : List AV} {h : H} (hg : f9 (r9 c k n) 0 (finit args) h) : SW Go.Proofs.Tryz.prog G (.func 9) args h k :=
  fn_ok mixed envOk hc q9 Go.Proofs.Tryz.func9 rfl (by kernel_rfl) (by kernel_rfl) k u9 (fun n => f9 (r9 c k n))
    (fun L f h hl => by
      match L, hl with
      | 0, hl => obtain ⟨_, _, _, hl0⟩ := asS_inv (show _ from hl); exact hl0
      | _ + 1, hl => exact hl)
    (fun n p L hm f h hl => by
      simp only [u9, List.mem_cons, Prod.mk.injEq, List.not_mem_nil, or_false] at hm
      rcases hm with ⟨rfl, rfl⟩
      · have hl : f9 (r9 c k (n + 1)) 0 f h := hl
        obtain ⟨l_0, c_0, e_0, hl0⟩ := asS_inv hl
        have hh := e9_0 c k (r9 c k n) f h l_0 c_0
        rw [fset_self e_0] at hh
        exact Eq.mpr hh hl0
    ) (by simp [u9]) hg

theorem w15 {c : Caller Prop FT} (hc : CallOk Go.Proofs.Tryz.prog (CP env) G (fun p => p) c) {k : KV} {m : Nat} {a : List AV} {h : H} (hg : runJ env c q15 u15 d15 (retA env Go.Proofs.Tryz.f15.results.toList k) m 0 (finit a) h) : SW Go.Proofs.Tryz.prog G (.func 15) a h k := fnI_ok mixed envOk hc q15 Go.Proofs.Tryz.func15 rfl (by kernel_rfl) (by kernel_rfl) (by kernel_rfl) (by simp [u15]) hg
theorem w18 {c : Caller Prop FT} (hc : CallOk Go.Proofs.Tryz.prog (CP env) G (fun p => p) c) {k : KV} {m : Nat} {a : List AV} {h : H} (hg : runJ env c q18 u18 d18 (retA env Go.Proofs.Tryz.f18.results.toList k) m 0 (finit a) h) : SW Go.Proofs.Tryz.prog G (.func 18) a h k := fnI_ok mixed envOk hc q18 Go.Proofs.Tryz.func18 rfl (by kernel_rfl) (by kernel_rfl) (by kernel_rfl) (by simp [u18]) hg
theorem e23_0 (c : Caller Prop FT) (k : KV) (J : J23) (f : FT) (h : H) (v_0 : AV) : chunkA env c q23 u23 (f23 J) d23 (retA env Go.Proofs.Tryz.f23.results.toList k) .root (fset f 0 v_0) h = s23_0 c k J v_0 h := by kernel_rfl
theorem w23 {c : Caller Prop FT} (hc : CallOk Go.Proofs.Tryz.prog (CP env) G (fun p => p) c) {k : KV} {n : Nat} {args : List AV} {h : H} (hg : f23 (r23 c k n) 0 (finit args) h) : SW Go.Proofs.Tryz.prog G (.func 23) args h k :=
  fn_ok mixed envOk hc q23 Go.Proofs.Tryz.func23 rfl (by kernel_rfl) (by kernel_rfl) k u23 (fun n => f23 (r23 c k n))
    (fun L f h hl => by
      match L, hl with
      | 0, hl => exact hl
      | _ + 1, hl => exact hl)
    (fun n p L hm f h hl => by
      simp only [u23, List.mem_cons, Prod.mk.injEq, List.not_mem_nil, or_false] at hm
      rcases hm with ⟨rfl, rfl⟩
      · have hl : f23 (r23 c k (n + 1)) 0 f h := hl
        have hh := e23_0 c k (r23 c k n) f h (f 0)
        rw [fset_self (rfl : f 0 = f 0)] at hh
        exact Eq.mpr hh hl
    ) (by simp [u23]) hg

theorem e25_0 (c : Caller Prop FT) (k : KV) (J : J25) (f : FT) (h : H) (v_0 : AV) (l_1 : Nat) (c_1 : Nat) (l_2 : Nat) (c_2 : Nat) : chunkA env c q25 u25 (f25 J) d25 (retA env Go.Proofs.Tryz.f25.results.toList k) .root (fset (fset (fset f 0 v_0) 1 (.str l_1 c_1)) 2 (.str l_2 c_2)) h = s25_0 c k J v_0 l_1 c_1 l_2 c_2 h := by kernel_rfl
theorem w25 {c : Caller Prop FT} (hc : CallOk Go.Proofs.Tryz.prog (CP env) G (fun p => p) c) {k : KV} {n : Nat} {args : List AV} {h : H} (hg : f25 (r25 c k n) 0 (finit args) h) : SW Go.Proofs.Tryz.prog G (.func 25) args h k :=
  fn_ok mixed envOk hc q25 Go.Proofs.Tryz.func25 rfl (by kernel_rfl) (by kernel_rfl) k u25 (fun n => f25 (r25 c k n))
    (fun L f h hl => by
      match L, hl with
      | 0, hl => obtain ⟨_, _, _, hl0⟩ := asS_inv (show _ from hl); obtain ⟨_, _, _, hl1⟩ := asS_inv (show _ from hl0); exact hl1
      | _ + 1, hl => exact hl)
    (fun n p L hm f h hl => by
      simp only [u25, List.mem_cons, Prod.mk.injEq, List.not_mem_nil, or_false] at hm
      rcases hm with ⟨rfl, rfl⟩
      · have hl : f25 (r25 c k (n + 1)) 0 f h := hl
        obtain ⟨l_1, c_1, e_1, hl1⟩ := asS_inv hl
        obtain ⟨l_2, c_2, e_2, hl2⟩ := asS_inv hl1
        have hh := e25_0 c k (r25 c k n) f h (f 0) l_1 c_1 l_2 c_2
        rw [fset_self (rfl : f 0 = f 0)] at hh
        rw [fset_self e_1] at hh
        rw [fset_self e_2] at hh
        exact Eq.mpr hh hl2
    ) (by simp [u25]) hg

theorem e27_0 (c : Caller Prop FT) (k : KV) (J : J27) (f : FT) (h : H) (l_0 : Nat) (c_0 : Nat) (l_1 : Nat) (c_1 : Nat) : chunkA env c q27 u27 (f27 J) d27 (retA env Go.Proofs.Tryz.f27.results.toList k) .root (fset (fset f 0 (.str l_0 c_0)) 1 (.str l_1 c_1)) h = s27_0 c k J l_0 c_0 l_1 c_1 h := by kernel_rfl
theorem e27_1 (c : Caller Prop FT) (k : KV) (J : J27) (f : FT) (h : H) (l_1 : Nat) (c_1 : Nat) (v_4 : AV) (n_15 : Int) (n_16 : Int) : chunkA env c q27 u27 (f27 J) d27 (retA env Go.Proofs.Tryz.f27.results.toList k) (.l (.r (.l (.r (.r .root))))) (fset (fset (fset (fset f 1 (.str l_1 c_1)) 4 v_4) 15 (.int .i64 n_15)) 16 (.int .i64 n_16)) h = s27_1 c k J l_1 c_1 v_4 n_15 n_16 h := by kernel_rfl
theorem w27 {c : Caller Prop FT} (hc : CallOk Go.Proofs.Tryz.prog (CP env) G (fun p => p) c) {k : KV} {n : Nat} {args : List AV} {h : H} (hg : f27 (r27 c k n) 0 (finit args) h) : SW Go.Proofs.Tryz.prog G (.func 27) args h k :=
  fn_ok mixed envOk hc q27 Go.Proofs.Tryz.func27 rfl (by kernel_rfl) (by kernel_rfl) k u27 (fun n => f27 (r27 c k n))
    (fun L f h hl => by
      match L, hl with
      | 0, hl => obtain ⟨_, _, _, hl0⟩ := asS_inv (show _ from hl); obtain ⟨_, _, _, hl1⟩ := asS_inv (show _ from hl0); exact hl1
      | 1, hl => obtain ⟨_, _, _, hl0⟩ := asS_inv (show _ from hl); obtain ⟨_, _, hl1⟩ := asI_inv (show _ from hl0); obtain ⟨_, _, hl2⟩ := asI_inv (show _ from hl1); exact hl2
      | _ + 2, hl => exact hl)
    (fun n p L hm f h hl => by
      simp only [u27, List.mem_cons, Prod.mk.injEq, List.not_mem_nil, or_false] at hm
      rcases hm with ⟨rfl, rfl⟩ | ⟨rfl, rfl⟩
      · have hl : f27 (r27 c k (n + 1)) 0 f h := hl
        obtain ⟨l_0, c_0, e_0, hl0⟩ := asS_inv hl
        obtain ⟨l_1, c_1, e_1, hl1⟩ := asS_inv hl0
        have hh := e27_0 c k (r27 c k n) f h l_0 c_0 l_1 c_1
        rw [fset_self e_0] at hh
        rw [fset_self e_1] at hh
        exact Eq.mpr hh hl1
      · have hl : f27 (r27 c k (n + 1)) 1 f h := hl
        obtain ⟨l_1, c_1, e_1, hl0⟩ := asS_inv hl
        obtain ⟨n_15, e_15, hl2⟩ := asI_inv hl0
        obtain ⟨n_16, e_16, hl3⟩ := asI_inv hl2
        have hh := e27_1 c k (r27 c k n) f h l_1 c_1 (f 4) n_15 n_16
        rw [fset_self e_1] at hh
        rw [fset_self (rfl : f 4 = f 4)] at hh
        rw [fset_self e_15] at hh
        rw [fset_self e_16] at hh
        exact Eq.mpr hh hl3
    ) (by simp [u27]) hg

theorem w30 {c : Caller Prop FT} (hc : CallOk Go.Proofs.Tryz.prog (CP env) G (fun p => p) c) {k : KV} {m : Nat} {a : List AV} {h : H} (hg : runJ env c q30 u30 d30 (retA env Go.Proofs.Tryz.f30.results.toList k) m 0 (finit a) h) : SW Go.Proofs.Tryz.prog G (.func 30) a h k := fnI_ok mixed envOk hc q30 Go.Proofs.Tryz.func30 rfl (by kernel_rfl) (by kernel_rfl) (by kernel_rfl) (by simp [u30]) hg
theorem e35_0 (c : Caller Prop FT) (k : KV) (J : J35) (f : FT) (h : H) (l_0 : Nat) (c_0 : Nat) : chunkA env c q35 u35 (f35 J) d35 (retA env Go.Proofs.Tryz.f35.results.toList k) .root (fset f 0 (.str l_0 c_0)) h = s35_0 c k J l_0 c_0 h := by kernel_rfl
theorem w35 {c : Caller Prop FT} (hc : CallOk Go.Proofs.Tryz.prog (CP env) G (fun p => p) c) {k : KV} {n : Nat} {args : List AV} {h : H} (hg : f35 (r35 c k n) 0 (finit args) h) : SW Go.Proofs.Tryz.prog G (.func 35) args h k :=
  fn_ok mixed envOk hc q35 Go.Proofs.Tryz.func35 rfl (by kernel_rfl) (by kernel_rfl) k u35 (fun n => f35 (r35 c k n))
    (fun L f h hl => by
      match L, hl with
      | 0, hl => obtain ⟨_, _, _, hl0⟩ := asS_inv (show _ from hl); exact hl0
      | _ + 1, hl => exact hl)
    (fun n p L hm f h hl => by
      simp only [u35, List.mem_cons, Prod.mk.injEq, List.not_mem_nil, or_false] at hm
      rcases hm with ⟨rfl, rfl⟩
      · have hl : f35 (r35 c k (n + 1)) 0 f h := hl
        obtain ⟨l_0, c_0, e_0, hl0⟩ := asS_inv hl
        have hh := e35_0 c k (r35 c k n) f h l_0 c_0
        rw [fset_self e_0] at hh
        exact Eq.mpr hh hl0
    ) (by simp [u35]) hg

theorem e36_0 (c : Caller Prop FT) (k : KV) (J : J36) (f : FT) (h : H) (v_0 : AV) (l_1 : Nat) (c_1 : Nat) (v_2 : AV) (n_3 : Int) : chunkA env c q36 u36 (f36 J) d36 (retA env Go.Proofs.Tryz.f36.results.toList k) .root (fset (fset (fset (fset f 0 v_0) 1 (.str l_1 c_1)) 2 v_2) 3 (.int .i64 n_3)) h = s36_0 c k J v_0 l_1 c_1 v_2 n_3 h := by kernel_rfl
theorem w36 {c : Caller Prop FT} (hc : CallOk Go.Proofs.Tryz.prog (CP env) G (fun p => p) c) {k : KV} {n : Nat} {args : List AV} {h : H} (hg : f36 (r36 c k n) 0 (finit args) h) : SW Go.Proofs.Tryz.prog G (.func 36) args h k :=
  fn_ok mixed envOk hc q36 Go.Proofs.Tryz.func36 rfl (by kernel_rfl) (by kernel_rfl) k u36 (fun n => f36 (r36 c k n))
    (fun L f h hl => by
      match L, hl with
      | 0, hl => obtain ⟨_, _, _, hl0⟩ := asS_inv (show _ from hl); obtain ⟨_, _, hl1⟩ := asI_inv (show _ from hl0); exact hl1
      | _ + 1, hl => exact hl)
    (fun n p L hm f h hl => by
      simp only [u36, List.mem_cons, Prod.mk.injEq, List.not_mem_nil, or_false] at hm
      rcases hm with ⟨rfl, rfl⟩
      · have hl : f36 (r36 c k (n + 1)) 0 f h := hl
        obtain ⟨l_1, c_1, e_1, hl1⟩ := asS_inv hl
        obtain ⟨n_3, e_3, hl3⟩ := asI_inv hl1
        have hh := e36_0 c k (r36 c k n) f h (f 0) l_1 c_1 (f 2) n_3
        rw [fset_self (rfl : f 0 = f 0)] at hh
        rw [fset_self e_1] at hh
        rw [fset_self (rfl : f 2 = f 2)] at hh
        rw [fset_self e_3] at hh
        exact Eq.mpr hh hl3
    ) (by simp [u36]) hg

theorem e37_0 (c : Caller Prop FT) (k : KV) (J : J37) (f : FT) (h : H) (v_0 : AV) (l_1 : Nat) (c_1 : Nat) : chunkA env c q37 u37 (f37 J) d37 (retA env Go.Proofs.Tryz.f37.results.toList k) .root (fset (fset f 0 v_0) 1 (.str l_1 c_1)) h = s37_0 c k J v_0 l_1 c_1 h := by kernel_rfl
theorem e37_1 (c : Caller Prop FT) (k : KV) (J : J37) (f : FT) (h : H) (v_0 : AV) (l_1 : Nat) (c_1 : Nat) (n_6 : Int) : chunkA env c q37 u37 (f37 J) d37 (retA env Go.Proofs.Tryz.f37.results.toList k) (.l (.l (.r (.r .root)))) (fset (fset (fset f 0 v_0) 1 (.str l_1 c_1)) 6 (.int .i64 n_6)) h = s37_1 c k J v_0 l_1 c_1 n_6 h := by kernel_rfl
theorem w37 {c : Caller Prop FT} (hc : CallOk Go.Proofs.Tryz.prog (CP env) G (fun p => p) c) {k : KV} {n : Nat} {args : List AV} {h : H} (hg : f37 (r37 c k n) 0 (finit args) h) : SW Go.Proofs.Tryz.prog G (.func 37) args h k :=
  fn_ok mixed envOk hc q37 Go.Proofs.Tryz.func37 rfl (by kernel_rfl) (by kernel_rfl) k u37 (fun n => f37 (r37 c k n))
    (fun L f h hl => by
      match L, hl with
      | 0, hl => obtain ⟨_, _, _, hl0⟩ := asS_inv (show _ from hl); exact hl0
      | 1, hl => obtain ⟨_, _, _, hl0⟩ := asS_inv (show _ from hl); obtain ⟨_, _, hl1⟩ := asI_inv (show _ from hl0); exact hl1
      | _ + 2, hl => exact hl)
    (fun n p L hm f h hl => by
      simp only [u37, List.mem_cons, Prod.mk.injEq, List.not_mem_nil, or_false] at hm
      rcases hm with ⟨rfl, rfl⟩ | ⟨rfl, rfl⟩
      · have hl : f37 (r37 c k (n + 1)) 0 f h := hl
        obtain ⟨l_1, c_1, e_1, hl1⟩ := asS_inv hl
        have hh := e37_0 c k (r37 c k n) f h (f 0) l_1 c_1
        rw [fset_self (rfl : f 0 = f 0)] at hh
        rw [fset_self e_1] at hh
        exact Eq.mpr hh hl1
      · have hl : f37 (r37 c k (n + 1)) 1 f h := hl
        obtain ⟨l_1, c_1, e_1, hl1⟩ := asS_inv hl
        obtain ⟨n_6, e_6, hl2⟩ := asI_inv hl1
        have hh := e37_1 c k (r37 c k n) f h (f 0) l_1 c_1 n_6
        rw [fset_self (rfl : f 0 = f 0)] at hh
        rw [fset_self e_1] at hh
        rw [fset_self e_6] at hh
        exact Eq.mpr hh hl2
    ) (by simp [u37]) hg

theorem e40_0 (c : Caller Prop FT) (k : KV) (J : J40) (f : FT) (h : H) (v_0 : AV) (l_1 : Nat) (c_1 : Nat) : chunkA env c q40 u40 (f40 J) d40 (retA env Go.Proofs.Tryz.f40.results.toList k) .root (fset (fset f 0 v_0) 1 (.str l_1 c_1)) h = s40_0 c k J v_0 l_1 c_1 h := by kernel_rfl
theorem w40 {c : Caller Prop FT} (hc : CallOk Go.Proofs.Tryz.prog (CP env) G (fun p => p) c) {k : KV} {n : Nat} {args : List AV} {h : H} (hg : f40 (r40 c k n) 0 (finit args) h) : SW Go.Proofs.Tryz.prog G (.func 40) args h k :=
  fn_ok mixed envOk hc q40 Go.Proofs.Tryz.func40 rfl (by kernel_rfl) (by kernel_rfl) k u40 (fun n => f40 (r40 c k n))
    (fun L f h hl => by
      match L, hl with
      | 0, hl => obtain ⟨_, _, _, hl0⟩ := asS_inv (show _ from hl); exact hl0
      | _ + 1, hl => exact hl)
    (fun n p L hm f h hl => by
      simp only [u40, List.mem_cons, Prod.mk.injEq, List.not_mem_nil, or_false] at hm
      rcases hm with ⟨rfl, rfl⟩
      · have hl : f40 (r40 c k (n + 1)) 0 f h := hl
        obtain ⟨l_1, c_1, e_1, hl1⟩ := asS_inv hl
        have hh := e40_0 c k (r40 c k n) f h (f 0) l_1 c_1
        rw [fset_self (rfl : f 0 = f 0)] at hh
        rw [fset_self e_1] at hh
        exact Eq.mpr hh hl1
    ) (by simp [u40]) hg

theorem e45_0 (c : Caller Prop FT) (k : KV) (J : J45) (f : FT) (h : H) (v_0 : AV) : chunkA env c q45 u45 (f45 J) d45 (retA env Go.Proofs.Tryz.f45.results.toList k) .root (fset f 0 v_0) h = s45_0 c k J v_0 h := by kernel_rfl
theorem w45 {c : Caller Prop FT} (hc : CallOk Go.Proofs.Tryz.prog (CP env) G (fun p => p) c) {k : KV} {n : Nat} {args : List AV} {h : H} (hg : f45 (r45 c k n) 0 (finit args) h) : SW Go.Proofs.Tryz.prog G (.func 45) args h k :=
  fn_ok mixed envOk hc q45 Go.Proofs.Tryz.func45 rfl (by kernel_rfl) (by kernel_rfl) k u45 (fun n => f45 (r45 c k n))
    (fun L f h hl => by
      match L, hl with
      | 0, hl => exact hl
      | _ + 1, hl => exact hl)
    (fun n p L hm f h hl => by
      simp only [u45, List.mem_cons, Prod.mk.injEq, List.not_mem_nil, or_false] at hm
      rcases hm with ⟨rfl, rfl⟩
      · have hl : f45 (r45 c k (n + 1)) 0 f h := hl
        have hh := e45_0 c k (r45 c k n) f h (f 0)
        rw [fset_self (rfl : f 0 = f 0)] at hh
        exact Eq.mpr hh hl
    ) (by simp [u45]) hg

theorem e50_0 (c : Caller Prop FT) (k : KV) (J : J50) (f : FT) (h : H) (v_0 : AV) : chunkA env c q50 u50 (f50 J) d50 (retA env Go.Proofs.Tryz.f50.results.toList k) .root (fset f 0 v_0) h = s50_0 c k J v_0 h := by kernel_rfl
theorem w50 {c : Caller Prop FT} (hc : CallOk Go.Proofs.Tryz.prog (CP env) G (fun p => p) c) {k : KV} {n : Nat} {args : List AV} {h : H} (hg : f50 (r50 c k n) 0 (finit args) h) : SW Go.Proofs.Tryz.prog G (.func 50) args h k :=
  fn_ok mixed envOk hc q50 Go.Proofs.Tryz.func50 rfl (by kernel_rfl) (by kernel_rfl) k u50 (fun n => f50 (r50 c k n))
    (fun L f h hl => by
      match L, hl with
      | 0, hl => exact hl
      | _ + 1, hl => exact hl)
    (fun n p L hm f h hl => by
      simp only [u50, List.mem_cons, Prod.mk.injEq, List.not_mem_nil, or_false] at hm
      rcases hm with ⟨rfl, rfl⟩
      · have hl : f50 (r50 c k (n + 1)) 0 f h := hl
        have hh := e50_0 c k (r50 c k n) f h (f 0)
        rw [fset_self (rfl : f 0 = f 0)] at hh
        exact Eq.mpr hh hl
    ) (by simp [u50]) hg

theorem e60_0 (c : Caller Prop FT) (k : KV) (J : J60) (f : FT) (h : H) (l_0 : Nat) (c_0 : Nat) : chunkA env c q60 u60 (f60 J) d60 (retA env Go.Proofs.Tryz.f60.results.toList k) .root (fset f 0 (.str l_0 c_0)) h = s60_0 c k J l_0 c_0 h := by kernel_rfl
theorem e60_1 (c : Caller Prop FT) (k : KV) (J : J60) (f : FT) (h : H) (l_0 : Nat) (c_0 : Nat) (n_3 : Int) : chunkA env c q60 u60 (f60 J) d60 (retA env Go.Proofs.Tryz.f60.results.toList k) (.l (.r (.l (.r .root)))) (fset (fset f 0 (.str l_0 c_0)) 3 (.int .i64 n_3)) h = s60_1 c k J l_0 c_0 n_3 h := by kernel_rfl
theorem w60 {c : Caller Prop FT} (hc : CallOk Go.Proofs.Tryz.prog (CP env) G (fun p => p) c) {k : KV} {n : Nat} {args : List AV} {h : H} (hg : f60 (r60 c k n) 0 (finit args) h) : SW Go.Proofs.Tryz.prog G (.func 60) args h k :=
  fn_ok mixed envOk hc q60 Go.Proofs.Tryz.func60 rfl (by kernel_rfl) (by kernel_rfl) k u60 (fun n => f60 (r60 c k n))
    (fun L f h hl => by
      match L, hl with
      | 0, hl => obtain ⟨_, _, _, hl0⟩ := asS_inv (show _ from hl); exact hl0
      | 1, hl => obtain ⟨_, _, _, hl0⟩ := asS_inv (show _ from hl); obtain ⟨_, _, hl1⟩ := asI_inv (show _ from hl0); exact hl1
      | _ + 2, hl => exact hl)
    (fun n p L hm f h hl => by
      simp only [u60, List.mem_cons, Prod.mk.injEq, List.not_mem_nil, or_false] at hm
      rcases hm with ⟨rfl, rfl⟩ | ⟨rfl, rfl⟩
      · have hl : f60 (r60 c k (n + 1)) 0 f h := hl
        obtain ⟨l_0, c_0, e_0, hl0⟩ := asS_inv hl
        have hh := e60_0 c k (r60 c k n) f h l_0 c_0
        rw [fset_self e_0] at hh
        exact Eq.mpr hh hl0
      · have hl : f60 (r60 c k (n + 1)) 1 f h := hl
        obtain ⟨l_0, c_0, e_0, hl0⟩ := asS_inv hl
        obtain ⟨n_3, e_3, hl1⟩ := asI_inv hl0
        have hh := e60_1 c k (r60 c k n) f h l_0 c_0 n_3
        rw [fset_self e_0] at hh
        rw [fset_self e_3] at hh
        exact Eq.mpr hh hl1
    ) (by simp [u60]) hg

theorem e65_0 (c : Caller Prop FT) (k : KV) (J : J65) (f : FT) (h : H) (v_0 : AV) : chunkA env c q65 u65 (f65 J) d65 (retA env Go.Proofs.Tryz.f65.results.toList k) .root (fset f 0 v_0) h = s65_0 c k J v_0 h := by kernel_rfl
theorem w65 {c : Caller Prop FT} (hc : CallOk Go.Proofs.Tryz.prog (CP env) G (fun p => p) c) {k : KV} {n : Nat} {args : List AV} {h : H} (hg : f65 (r65 c k n) 0 (finit args) h) : SW Go.Proofs.Tryz.prog G (.func 65) args h k :=
  fn_ok mixed envOk hc q65 Go.Proofs.Tryz.func65 rfl (by kernel_rfl) (by kernel_rfl) k u65 (fun n => f65 (r65 c k n))
    (fun L f h hl => by
      match L, hl with
      | 0, hl => exact hl
      | _ + 1, hl => exact hl)
    (fun n p L hm f h hl => by
      simp only [u65, List.mem_cons, Prod.mk.injEq, List.not_mem_nil, or_false] at hm
      rcases hm with ⟨rfl, rfl⟩
      · have hl : f65 (r65 c k (n + 1)) 0 f h := hl
        have hh := e65_0 c k (r65 c k n) f h (f 0)
        rw [fset_self (rfl : f 0 = f 0)] at hh
        exact Eq.mpr hh hl
    ) (by simp [u65]) hg

theorem e67_0 (c : Caller Prop FT) (k : KV) (J : J67) (f : FT) (h : H) (v_0 : AV) (v_1 : AV) : chunkA env c q67 u67 (f67 J) d67 (retA env Go.Proofs.Tryz.f67.results.toList k) .root (fset (fset f 0 v_0) 1 v_1) h = s67_0 c k J v_0 v_1 h := by kernel_rfl
theorem e67_1 (c : Caller Prop FT) (k : KV) (J : J67) (f : FT) (h : H) (v_0 : AV) (v_5 : AV) : chunkA env c q67 u67 (f67 J) d67 (retA env Go.Proofs.Tryz.f67.results.toList k) (.l (.r .root)) (fset (fset f 0 v_0) 5 v_5) h = s67_1 c k J v_0 v_5 h := by kernel_rfl
theorem w67 {c : Caller Prop FT} (hc : CallOk Go.Proofs.Tryz.prog (CP env) G (fun p => p) c) {k : KV} {n : Nat} {args : List AV} {h : H} (hg : f67 (r67 c k n) 0 (finit args) h) : SW Go.Proofs.Tryz.prog G (.func 67) args h k :=
  fn_ok mixed envOk hc q67 Go.Proofs.Tryz.func67 rfl (by kernel_rfl) (by kernel_rfl) k u67 (fun n => f67 (r67 c k n))
    (fun L f h hl => by
      match L, hl with
      | 0, hl => exact hl
      | 1, hl => exact hl
      | _ + 2, hl => exact hl)
    (fun n p L hm f h hl => by
      simp only [u67, List.mem_cons, Prod.mk.injEq, List.not_mem_nil, or_false] at hm
      rcases hm with ⟨rfl, rfl⟩ | ⟨rfl, rfl⟩
      · have hl : f67 (r67 c k (n + 1)) 0 f h := hl
        have hh := e67_0 c k (r67 c k n) f h (f 0) (f 1)
        rw [fset_self (rfl : f 0 = f 0)] at hh
        rw [fset_self (rfl : f 1 = f 1)] at hh
        exact Eq.mpr hh hl
      · have hl : f67 (r67 c k (n + 1)) 1 f h := hl
        have hh := e67_1 c k (r67 c k n) f h (f 0) (f 5)
        rw [fset_self (rfl : f 0 = f 0)] at hh
        rw [fset_self (rfl : f 5 = f 5)] at hh
        exact Eq.mpr hh hl
    ) (by simp [u67]) hg

theorem e71_0 (c : Caller Prop FT) (k : KV) (J : J71) (f : FT) (h : H) (v_0 : AV) (n_1 : Int) : chunkA env c q71 u71 (f71 J) d71 (retA env Go.Proofs.Tryz.f71.results.toList k) .root (fset (fset f 0 v_0) 1 (.int .i64 n_1)) h = s71_0 c k J v_0 n_1 h := by kernel_rfl
theorem w71 {c : Caller Prop FT} (hc : CallOk Go.Proofs.Tryz.prog (CP env) G (fun p => p) c) {k : KV} {n : Nat} {args : List AV} {h : H} (hg : f71 (r71 c k n) 0 (finit args) h) : SW Go.Proofs.Tryz.prog G (.func 71) args h k :=
  fn_ok mixed envOk hc q71 Go.Proofs.Tryz.func71 rfl (by kernel_rfl) (by kernel_rfl) k u71 (fun n => f71 (r71 c k n))
    (fun L f h hl => by
      match L, hl with
      | 0, hl => obtain ⟨_, _, hl0⟩ := asI_inv (show _ from hl); exact hl0
      | _ + 1, hl => exact hl)
    (fun n p L hm f h hl => by
      simp only [u71, List.mem_cons, Prod.mk.injEq, List.not_mem_nil, or_false] at hm
      rcases hm with ⟨rfl, rfl⟩
      · have hl : f71 (r71 c k (n + 1)) 0 f h := hl
        obtain ⟨n_1, e_1, hl1⟩ := asI_inv hl
        have hh := e71_0 c k (r71 c k n) f h (f 0) n_1
        rw [fset_self (rfl : f 0 = f 0)] at hh
        rw [fset_self e_1] at hh
        exact Eq.mpr hh hl1
    ) (by simp [u71]) hg

theorem e73_0 (c : Caller Prop FT) (k : KV) (J : J73) (f : FT) (h : H) (l_0 : Nat) (c_0 : Nat) : chunkA env c q73 u73 (f73 J) d73 (retA env Go.Proofs.Tryz.f73.results.toList k) .root (fset f 0 (.str l_0 c_0)) h = s73_0 c k J l_0 c_0 h := by kernel_rfl
theorem e73_1 (c : Caller Prop FT) (k : KV) (J : J73) (f : FT) (h : H) (l_0 : Nat) (c_0 : Nat) (v_2 : AV) (n_3 : Int) : chunkA env c q73 u73 (f73 J) d73 (retA env Go.Proofs.Tryz.f73.results.toList k) (.lab (.r .root) 0) (fset (fset (fset f 0 (.str l_0 c_0)) 2 v_2) 3 (.int .i64 n_3)) h = s73_1 c k J l_0 c_0 v_2 n_3 h := by kernel_rfl
theorem w73 {c : Caller Prop FT} (hc : CallOk Go.Proofs.Tryz.prog (CP env) G (fun p => p) c) {k : KV} {n : Nat} {args : List AV} {h : H} (hg : f73 (r73 c k n) 0 (finit args) h) : SW Go.Proofs.Tryz.prog G (.func 73) args h k :=
  fn_ok mixed envOk hc q73 Go.Proofs.Tryz.func73 rfl (by kernel_rfl) (by kernel_rfl) k u73 (fun n => f73 (r73 c k n))
    (fun L f h hl => by
      match L, hl with
      | 0, hl => obtain ⟨_, _, _, hl0⟩ := asS_inv (show _ from hl); exact hl0
      | 1, hl => obtain ⟨_, _, _, hl0⟩ := asS_inv (show _ from hl); obtain ⟨_, _, hl1⟩ := asI_inv (show _ from hl0); exact hl1
      | _ + 2, hl => exact hl)
    (fun n p L hm f h hl => by
      simp only [u73, List.mem_cons, Prod.mk.injEq, List.not_mem_nil, or_false] at hm
      rcases hm with ⟨rfl, rfl⟩ | ⟨rfl, rfl⟩
      · have hl : f73 (r73 c k (n + 1)) 0 f h := hl
        obtain ⟨l_0, c_0, e_0, hl0⟩ := asS_inv hl
        have hh := e73_0 c k (r73 c k n) f h l_0 c_0
        rw [fset_self e_0] at hh
        exact Eq.mpr hh hl0
      · have hl : f73 (r73 c k (n + 1)) 1 f h := hl
        obtain ⟨l_0, c_0, e_0, hl0⟩ := asS_inv hl
        obtain ⟨n_3, e_3, hl2⟩ := asI_inv hl0
        have hh := e73_1 c k (r73 c k n) f h l_0 c_0 (f 2) n_3
        rw [fset_self e_0] at hh
        rw [fset_self (rfl : f 2 = f 2)] at hh
        rw [fset_self e_3] at hh
        exact Eq.mpr hh hl2
    ) (by simp [u73]) hg

theorem e76_0 (c : Caller Prop FT) (k : KV) (J : J76) (f : FT) (h : H) (v_0 : AV) (v_1 : AV) : chunkA env c q76 u76 (f76 J) d76 (retA env Go.Proofs.Tryz.f76.results.toList k) .root (fset (fset f 0 v_0) 1 v_1) h = s76_0 c k J v_0 v_1 h := by kernel_rfl
theorem w76 {c : Caller Prop FT} (hc : CallOk Go.Proofs.Tryz.prog (CP env) G (fun p => p) c) {k : KV} {n : Nat} {args : List AV} {h : H} (hg : f76 (r76 c k n) 0 (finit args) h) : SW Go.Proofs.Tryz.prog G (.func 76) args h k :=
  fn_ok mixed envOk hc q76 Go.Proofs.Tryz.func76 rfl (by kernel_rfl) (by kernel_rfl) k u76 (fun n => f76 (r76 c k n))
    (fun L f h hl => by
      match L, hl with
      | 0, hl => exact hl
      | _ + 1, hl => exact hl)
    (fun n p L hm f h hl => by
      simp only [u76, List.mem_cons, Prod.mk.injEq, List.not_mem_nil, or_false] at hm
      rcases hm with ⟨rfl, rfl⟩
      · have hl : f76 (r76 c k (n + 1)) 0 f h := hl
        have hh := e76_0 c k (r76 c k n) f h (f 0) (f 1)
        rw [fset_self (rfl : f 0 = f 0)] at hh
        rw [fset_self (rfl : f 1 = f 1)] at hh
        exact Eq.mpr hh hl
    ) (by simp [u76]) hg

theorem e78_0 (c : Caller Prop FT) (k : KV) (J : J78) (f : FT) (h : H) (v_0 : AV) (l_1 : Nat) (c_1 : Nat) : chunkA env c q78 u78 (f78 J) d78 (retA env Go.Proofs.Tryz.f78.results.toList k) .root (fset (fset f 0 v_0) 1 (.str l_1 c_1)) h = s78_0 c k J v_0 l_1 c_1 h := by kernel_rfl
theorem w78 {c : Caller Prop FT} (hc : CallOk Go.Proofs.Tryz.prog (CP env) G (fun p => p) c) {k : KV} {n : Nat} {args : List AV} {h : H} (hg : f78 (r78 c k n) 0 (finit args) h) : SW Go.Proofs.Tryz.prog G (.func 78) args h k :=
  fn_ok mixed envOk hc q78 Go.Proofs.Tryz.func78 rfl (by kernel_rfl) (by kernel_rfl) k u78 (fun n => f78 (r78 c k n))
    (fun L f h hl => by
      match L, hl with
      | 0, hl => obtain ⟨_, _, _, hl0⟩ := asS_inv (show _ from hl); exact hl0
      | _ + 1, hl => exact hl)
    (fun n p L hm f h hl => by
      simp only [u78, List.mem_cons, Prod.mk.injEq, List.not_mem_nil, or_false] at hm
      rcases hm with ⟨rfl, rfl⟩
      · have hl : f78 (r78 c k (n + 1)) 0 f h := hl
        obtain ⟨l_1, c_1, e_1, hl1⟩ := asS_inv hl
        have hh := e78_0 c k (r78 c k n) f h (f 0) l_1 c_1
        rw [fset_self (rfl : f 0 = f 0)] at hh
        rw [fset_self e_1] at hh
        exact Eq.mpr hh hl1
    ) (by simp [u78]) hg

theorem e79_0 (c : Caller Prop FT) (k : KV) (J : J79) (f : FT) (h : H) (l_0 : Nat) (c_0 : Nat) (l_1 : Nat) (c_1 : Nat) (n_2 : Int) : chunkA env c q79 u79 (f79 J) d79 (retA env Go.Proofs.Tryz.f79.results.toList k) .root (fset (fset (fset f 0 (.str l_0 c_0)) 1 (.str l_1 c_1)) 2 (.int .i64 n_2)) h = s79_0 c k J l_0 c_0 l_1 c_1 n_2 h := by kernel_rfl
theorem w79 {c : Caller Prop FT} (hc : CallOk Go.Proofs.Tryz.prog (CP env) G (fun p => p) c) {k : KV} {n : Nat} {args : List AV} {h : H} (hg : f79 (r79 c k n) 0 (finit args) h) : SW Go.Proofs.Tryz.prog G (.func 79) args h k :=
  fn_ok mixed envOk hc q79 Go.Proofs.Tryz.func79 rfl (by kernel_rfl) (by kernel_rfl) k u79 (fun n => f79 (r79 c k n))
    (fun L f h hl => by
      match L, hl with
      | 0, hl => obtain ⟨_, _, _, hl0⟩ := asS_inv (show _ from hl); obtain ⟨_, _, _, hl1⟩ := asS_inv (show _ from hl0); obtain ⟨_, _, hl2⟩ := asI_inv (show _ from hl1); exact hl2
      | _ + 1, hl => exact hl)
    (fun n p L hm f h hl => by
      simp only [u79, List.mem_cons, Prod.mk.injEq, List.not_mem_nil, or_false] at hm
      rcases hm with ⟨rfl, rfl⟩
      · have hl : f79 (r79 c k (n + 1)) 0 f h := hl
        obtain ⟨l_0, c_0, e_0, hl0⟩ := asS_inv hl
        obtain ⟨l_1, c_1, e_1, hl1⟩ := asS_inv hl0
        obtain ⟨n_2, e_2, hl2⟩ := asI_inv hl1
        have hh := e79_0 c k (r79 c k n) f h l_0 c_0 l_1 c_1 n_2
        rw [fset_self e_0] at hh
        rw [fset_self e_1] at hh
        rw [fset_self e_2] at hh
        exact Eq.mpr hh hl2
    ) (by simp [u79]) hg

theorem e81_0 (c : Caller Prop FT) (k : KV) (J : J81) (f : FT) (h : H) (l_0 : Nat) (c_0 : Nat) : chunkA env c q81 u81 (f81 J) d81 (retA env Go.Proofs.Tryz.f81.results.toList k) .root (fset f 0 (.str l_0 c_0)) h = s81_0 c k J l_0 c_0 h := by kernel_rfl
theorem w81 {c : Caller Prop FT} (hc : CallOk Go.Proofs.Tryz.prog (CP env) G (fun p => p) c) {k : KV} {n : Nat} {args : List AV} {h : H} (hg : f81 (r81 c k n) 0 (finit args) h) : SW Go.Proofs.Tryz.prog G (.func 81) args h k :=
  fn_ok mixed envOk hc q81 Go.Proofs.Tryz.func81 rfl (by kernel_rfl) (by kernel_rfl) k u81 (fun n => f81 (r81 c k n))
    (fun L f h hl => by
      match L, hl with
      | 0, hl => obtain ⟨_, _, _, hl0⟩ := asS_inv (show _ from hl); exact hl0
      | _ + 1, hl => exact hl)
    (fun n p L hm f h hl => by
      simp only [u81, List.mem_cons, Prod.mk.injEq, List.not_mem_nil, or_false] at hm
      rcases hm with ⟨rfl, rfl⟩
      · have hl : f81 (r81 c k (n + 1)) 0 f h := hl
        obtain ⟨l_0, c_0, e_0, hl0⟩ := asS_inv hl
        have hh := e81_0 c k (r81 c k n) f h l_0 c_0
        rw [fset_self e_0] at hh
        exact Eq.mpr hh hl0
    ) (by simp [u81]) hg

theorem e87_0 (c : Caller Prop FT) (k : KV) (J : J87) (f : FT) (h : H) (v_0 : AV) : chunkA env c q87 u87 (f87 J) d87 (retA env Go.Proofs.Tryz.f87.results.toList k) .root (fset f 0 v_0) h = s87_0 c k J v_0 h := by kernel_rfl
theorem w87 {c : Caller Prop FT} (hc : CallOk Go.Proofs.Tryz.prog (CP env) G (fun p => p) c) {k : KV} {n : Nat} {args : List AV} {h : H} (hg : f87 (r87 c k n) 0 (finit args) h) : SW Go.Proofs.Tryz.prog G (.func 87) args h k :=
  fn_ok mixed envOk hc q87 Go.Proofs.Tryz.func87 rfl (by kernel_rfl) (by kernel_rfl) k u87 (fun n => f87 (r87 c k n))
    (fun L f h hl => by
      match L, hl with
      | 0, hl => exact hl
      | _ + 1, hl => exact hl)
    (fun n p L hm f h hl => by
      simp only [u87, List.mem_cons, Prod.mk.injEq, List.not_mem_nil, or_false] at hm
      rcases hm with ⟨rfl, rfl⟩
      · have hl : f87 (r87 c k (n + 1)) 0 f h := hl
        have hh := e87_0 c k (r87 c k n) f h (f 0)
        rw [fset_self (rfl : f 0 = f 0)] at hh
        exact Eq.mpr hh hl
    ) (by simp [u87]) hg

theorem e88_0 (c : Caller Prop FT) (k : KV) (J : J88) (f : FT) (h : H) (v_0 : AV) (v_1 : AV) : chunkA env c q88 u88 (f88 J) d88 (retA env Go.Proofs.Tryz.f88.results.toList k) .root (fset (fset f 0 v_0) 1 v_1) h = s88_0 c k J v_0 v_1 h := by kernel_rfl
theorem e88_1 (c : Caller Prop FT) (k : KV) (J : J88) (f : FT) (h : H) (v_0 : AV) (v_3 : AV) (v_33 : AV) (n_34 : Int) (n_35 : Int) : chunkA env c q88 u88 (f88 J) d88 (retA env Go.Proofs.Tryz.f88.results.toList k) (.l (.r (.l (.r (.r (.r .root)))))) (fset (fset (fset (fset (fset f 0 v_0) 3 v_3) 33 v_33) 34 (.int .i64 n_34)) 35 (.int .i64 n_35)) h = s88_1 c k J v_0 v_3 v_33 n_34 n_35 h := by kernel_rfl
theorem w88 {c : Caller Prop FT} (hc : CallOk Go.Proofs.Tryz.prog (CP env) G (fun p => p) c) {k : KV} {n : Nat} {args : List AV} {h : H} (hg : f88 (r88 c k n) 0 (finit args) h) : SW Go.Proofs.Tryz.prog G (.func 88) args h k :=
  fn_ok mixed envOk hc q88 Go.Proofs.Tryz.func88 rfl (by kernel_rfl) (by kernel_rfl) k u88 (fun n => f88 (r88 c k n))
    (fun L f h hl => by
      match L, hl with
      | 0, hl => exact hl
      | 1, hl => obtain ⟨_, _, hl0⟩ := asI_inv (show _ from hl); obtain ⟨_, _, hl1⟩ := asI_inv (show _ from hl0); exact hl1
      | _ + 2, hl => exact hl)
    (fun n p L hm f h hl => by
      simp only [u88, List.mem_cons, Prod.mk.injEq, List.not_mem_nil, or_false] at hm
      rcases hm with ⟨rfl, rfl⟩ | ⟨rfl, rfl⟩
      · have hl : f88 (r88 c k (n + 1)) 0 f h := hl
        have hh := e88_0 c k (r88 c k n) f h (f 0) (f 1)
        rw [fset_self (rfl : f 0 = f 0)] at hh
        rw [fset_self (rfl : f 1 = f 1)] at hh
        exact Eq.mpr hh hl
      · have hl : f88 (r88 c k (n + 1)) 1 f h := hl
        obtain ⟨n_34, e_34, hl3⟩ := asI_inv hl
        obtain ⟨n_35, e_35, hl4⟩ := asI_inv hl3
        have hh := e88_1 c k (r88 c k n) f h (f 0) (f 3) (f 33) n_34 n_35
        rw [fset_self (rfl : f 0 = f 0)] at hh
        rw [fset_self (rfl : f 3 = f 3)] at hh
        rw [fset_self (rfl : f 33 = f 33)] at hh
        rw [fset_self e_34] at hh
        rw [fset_self e_35] at hh
        exact Eq.mpr hh hl4
    ) (by simp [u88]) hg

theorem e91_0 (c : Caller Prop FT) (k : KV) (J : J91) (f : FT) (h : H) (n_0 : Int) : chunkA env c q91 u91 (f91 J) d91 (retA env Go.Proofs.Tryz.f91.results.toList k) .root (fset f 0 (.int .u64 n_0)) h = s91_0 c k J n_0 h := by kernel_rfl
theorem w91 {c : Caller Prop FT} (hc : CallOk Go.Proofs.Tryz.prog (CP env) G (fun p => p) c) {k : KV} {n : Nat} {args : List AV} {h : H} (hg : f91 (r91 c k n) 0 (finit args) h) : SW Go.Proofs.Tryz.prog G (.func 91) args h k :=
  fn_ok mixed envOk hc q91 Go.Proofs.Tryz.func91 rfl (by kernel_rfl) (by kernel_rfl) k u91 (fun n => f91 (r91 c k n))
    (fun L f h hl => by
      match L, hl with
      | 0, hl => obtain ⟨_, _, hl0⟩ := asI_inv (show _ from hl); exact hl0
      | _ + 1, hl => exact hl)
    (fun n p L hm f h hl => by
      simp only [u91, List.mem_cons, Prod.mk.injEq, List.not_mem_nil, or_false] at hm
      rcases hm with ⟨rfl, rfl⟩
      · have hl : f91 (r91 c k (n + 1)) 0 f h := hl
        obtain ⟨n_0, e_0, hl0⟩ := asI_inv hl
        have hh := e91_0 c k (r91 c k n) f h n_0
        rw [fset_self e_0] at hh
        exact Eq.mpr hh hl0
    ) (by simp [u91]) hg

theorem e92_0 (c : Caller Prop FT) (k : KV) (J : J92) (f : FT) (h : H) (v_0 : AV) : chunkA env c q92 u92 (f92 J) d92 (retA env Go.Proofs.Tryz.f92.results.toList k) .root (fset f 0 v_0) h = s92_0 c k J v_0 h := by kernel_rfl
theorem e92_1 (c : Caller Prop FT) (k : KV) (J : J92) (f : FT) (h : H) (v_0 : AV) (v_2 : AV) (b_3 : Bool) (v_5 : AV) (n_7 : Int) (n_8 : Int) (v_86 : AV) (n_87 : Int) (n_88 : Int) : chunkA env c q92 u92 (f92 J) d92 (retA env Go.Proofs.Tryz.f92.results.toList k) (.l (.r (.l (.r (.r (.r (.r (.r (.r (.r (.r (.l (.r .root))))))))))))) (fset (fset (fset (fset (fset (fset (fset (fset (fset f 0 v_0) 2 v_2) 3 (.bool b_3)) 5 v_5) 7 (.int .i64 n_7)) 8 (.int .i64 n_8)) 86 v_86) 87 (.int .i64 n_87)) 88 (.int .i64 n_88)) h = s92_1 c k J v_0 v_2 b_3 v_5 n_7 n_8 v_86 n_87 n_88 h := by kernel_rfl
theorem e92_2 (c : Caller Prop FT) (k : KV) (J : J92) (f : FT) (h : H) (v_0 : AV) (v_2 : AV) (b_3 : Bool) (b_4 : Bool) (v_5 : AV) : chunkA env c q92 u92 (f92 J) d92 (retA env Go.Proofs.Tryz.f92.results.toList k) (.lab (.r .root) 1) (fset (fset (fset (fset (fset f 0 v_0) 2 v_2) 3 (.bool b_3)) 4 (.bool b_4)) 5 v_5) h = s92_2 c k J v_0 v_2 b_3 b_4 v_5 h := by kernel_rfl
theorem e92_3 (c : Caller Prop FT) (k : KV) (J : J92) (f : FT) (h : H) (v_0 : AV) (v_2 : AV) (b_3 : Bool) (v_5 : AV) (n_7 : Int) (n_8 : Int) (v_86 : AV) (n_87 : Int) (n_88 : Int) : chunkA env c q92 u92 (f92 J) d92 (retA env Go.Proofs.Tryz.f92.results.toList k) (.l (.r (.l (.r (.r (.r (.r (.r (.lab (.r .root) 1))))))))) (fset (fset (fset (fset (fset (fset (fset (fset (fset f 0 v_0) 2 v_2) 3 (.bool b_3)) 5 v_5) 7 (.int .i64 n_7)) 8 (.int .i64 n_8)) 86 v_86) 87 (.int .i64 n_87)) 88 (.int .i64 n_88)) h = s92_3 c k J v_0 v_2 b_3 v_5 n_7 n_8 v_86 n_87 n_88 h := by kernel_rfl
theorem e92_4 (c : Caller Prop FT) (k : KV) (J : J92) (f : FT) (h : H) (v_2 : AV) (b_3 : Bool) (b_4 : Bool) : chunkA env c q92 u92 (f92 J) d92 (retA env Go.Proofs.Tryz.f92.results.toList k) (.lab (.r .root) 0) (fset (fset (fset f 2 v_2) 3 (.bool b_3)) 4 (.bool b_4)) h = s92_4 c k J v_2 b_3 b_4 h := by kernel_rfl
theorem e92_5 (c : Caller Prop FT) (k : KV) (J : J92) (f : FT) (h : H) (v_0 : AV) (v_2 : AV) (b_3 : Bool) (b_4 : Bool) (v_5 : AV) (b_6 : Bool) : chunkA env c q92 u92 (f92 J) d92 (retA env Go.Proofs.Tryz.f92.results.toList k) (.r (.l (.r (.r (.r (.r (.r (.r (.l (.r .root)))))))))) (fset (fset (fset (fset (fset (fset f 0 v_0) 2 v_2) 3 (.bool b_3)) 4 (.bool b_4)) 5 v_5) 6 (.bool b_6)) h = s92_5 c k J v_0 v_2 b_3 b_4 v_5 b_6 h := by kernel_rfl
theorem w92 {c : Caller Prop FT} (hc : CallOk Go.Proofs.Tryz.prog (CP env) G (fun p => p) c) {k : KV} {n : Nat} {args : List AV} {h : H} (hg : f92 (r92 c k n) 0 (finit args) h) : SW Go.Proofs.Tryz.prog G (.func 92) args h k :=
  fn_ok mixed envOk hc q92 Go.Proofs.Tryz.func92 rfl (by kernel_rfl) (by kernel_rfl) k u92 (fun n => f92 (r92 c k n))
    (fun L f h hl => by
      match L, hl with
      | 0, hl => exact hl
      | 1, hl => obtain ⟨_, _, hl0⟩ := asB_inv (show _ from hl); obtain ⟨_, _, hl1⟩ := asI_inv (show _ from hl0); obtain ⟨_, _, hl2⟩ := asI_inv (show _ from hl1); obtain ⟨_, _, hl3⟩ := asI_inv (show _ from hl2); obtain ⟨_, _, hl4⟩ := asI_inv (show _ from hl3); exact hl4
      | 2, hl => obtain ⟨_, _, hl0⟩ := asB_inv (show _ from hl); obtain ⟨_, _, hl1⟩ := asB_inv (show _ from hl0); exact hl1
      | 3, hl => obtain ⟨_, _, hl0⟩ := asB_inv (show _ from hl); obtain ⟨_, _, hl1⟩ := asI_inv (show _ from hl0); obtain ⟨_, _, hl2⟩ := asI_inv (show _ from hl1); obtain ⟨_, _, hl3⟩ := asI_inv (show _ from hl2); obtain ⟨_, _, hl4⟩ := asI_inv (show _ from hl3); exact hl4
      | 4, hl => obtain ⟨_, _, hl0⟩ := asB_inv (show _ from hl); obtain ⟨_, _, hl1⟩ := asB_inv (show _ from hl0); exact hl1
      | 5, hl => obtain ⟨_, _, hl0⟩ := asB_inv (show _ from hl); obtain ⟨_, _, hl1⟩ := asB_inv (show _ from hl0); obtain ⟨_, _, hl2⟩ := asB_inv (show _ from hl1); exact hl2
      | _ + 6, hl => exact hl)
    (fun n p L hm f h hl => by
      simp only [u92, List.mem_cons, Prod.mk.injEq, List.not_mem_nil, or_false] at hm
      rcases hm with ⟨rfl, rfl⟩ | ⟨rfl, rfl⟩ | ⟨rfl, rfl⟩ | ⟨rfl, rfl⟩ | ⟨rfl, rfl⟩ | ⟨rfl, rfl⟩
      · have hl : f92 (r92 c k (n + 1)) 0 f h := hl
        have hh := e92_0 c k (r92 c k n) f h (f 0)
        rw [fset_self (rfl : f 0 = f 0)] at hh
        exact Eq.mpr hh hl
      · have hl : f92 (r92 c k (n + 1)) 1 f h := hl
        obtain ⟨b_3, e_3, hl2⟩ := asB_inv hl
        obtain ⟨n_7, e_7, hl4⟩ := asI_inv hl2
        obtain ⟨n_8, e_8, hl5⟩ := asI_inv hl4
        obtain ⟨n_87, e_87, hl7⟩ := asI_inv hl5
        obtain ⟨n_88, e_88, hl8⟩ := asI_inv hl7
        have hh := e92_1 c k (r92 c k n) f h (f 0) (f 2) b_3 (f 5) n_7 n_8 (f 86) n_87 n_88
        rw [fset_self (rfl : f 0 = f 0)] at hh
        rw [fset_self (rfl : f 2 = f 2)] at hh
        rw [fset_self e_3] at hh
        rw [fset_self (rfl : f 5 = f 5)] at hh
        rw [fset_self e_7] at hh
        rw [fset_self e_8] at hh
        rw [fset_self (rfl : f 86 = f 86)] at hh
        rw [fset_self e_87] at hh
        rw [fset_self e_88] at hh
        exact Eq.mpr hh hl8
      · have hl : f92 (r92 c k (n + 1)) 2 f h := hl
        obtain ⟨b_3, e_3, hl2⟩ := asB_inv hl
        obtain ⟨b_4, e_4, hl3⟩ := asB_inv hl2
        have hh := e92_2 c k (r92 c k n) f h (f 0) (f 2) b_3 b_4 (f 5)
        rw [fset_self (rfl : f 0 = f 0)] at hh
        rw [fset_self (rfl : f 2 = f 2)] at hh
        rw [fset_self e_3] at hh
        rw [fset_self e_4] at hh
        rw [fset_self (rfl : f 5 = f 5)] at hh
        exact Eq.mpr hh hl3
      · have hl : f92 (r92 c k (n + 1)) 3 f h := hl
        obtain ⟨b_3, e_3, hl2⟩ := asB_inv hl
        obtain ⟨n_7, e_7, hl4⟩ := asI_inv hl2
        obtain ⟨n_8, e_8, hl5⟩ := asI_inv hl4
        obtain ⟨n_87, e_87, hl7⟩ := asI_inv hl5
        obtain ⟨n_88, e_88, hl8⟩ := asI_inv hl7
        have hh := e92_3 c k (r92 c k n) f h (f 0) (f 2) b_3 (f 5) n_7 n_8 (f 86) n_87 n_88
        rw [fset_self (rfl : f 0 = f 0)] at hh
        rw [fset_self (rfl : f 2 = f 2)] at hh
        rw [fset_self e_3] at hh
        rw [fset_self (rfl : f 5 = f 5)] at hh
        rw [fset_self e_7] at hh
        rw [fset_self e_8] at hh
        rw [fset_self (rfl : f 86 = f 86)] at hh
        rw [fset_self e_87] at hh
        rw [fset_self e_88] at hh
        exact Eq.mpr hh hl8
      · have hl : f92 (r92 c k (n + 1)) 4 f h := hl
        obtain ⟨b_3, e_3, hl1⟩ := asB_inv hl
        obtain ⟨b_4, e_4, hl2⟩ := asB_inv hl1
        have hh := e92_4 c k (r92 c k n) f h (f 2) b_3 b_4
        rw [fset_self (rfl : f 2 = f 2)] at hh
        rw [fset_self e_3] at hh
        rw [fset_self e_4] at hh
        exact Eq.mpr hh hl2
      · have hl : f92 (r92 c k (n + 1)) 5 f h := hl
        obtain ⟨b_3, e_3, hl2⟩ := asB_inv hl
        obtain ⟨b_4, e_4, hl3⟩ := asB_inv hl2
        obtain ⟨b_6, e_6, hl5⟩ := asB_inv hl3
        have hh := e92_5 c k (r92 c k n) f h (f 0) (f 2) b_3 b_4 (f 5) b_6
        rw [fset_self (rfl : f 0 = f 0)] at hh
        rw [fset_self (rfl : f 2 = f 2)] at hh
        rw [fset_self e_3] at hh
        rw [fset_self e_4] at hh
        rw [fset_self (rfl : f 5 = f 5)] at hh
        rw [fset_self e_6] at hh
        exact Eq.mpr hh hl5
    ) (by simp [u92]) hg

theorem e94_0 (c : Caller Prop FT) (k : KV) (J : J94) (f : FT) (h : H) (v_0 : AV) (v_1 : AV) : chunkA env c q94 u94 (f94 J) d94 (retA env Go.Proofs.Tryz.f94.results.toList k) .root (fset (fset f 0 v_0) 1 v_1) h = s94_0 c k J v_0 v_1 h := by kernel_rfl
theorem w94 {c : Caller Prop FT} (hc : CallOk Go.Proofs.Tryz.prog (CP env) G (fun p => p) c) {k : KV} {n : Nat} {args : List AV} {h : H} (hg : f94 (r94 c k n) 0 (finit args) h) : SW Go.Proofs.Tryz.prog G (.func 94) args h k :=
  fn_ok mixed envOk hc q94 Go.Proofs.Tryz.func94 rfl (by kernel_rfl) (by kernel_rfl) k u94 (fun n => f94 (r94 c k n))
    (fun L f h hl => by
      match L, hl with
      | 0, hl => exact hl
      | _ + 1, hl => exact hl)
    (fun n p L hm f h hl => by
      simp only [u94, List.mem_cons, Prod.mk.injEq, List.not_mem_nil, or_false] at hm
      rcases hm with ⟨rfl, rfl⟩
      · have hl : f94 (r94 c k (n + 1)) 0 f h := hl
        have hh := e94_0 c k (r94 c k n) f h (f 0) (f 1)
        rw [fset_self (rfl : f 0 = f 0)] at hh
        rw [fset_self (rfl : f 1 = f 1)] at hh
        exact Eq.mpr hh hl
    ) (by simp [u94]) hg

theorem e97_0 (c : Caller Prop FT) (k : KV) (J : J97) (f : FT) (h : H) (v_0 : AV) (l_1 : Nat) (c_1 : Nat) : chunkA env c q97 u97 (f97 J) d97 (retA env Go.Proofs.Tryz.f97.results.toList k) .root (fset (fset f 0 v_0) 1 (.str l_1 c_1)) h = s97_0 c k J v_0 l_1 c_1 h := by kernel_rfl
theorem w97 {c : Caller Prop FT} (hc : CallOk Go.Proofs.Tryz.prog (CP env) G (fun p => p) c) {k : KV} {n : Nat} {args : List AV} {h : H} (hg : f97 (r97 c k n) 0 (finit args) h) : SW Go.Proofs.Tryz.prog G (.func 97) args h k :=
  fn_ok mixed envOk hc q97 Go.Proofs.Tryz.func97 rfl (by kernel_rfl) (by kernel_rfl) k u97 (fun n => f97 (r97 c k n))
    (fun L f h hl => by
      match L, hl with
      | 0, hl => obtain ⟨_, _, _, hl0⟩ := asS_inv (show _ from hl); exact hl0
      | _ + 1, hl => exact hl)
    (fun n p L hm f h hl => by
      simp only [u97, List.mem_cons, Prod.mk.injEq, List.not_mem_nil, or_false] at hm
      rcases hm with ⟨rfl, rfl⟩
      · have hl : f97 (r97 c k (n + 1)) 0 f h := hl
        obtain ⟨l_1, c_1, e_1, hl1⟩ := asS_inv hl
        have hh := e97_0 c k (r97 c k n) f h (f 0) l_1 c_1
        rw [fset_self (rfl : f 0 = f 0)] at hh
        rw [fset_self e_1] at hh
        exact Eq.mpr hh hl1
    ) (by simp [u97]) hg

theorem w99 {c : Caller Prop FT} (hc : CallOk Go.Proofs.Tryz.prog (CP env) G (fun p => p) c) {k : KV} {m : Nat} {a : List AV} {h : H} (hg : runJ env c q99 u99 d99 (retA env Go.Proofs.Tryz.f99.results.toList k) m 0 (finit a) h) : SW Go.Proofs.Tryz.prog G (.func 99) a h k := fnI_ok mixed envOk hc q99 Go.Proofs.Tryz.func99 rfl (by kernel_rfl) (by kernel_rfl) (by kernel_rfl) (by simp [u99]) hg
theorem e103_0 (c : Caller Prop FT) (k : KV) (J : J103) (f : FT) (h : H) (v_0 : AV) (v_1 : AV) (v_2 : AV) (v_3 : AV) : chunkA env c q103 u103 (f103 J) d103 (retA env Go.Proofs.Tryz.f103.results.toList k) .root (fset (fset (fset (fset f 0 v_0) 1 v_1) 2 v_2) 3 v_3) h = s103_0 c k J v_0 v_1 v_2 v_3 h := by kernel_rfl
theorem e103_1 (c : Caller Prop FT) (k : KV) (J : J103) (f : FT) (h : H) (v_0 : AV) (v_2 : AV) : chunkA env c q103 u103 (f103 J) d103 (retA env Go.Proofs.Tryz.f103.results.toList k) (.l (.l (.l (.r (.l .root))))) (fset (fset f 0 v_0) 2 v_2) h = s103_1 c k J v_0 v_2 h := by kernel_rfl
theorem e103_2 (c : Caller Prop FT) (k : KV) (J : J103) (f : FT) (h : H) (v_0 : AV) (v_1 : AV) (v_2 : AV) (v_3 : AV) : chunkA env c q103 u103 (f103 J) d103 (retA env Go.Proofs.Tryz.f103.results.toList k) (.l (.l (.r .root))) (fset (fset (fset (fset f 0 v_0) 1 v_1) 2 v_2) 3 v_3) h = s103_2 c k J v_0 v_1 v_2 v_3 h := by kernel_rfl
theorem w103 {c : Caller Prop FT} (hc : CallOk Go.Proofs.Tryz.prog (CP env) G (fun p => p) c) {k : KV} {n : Nat} {args : List AV} {h : H} (hg : f103 (r103 c k n) 0 (finit args) h) : SW Go.Proofs.Tryz.prog G (.func 103) args h k :=
  fn_ok mixed envOk hc q103 Go.Proofs.Tryz.func103 rfl (by kernel_rfl) (by kernel_rfl) k u103 (fun n => f103 (r103 c k n))
    (fun L f h hl => by
      match L, hl with
      | 0, hl => exact hl
      | 1, hl => exact hl
      | 2, hl => exact hl
      | _ + 3, hl => exact hl)
    (fun n p L hm f h hl => by
      simp only [u103, List.mem_cons, Prod.mk.injEq, List.not_mem_nil, or_false] at hm
      rcases hm with ⟨rfl, rfl⟩ | ⟨rfl, rfl⟩ | ⟨rfl, rfl⟩
      · have hl : f103 (r103 c k (n + 1)) 0 f h := hl
        have hh := e103_0 c k (r103 c k n) f h (f 0) (f 1) (f 2) (f 3)
        rw [fset_self (rfl : f 0 = f 0)] at hh
        rw [fset_self (rfl : f 1 = f 1)] at hh
        rw [fset_self (rfl : f 2 = f 2)] at hh
        rw [fset_self (rfl : f 3 = f 3)] at hh
        exact Eq.mpr hh hl
      · have hl : f103 (r103 c k (n + 1)) 1 f h := hl
        have hh := e103_1 c k (r103 c k n) f h (f 0) (f 2)
        rw [fset_self (rfl : f 0 = f 0)] at hh
        rw [fset_self (rfl : f 2 = f 2)] at hh
        exact Eq.mpr hh hl
      · have hl : f103 (r103 c k (n + 1)) 2 f h := hl
        have hh := e103_2 c k (r103 c k n) f h (f 0) (f 1) (f 2) (f 3)
        rw [fset_self (rfl : f 0 = f 0)] at hh
        rw [fset_self (rfl : f 1 = f 1)] at hh
        rw [fset_self (rfl : f 2 = f 2)] at hh
        rw [fset_self (rfl : f 3 = f 3)] at hh
        exact Eq.mpr hh hl
    ) (by simp [u103]) hg

theorem e105_0 (c : Caller Prop FT) (k : KV) (J : J105) (f : FT) (h : H) (l_0 : Nat) (c_0 : Nat) (l_1 : Nat) (c_1 : Nat) : chunkA env c q105 u105 (f105 J) d105 (retA env Go.Proofs.Tryz.f105.results.toList k) .root (fset (fset f 0 (.str l_0 c_0)) 1 (.str l_1 c_1)) h = s105_0 c k J l_0 c_0 l_1 c_1 h := by kernel_rfl
theorem w105 {c : Caller Prop FT} (hc : CallOk Go.Proofs.Tryz.prog (CP env) G (fun p => p) c) {k : KV} {n : Nat} {args : List AV} {h : H} (hg : f105 (r105 c k n) 0 (finit args) h) : SW Go.Proofs.Tryz.prog G (.func 105) args h k :=
  fn_ok mixed envOk hc q105 Go.Proofs.Tryz.func105 rfl (by kernel_rfl) (by kernel_rfl) k u105 (fun n => f105 (r105 c k n))
    (fun L f h hl => by
      match L, hl with
      | 0, hl => obtain ⟨_, _, _, hl0⟩ := asS_inv (show _ from hl); obtain ⟨_, _, _, hl1⟩ := asS_inv (show _ from hl0); exact hl1
      | _ + 1, hl => exact hl)
    (fun n p L hm f h hl => by
      simp only [u105, List.mem_cons, Prod.mk.injEq, List.not_mem_nil, or_false] at hm
      rcases hm with ⟨rfl, rfl⟩
      · have hl : f105 (r105 c k (n + 1)) 0 f h := hl
        obtain ⟨l_0, c_0, e_0, hl0⟩ := asS_inv hl
        obtain ⟨l_1, c_1, e_1, hl1⟩ := asS_inv hl0
        have hh := e105_0 c k (r105 c k n) f h l_0 c_0 l_1 c_1
        rw [fset_self e_0] at hh
        rw [fset_self e_1] at hh
        exact Eq.mpr hh hl1
    ) (by simp [u105]) hg

theorem e129_0 (c : Caller Prop FT) (k : KV) (J : J129) (f : FT) (h : H) (v_0 : AV) (n_1 : Int) (v_2 : AV) : chunkA env c q129 u129 (f129 J) d129 (retA env Go.Proofs.Tryz.f129.results.toList k) .root (fset (fset (fset f 0 v_0) 1 (.int .i64 n_1)) 2 v_2) h = s129_0 c k J v_0 n_1 v_2 h := by kernel_rfl
theorem e129_1 (c : Caller Prop FT) (k : KV) (J : J129) (f : FT) (h : H) (v_0 : AV) : chunkA env c q129 u129 (f129 J) d129 (retA env Go.Proofs.Tryz.f129.results.toList k) (.r (.r .root)) (fset f 0 v_0) h = s129_1 c k J v_0 h := by kernel_rfl
theorem w129 {c : Caller Prop FT} (hc : CallOk Go.Proofs.Tryz.prog (CP env) G (fun p => p) c) {k : KV} {n : Nat} {args : List AV} {h : H} (hg : f129 (r129 c k n) 0 (finit args) h) : SW Go.Proofs.Tryz.prog G (.func 129) args h k :=
  fn_ok mixed envOk hc q129 Go.Proofs.Tryz.func129 rfl (by kernel_rfl) (by kernel_rfl) k u129 (fun n => f129 (r129 c k n))
    (fun L f h hl => by
      match L, hl with
      | 0, hl => obtain ⟨_, _, hl0⟩ := asI_inv (show _ from hl); exact hl0
      | 1, hl => exact hl
      | _ + 2, hl => exact hl)
    (fun n p L hm f h hl => by
      simp only [u129, List.mem_cons, Prod.mk.injEq, List.not_mem_nil, or_false] at hm
      rcases hm with ⟨rfl, rfl⟩ | ⟨rfl, rfl⟩
      · have hl : f129 (r129 c k (n + 1)) 0 f h := hl
        obtain ⟨n_1, e_1, hl1⟩ := asI_inv hl
        have hh := e129_0 c k (r129 c k n) f h (f 0) n_1 (f 2)
        rw [fset_self (rfl : f 0 = f 0)] at hh
        rw [fset_self e_1] at hh
        rw [fset_self (rfl : f 2 = f 2)] at hh
        exact Eq.mpr hh hl1
      · have hl : f129 (r129 c k (n + 1)) 1 f h := hl
        have hh := e129_1 c k (r129 c k n) f h (f 0)
        rw [fset_self (rfl : f 0 = f 0)] at hh
        exact Eq.mpr hh hl
    ) (by simp [u129]) hg

theorem e133_0 (c : Caller Prop FT) (k : KV) (J : J133) (f : FT) (h : H) (n_0 : Int) (v_1 : AV) : chunkA env c q133 u133 (f133 J) d133 (retA env Go.Proofs.Tryz.f133.results.toList k) .root (fset (fset f 0 (.int .i64 n_0)) 1 v_1) h = s133_0 c k J n_0 v_1 h := by kernel_rfl
theorem e133_1 (c : Caller Prop FT) (k : KV) (J : J133) (f : FT) (h : H) (n_0 : Int) (v_1 : AV) (v_4 : AV) (n_6 : Int) (n_7 : Int) (n_8 : Int) : chunkA env c q133 u133 (f133 J) d133 (retA env Go.Proofs.Tryz.f133.results.toList k) (.l (.r (.l (.r (.r (.r .root)))))) (fset (fset (fset (fset (fset (fset f 0 (.int .i64 n_0)) 1 v_1) 4 v_4) 6 (.int .i64 n_6)) 7 (.int .i64 n_7)) 8 (.int .i64 n_8)) h = s133_1 c k J n_0 v_1 v_4 n_6 n_7 n_8 h := by kernel_rfl
theorem e133_2 (c : Caller Prop FT) (k : KV) (J : J133) (f : FT) (h : H) (n_0 : Int) (v_1 : AV) (v_4 : AV) (n_6 : Int) (n_7 : Int) (n_8 : Int) : chunkA env c q133 u133 (f133 J) d133 (retA env Go.Proofs.Tryz.f133.results.toList k) (.r (.r (.l (.l (.r (.l (.r (.r (.r .root))))))))) (fset (fset (fset (fset (fset (fset f 0 (.int .i64 n_0)) 1 v_1) 4 v_4) 6 (.int .i64 n_6)) 7 (.int .i64 n_7)) 8 (.int .i64 n_8)) h = s133_2 c k J n_0 v_1 v_4 n_6 n_7 n_8 h := by kernel_rfl
theorem w133 {c : Caller Prop FT} (hc : CallOk Go.Proofs.Tryz.prog (CP env) G (fun p => p) c) {k : KV} {n : Nat} {args : List AV} {h : H} (hg : f133 (r133 c k n) 0 (finit args) h) : SW Go.Proofs.Tryz.prog G (.func 133) args h k :=
  fn_ok mixed envOk hc q133 Go.Proofs.Tryz.func133 rfl (by kernel_rfl) (by kernel_rfl) k u133 (fun n => f133 (r133 c k n))
    (fun L f h hl => by
      match L, hl with
      | 0, hl => obtain ⟨_, _, hl0⟩ := asI_inv (show _ from hl); exact hl0
      | 1, hl => obtain ⟨_, _, hl0⟩ := asI_inv (show _ from hl); obtain ⟨_, _, hl1⟩ := asI_inv (show _ from hl0); obtain ⟨_, _, hl2⟩ := asI_inv (show _ from hl1); obtain ⟨_, _, hl3⟩ := asI_inv (show _ from hl2); exact hl3
      | 2, hl => obtain ⟨_, _, hl0⟩ := asI_inv (show _ from hl); obtain ⟨_, _, hl1⟩ := asI_inv (show _ from hl0); obtain ⟨_, _, hl2⟩ := asI_inv (show _ from hl1); obtain ⟨_, _, hl3⟩ := asI_inv (show _ from hl2); exact hl3
      | _ + 3, hl => exact hl)
    (fun n p L hm f h hl => by
      simp only [u133, List.mem_cons, Prod.mk.injEq, List.not_mem_nil, or_false] at hm
      rcases hm with ⟨rfl, rfl⟩ | ⟨rfl, rfl⟩ | ⟨rfl, rfl⟩
      · have hl : f133 (r133 c k (n + 1)) 0 f h := hl
        obtain ⟨n_0, e_0, hl0⟩ := asI_inv hl
        have hh := e133_0 c k (r133 c k n) f h n_0 (f 1)
        rw [fset_self e_0] at hh
        rw [fset_self (rfl : f 1 = f 1)] at hh
        exact Eq.mpr hh hl0
      · have hl : f133 (r133 c k (n + 1)) 1 f h := hl
        obtain ⟨n_0, e_0, hl0⟩ := asI_inv hl
        obtain ⟨n_6, e_6, hl3⟩ := asI_inv hl0
        obtain ⟨n_7, e_7, hl4⟩ := asI_inv hl3
        obtain ⟨n_8, e_8, hl5⟩ := asI_inv hl4
        have hh := e133_1 c k (r133 c k n) f h n_0 (f 1) (f 4) n_6 n_7 n_8
        rw [fset_self e_0] at hh
        rw [fset_self (rfl : f 1 = f 1)] at hh
        rw [fset_self (rfl : f 4 = f 4)] at hh
        rw [fset_self e_6] at hh
        rw [fset_self e_7] at hh
        rw [fset_self e_8] at hh
        exact Eq.mpr hh hl5
      · have hl : f133 (r133 c k (n + 1)) 2 f h := hl
        obtain ⟨n_0, e_0, hl0⟩ := asI_inv hl
        obtain ⟨n_6, e_6, hl3⟩ := asI_inv hl0
        obtain ⟨n_7, e_7, hl4⟩ := asI_inv hl3
        obtain ⟨n_8, e_8, hl5⟩ := asI_inv hl4
        have hh := e133_2 c k (r133 c k n) f h n_0 (f 1) (f 4) n_6 n_7 n_8
        rw [fset_self e_0] at hh
        rw [fset_self (rfl : f 1 = f 1)] at hh
        rw [fset_self (rfl : f 4 = f 4)] at hh
        rw [fset_self e_6] at hh
        rw [fset_self e_7] at hh
        rw [fset_self e_8] at hh
        exact Eq.mpr hh hl5
    ) (by simp [u133]) hg

theorem e135_0 (c : Caller Prop FT) (k : KV) (J : J135) (f : FT) (h : H) (v_0 : AV) (n_1 : Int) (v_2 : AV) : chunkA env c q135 u135 (f135 J) d135 (retA env Go.Proofs.Tryz.f135.results.toList k) .root (fset (fset (fset f 0 v_0) 1 (.int .i64 n_1)) 2 v_2) h = s135_0 c k J v_0 n_1 v_2 h := by kernel_rfl
theorem w135 {c : Caller Prop FT} (hc : CallOk Go.Proofs.Tryz.prog (CP env) G (fun p => p) c) {k : KV} {n : Nat} {args : List AV} {h : H} (hg : f135 (r135 c k n) 0 (finit args) h) : SW Go.Proofs.Tryz.prog G (.func 135) args h k :=
  fn_ok mixed envOk hc q135 Go.Proofs.Tryz.func135 rfl (by kernel_rfl) (by kernel_rfl) k u135 (fun n => f135 (r135 c k n))
    (fun L f h hl => by
      match L, hl with
      | 0, hl => obtain ⟨_, _, hl0⟩ := asI_inv (show _ from hl); exact hl0
      | _ + 1, hl => exact hl)
    (fun n p L hm f h hl => by
      simp only [u135, List.mem_cons, Prod.mk.injEq, List.not_mem_nil, or_false] at hm
      rcases hm with ⟨rfl, rfl⟩
      · have hl : f135 (r135 c k (n + 1)) 0 f h := hl
        obtain ⟨n_1, e_1, hl1⟩ := asI_inv hl
        have hh := e135_0 c k (r135 c k n) f h (f 0) n_1 (f 2)
        rw [fset_self (rfl : f 0 = f 0)] at hh
        rw [fset_self e_1] at hh
        rw [fset_self (rfl : f 2 = f 2)] at hh
        exact Eq.mpr hh hl1
    ) (by simp [u135]) hg

theorem w136 {c : Caller Prop FT} (hc : CallOk Go.Proofs.Tryz.prog (CP env) G (fun p => p) c) {k : KV} {m : Nat} {a : List AV} {h : H} (hg : runJ env c q136 u136 d136 (retA env Go.Proofs.Tryz.f136.results.toList k) m 0 (finit a) h) : SW Go.Proofs.Tryz.prog G (.func 136) a h k := fnI_ok mixed envOk hc q136 Go.Proofs.Tryz.func136 rfl (by kernel_rfl) (by kernel_rfl) (by kernel_rfl) (by simp [u136]) hg
theorem w141 {c : Caller Prop FT} (hc : CallOk Go.Proofs.Tryz.prog (CP env) G (fun p => p) c) {k : KV} {m : Nat} {a : List AV} {h : H} (hg : runJ env c q141 u141 d141 (retA env Go.Proofs.Tryz.f141.results.toList k) m 0 (finit a) h) : SW Go.Proofs.Tryz.prog G (.func 141) a h k := fnI_ok mixed envOk hc q141 Go.Proofs.Tryz.func141 rfl (by kernel_rfl) (by kernel_rfl) (by kernel_rfl) (by simp [u141]) hg
theorem w144 {c : Caller Prop FT} (hc : CallOk Go.Proofs.Tryz.prog (CP env) G (fun p => p) c) {k : KV} {m : Nat} {a : List AV} {h : H} (hg : runJ env c q144 u144 d144 (retA env Go.Proofs.Tryz.f144.results.toList k) m 0 (finit a) h) : SW Go.Proofs.Tryz.prog G (.func 144) a h k := fnI_ok mixed envOk hc q144 Go.Proofs.Tryz.func144 rfl (by kernel_rfl) (by kernel_rfl) (by kernel_rfl) (by simp [u144]) hg
theorem e147_0 (c : Caller Prop FT) (k : KV) (J : J147) (f : FT) (h : H) (l_0 : Nat) (c_0 : Nat) (l_1 : Nat) (c_1 : Nat) : chunkA env c q147 u147 (f147 J) d147 (retA env Go.Proofs.Tryz.f147.results.toList k) .root (fset (fset f 0 (.str l_0 c_0)) 1 (.str l_1 c_1)) h = s147_0 c k J l_0 c_0 l_1 c_1 h := by kernel_rfl
theorem w147 {c : Caller Prop FT} (hc : CallOk Go.Proofs.Tryz.prog (CP env) G (fun p => p) c) {k : KV} {n : Nat} {args : List AV} {h : H} (hg : f147 (r147 c k n) 0 (finit args) h) : SW Go.Proofs.Tryz.prog G (.func 147) args h k :=
  fn_ok mixed envOk hc q147 Go.Proofs.Tryz.func147 rfl (by kernel_rfl) (by kernel_rfl) k u147 (fun n => f147 (r147 c k n))
    (fun L f h hl => by
      match L, hl with
      | 0, hl => obtain ⟨_, _, _, hl0⟩ := asS_inv (show _ from hl); obtain ⟨_, _, _, hl1⟩ := asS_inv (show _ from hl0); exact hl1
      | _ + 1, hl => exact hl)
    (fun n p L hm f h hl => by
      simp only [u147, List.mem_cons, Prod.mk.injEq, List.not_mem_nil, or_false] at hm
      rcases hm with ⟨rfl, rfl⟩
      · have hl : f147 (r147 c k (n + 1)) 0 f h := hl
        obtain ⟨l_0, c_0, e_0, hl0⟩ := asS_inv hl
        obtain ⟨l_1, c_1, e_1, hl1⟩ := asS_inv hl0
        have hh := e147_0 c k (r147 c k n) f h l_0 c_0 l_1 c_1
        rw [fset_self e_0] at hh
        rw [fset_self e_1] at hh
        exact Eq.mpr hh hl1
    ) (by simp [u147]) hg

theorem w155 {c : Caller Prop FT} (hc : CallOk Go.Proofs.Tryz.prog (CP env) G (fun p => p) c) {k : KV} {m : Nat} {a : List AV} {h : H} (hg : runJ env c q155 u155 d155 (retA env Go.Proofs.Tryz.f155.results.toList k) m 0 (finit a) h) : SW Go.Proofs.Tryz.prog G (.func 155) a h k := fnI_ok mixed envOk hc q155 Go.Proofs.Tryz.func155 rfl (by kernel_rfl) (by kernel_rfl) (by kernel_rfl) (by simp [u155]) hg
theorem e158_0 (c : Caller Prop FT) (k : KV) (J : J158) (f : FT) (h : H) (v_0 : AV) : chunkA env c q158 u158 (f158 J) d158 (retA env Go.Proofs.Tryz.f158.results.toList k) .root (fset f 0 v_0) h = s158_0 c k J v_0 h := by kernel_rfl
theorem e158_1 (c : Caller Prop FT) (k : KV) (J : J158) (f : FT) (h : H) (v_0 : AV) (v_2 : AV) (v_3 : AV) (v_14 : AV) (n_15 : Int) (n_16 : Int) : chunkA env c q158 u158 (f158 J) d158 (retA env Go.Proofs.Tryz.f158.results.toList k) (.l (.r (.l (.r .root)))) (fset (fset (fset (fset (fset (fset f 0 v_0) 2 v_2) 3 v_3) 14 v_14) 15 (.int .i64 n_15)) 16 (.int .i64 n_16)) h = s158_1 c k J v_0 v_2 v_3 v_14 n_15 n_16 h := by kernel_rfl
theorem e158_2 (c : Caller Prop FT) (k : KV) (J : J158) (f : FT) (h : H) (v_0 : AV) (v_2 : AV) (v_3 : AV) (v_5 : AV) (v_14 : AV) (n_15 : Int) (n_16 : Int) : chunkA env c q158 u158 (f158 J) d158 (retA env Go.Proofs.Tryz.f158.results.toList k) (.r (.r (.l (.l (.r (.r (.l (.l (.r (.l (.r .root))))))))))) (fset (fset (fset (fset (fset (fset (fset f 0 v_0) 2 v_2) 3 v_3) 5 v_5) 14 v_14) 15 (.int .i64 n_15)) 16 (.int .i64 n_16)) h = s158_2 c k J v_0 v_2 v_3 v_5 v_14 n_15 n_16 h := by kernel_rfl
theorem w158 {c : Caller Prop FT} (hc : CallOk Go.Proofs.Tryz.prog (CP env) G (fun p => p) c) {k : KV} {n : Nat} {args : List AV} {h : H} (hg : f158 (r158 c k n) 0 (finit args) h) : SW Go.Proofs.Tryz.prog G (.func 158) args h k :=
  fn_ok mixed envOk hc q158 Go.Proofs.Tryz.func158 rfl (by kernel_rfl) (by kernel_rfl) k u158 (fun n => f158 (r158 c k n))
    (fun L f h hl => by
      match L, hl with
      | 0, hl => exact hl
      | 1, hl => obtain ⟨_, _, hl0⟩ := asI_inv (show _ from hl); obtain ⟨_, _, hl1⟩ := asI_inv (show _ from hl0); exact hl1
      | 2, hl => obtain ⟨_, _, hl0⟩ := asI_inv (show _ from hl); obtain ⟨_, _, hl1⟩ := asI_inv (show _ from hl0); exact hl1
      | _ + 3, hl => exact hl)
    (fun n p L hm f h hl => by
      simp only [u158, List.mem_cons, Prod.mk.injEq, List.not_mem_nil, or_false] at hm
      rcases hm with ⟨rfl, rfl⟩ | ⟨rfl, rfl⟩ | ⟨rfl, rfl⟩
      · have hl : f158 (r158 c k (n + 1)) 0 f h := hl
        have hh := e158_0 c k (r158 c k n) f h (f 0)
        rw [fset_self (rfl : f 0 = f 0)] at hh
        exact Eq.mpr hh hl
      · have hl : f158 (r158 c k (n + 1)) 1 f h := hl
        obtain ⟨n_15, e_15, hl4⟩ := asI_inv hl
        obtain ⟨n_16, e_16, hl5⟩ := asI_inv hl4
        have hh := e158_1 c k (r158 c k n) f h (f 0) (f 2) (f 3) (f 14) n_15 n_16
        rw [fset_self (rfl : f 0 = f 0)] at hh
        rw [fset_self (rfl : f 2 = f 2)] at hh
        rw [fset_self (rfl : f 3 = f 3)] at hh
        rw [fset_self (rfl : f 14 = f 14)] at hh
        rw [fset_self e_15] at hh
        rw [fset_self e_16] at hh
        exact Eq.mpr hh hl5
      · have hl : f158 (r158 c k (n + 1)) 2 f h := hl
        obtain ⟨n_15, e_15, hl5⟩ := asI_inv hl
        obtain ⟨n_16, e_16, hl6⟩ := asI_inv hl5
        have hh := e158_2 c k (r158 c k n) f h (f 0) (f 2) (f 3) (f 5) (f 14) n_15 n_16
        rw [fset_self (rfl : f 0 = f 0)] at hh
        rw [fset_self (rfl : f 2 = f 2)] at hh
        rw [fset_self (rfl : f 3 = f 3)] at hh
        rw [fset_self (rfl : f 5 = f 5)] at hh
        rw [fset_self (rfl : f 14 = f 14)] at hh
        rw [fset_self e_15] at hh
        rw [fset_self e_16] at hh
        exact Eq.mpr hh hl6
    ) (by simp [u158]) hg

theorem w159 {c : Caller Prop FT} (hc : CallOk Go.Proofs.Tryz.prog (CP env) G (fun p => p) c) {k : KV} {m : Nat} {a : List AV} {h : H} (hg : runJ env c q159 u159 d159 (retA env Go.Proofs.Tryz.f159.results.toList k) m 0 (finit a) h) : SW Go.Proofs.Tryz.prog G (.func 159) a h k := fnI_ok mixed envOk hc q159 Go.Proofs.Tryz.func159 rfl (by kernel_rfl) (by kernel_rfl) (by kernel_rfl) (by simp [u159]) hg
theorem e169_0 (c : Caller Prop FT) (k : KV) (J : J169) (f : FT) (h : H) (l_0 : Nat) (c_0 : Nat) : chunkA env c q169 u169 (f169 J) d169 (retA env Go.Proofs.Tryz.f169.results.toList k) .root (fset f 0 (.str l_0 c_0)) h = s169_0 c k J l_0 c_0 h := by kernel_rfl
theorem w169 {c : Caller Prop FT} (hc : CallOk Go.Proofs.Tryz.prog (CP env) G (fun p => p) c) {k : KV} {n : Nat} {args : List AV} {h : H} (hg : f169 (r169 c k n) 0 (finit args) h) : SW Go.Proofs.Tryz.prog G (.func 169) args h k :=
  fn_ok mixed envOk hc q169 Go.Proofs.Tryz.func169 rfl (by kernel_rfl) (by kernel_rfl) k u169 (fun n => f169 (r169 c k n))
    (fun L f h hl => by
      match L, hl with
      | 0, hl => obtain ⟨_, _, _, hl0⟩ := asS_inv (show _ from hl); exact hl0
      | _ + 1, hl => exact hl)
    (fun n p L hm f h hl => by
      simp only [u169, List.mem_cons, Prod.mk.injEq, List.not_mem_nil, or_false] at hm
      rcases hm with ⟨rfl, rfl⟩
      · have hl : f169 (r169 c k (n + 1)) 0 f h := hl
        obtain ⟨l_0, c_0, e_0, hl0⟩ := asS_inv hl
        have hh := e169_0 c k (r169 c k n) f h l_0 c_0
        rw [fset_self e_0] at hh
        exact Eq.mpr hh hl0
    ) (by simp [u169]) hg

theorem e173_0 (c : Caller Prop FT) (k : KV) (J : J173) (f : FT) (h : H) (v_0 : AV) (n_1 : Int) : chunkA env c q173 u173 (f173 J) d173 (retA env Go.Proofs.Tryz.f173.results.toList k) .root (fset (fset f 0 v_0) 1 (.int .i64 n_1)) h = s173_0 c k J v_0 n_1 h := by kernel_rfl
theorem w173 {c : Caller Prop FT} (hc : CallOk Go.Proofs.Tryz.prog (CP env) G (fun p => p) c) {k : KV} {n : Nat} {args : List AV} {h : H} (hg : f173 (r173 c k n) 0 (finit args) h) : SW Go.Proofs.Tryz.prog G (.func 173) args h k :=
  fn_ok mixed envOk hc q173 Go.Proofs.Tryz.func173 rfl (by kernel_rfl) (by kernel_rfl) k u173 (fun n => f173 (r173 c k n))
    (fun L f h hl => by
      match L, hl with
      | 0, hl => obtain ⟨_, _, hl0⟩ := asI_inv (show _ from hl); exact hl0
      | _ + 1, hl => exact hl)
    (fun n p L hm f h hl => by
      simp only [u173, List.mem_cons, Prod.mk.injEq, List.not_mem_nil, or_false] at hm
      rcases hm with ⟨rfl, rfl⟩
      · have hl : f173 (r173 c k (n + 1)) 0 f h := hl
        obtain ⟨n_1, e_1, hl1⟩ := asI_inv hl
        have hh := e173_0 c k (r173 c k n) f h (f 0) n_1
        rw [fset_self (rfl : f 0 = f 0)] at hh
        rw [fset_self e_1] at hh
        exact Eq.mpr hh hl1
    ) (by simp [u173]) hg

theorem e175_0 (c : Caller Prop FT) (k : KV) (J : J175) (f : FT) (h : H) (v_0 : AV) : chunkA env c q175 u175 (f175 J) d175 (retA env Go.Proofs.Tryz.f175.results.toList k) .root (fset f 0 v_0) h = s175_0 c k J v_0 h := by kernel_rfl
theorem e175_1 (c : Caller Prop FT) (k : KV) (J : J175) (f : FT) (h : H) (v_0 : AV) (n_3 : Int) : chunkA env c q175 u175 (f175 J) d175 (retA env Go.Proofs.Tryz.f175.results.toList k) (.l (.r (.r (.r (.r (.r .root)))))) (fset (fset f 0 v_0) 3 (.int .i64 n_3)) h = s175_1 c k J v_0 n_3 h := by kernel_rfl
theorem e175_2 (c : Caller Prop FT) (k : KV) (J : J175) (f : FT) (h : H) (v_0 : AV) (n_3 : Int) : chunkA env c q175 u175 (f175 J) d175 (retA env Go.Proofs.Tryz.f175.results.toList k) (.r (.l (.l (.r (.r (.r (.r (.r .root)))))))) (fset (fset f 0 v_0) 3 (.int .i64 n_3)) h = s175_2 c k J v_0 n_3 h := by kernel_rfl
theorem e175_3 (c : Caller Prop FT) (k : KV) (J : J175) (f : FT) (h : H) (v_0 : AV) (n_3 : Int) : chunkA env c q175 u175 (f175 J) d175 (retA env Go.Proofs.Tryz.f175.results.toList k) (.r (.r (.r .root))) (fset (fset f 0 v_0) 3 (.int .i64 n_3)) h = s175_3 c k J v_0 n_3 h := by kernel_rfl
theorem w175 {c : Caller Prop FT} (hc : CallOk Go.Proofs.Tryz.prog (CP env) G (fun p => p) c) {k : KV} {n : Nat} {args : List AV} {h : H} (hg : f175 (r175 c k n) 0 (finit args) h) : SW Go.Proofs.Tryz.prog G (.func 175) args h k :=
  fn_ok mixed envOk hc q175 Go.Proofs.Tryz.func175 rfl (by kernel_rfl) (by kernel_rfl) k u175 (fun n => f175 (r175 c k n))
    (fun L f h hl => by
      match L, hl with
      | 0, hl => exact hl
      | 1, hl => obtain ⟨_, _, hl0⟩ := asI_inv (show _ from hl); exact hl0
      | 2, hl => obtain ⟨_, _, hl0⟩ := asI_inv (show _ from hl); exact hl0
      | 3, hl => obtain ⟨_, _, hl0⟩ := asI_inv (show _ from hl); exact hl0
      | _ + 4, hl => exact hl)
    (fun n p L hm f h hl => by
      simp only [u175, List.mem_cons, Prod.mk.injEq, List.not_mem_nil, or_false] at hm
      rcases hm with ⟨rfl, rfl⟩ | ⟨rfl, rfl⟩ | ⟨rfl, rfl⟩ | ⟨rfl, rfl⟩
      · have hl : f175 (r175 c k (n + 1)) 0 f h := hl
        have hh := e175_0 c k (r175 c k n) f h (f 0)
        rw [fset_self (rfl : f 0 = f 0)] at hh
        exact Eq.mpr hh hl
      · have hl : f175 (r175 c k (n + 1)) 1 f h := hl
        obtain ⟨n_3, e_3, hl1⟩ := asI_inv hl
        have hh := e175_1 c k (r175 c k n) f h (f 0) n_3
        rw [fset_self (rfl : f 0 = f 0)] at hh
        rw [fset_self e_3] at hh
        exact Eq.mpr hh hl1
      · have hl : f175 (r175 c k (n + 1)) 2 f h := hl
        obtain ⟨n_3, e_3, hl1⟩ := asI_inv hl
        have hh := e175_2 c k (r175 c k n) f h (f 0) n_3
        rw [fset_self (rfl : f 0 = f 0)] at hh
        rw [fset_self e_3] at hh
        exact Eq.mpr hh hl1
      · have hl : f175 (r175 c k (n + 1)) 3 f h := hl
        obtain ⟨n_3, e_3, hl1⟩ := asI_inv hl
        have hh := e175_3 c k (r175 c k n) f h (f 0) n_3
        rw [fset_self (rfl : f 0 = f 0)] at hh
        rw [fset_self e_3] at hh
        exact Eq.mpr hh hl1
    ) (by simp [u175]) hg

theorem w182 {c : Caller Prop FT} (hc : CallOk Go.Proofs.Tryz.prog (CP env) G (fun p => p) c) {k : KV} {m : Nat} {a : List AV} {h : H} (hg : runJ env c q182 u182 d182 (retA env Go.Proofs.Tryz.f182.results.toList k) m 0 (finit a) h) : SW Go.Proofs.Tryz.prog G (.func 182) a h k := fnI_ok mixed envOk hc q182 Go.Proofs.Tryz.func182 rfl (by kernel_rfl) (by kernel_rfl) (by kernel_rfl) (by simp [u182]) hg
theorem w185 {c : Caller Prop FT} (hc : CallOk Go.Proofs.Tryz.prog (CP env) G (fun p => p) c) {k : KV} {m : Nat} {a : List AV} {h : H} (hg : runJ env c q185 u185 d185 (retA env Go.Proofs.Tryz.f185.results.toList k) m 0 (finit a) h) : SW Go.Proofs.Tryz.prog G (.func 185) a h k := fnI_ok mixed envOk hc q185 Go.Proofs.Tryz.func185 rfl (by kernel_rfl) (by kernel_rfl) (by kernel_rfl) (by simp [u185]) hg
theorem w188 {c : Caller Prop FT} (hc : CallOk Go.Proofs.Tryz.prog (CP env) G (fun p => p) c) {k : KV} {m : Nat} {a : List AV} {h : H} (hg : runJ env c q188 u188 d188 (retA env Go.Proofs.Tryz.f188.results.toList k) m 0 (finit a) h) : SW Go.Proofs.Tryz.prog G (.func 188) a h k := fnI_ok mixed envOk hc q188 Go.Proofs.Tryz.func188 rfl (by kernel_rfl) (by kernel_rfl) (by kernel_rfl) (by simp [u188]) hg
theorem e193_0 (c : Caller Prop FT) (k : KV) (J : J193) (f : FT) (h : H) (l_0 : Nat) (c_0 : Nat) (n_1 : Int) : chunkA env c q193 u193 (f193 J) d193 (retA env Go.Proofs.Tryz.f193.results.toList k) .root (fset (fset f 0 (.str l_0 c_0)) 1 (.int .u8 n_1)) h = s193_0 c k J l_0 c_0 n_1 h := by kernel_rfl
theorem w193 {c : Caller Prop FT} (hc : CallOk Go.Proofs.Tryz.prog (CP env) G (fun p => p) c) {k : KV} {n : Nat} {args : List AV} {h : H} (hg : f193 (r193 c k n) 0 (finit args) h) : SW Go.Proofs.Tryz.prog G (.func 193) args h k :=
  fn_ok mixed envOk hc q193 Go.Proofs.Tryz.func193 rfl (by kernel_rfl) (by kernel_rfl) k u193 (fun n => f193 (r193 c k n))
    (fun L f h hl => by
      match L, hl with
      | 0, hl => obtain ⟨_, _, _, hl0⟩ := asS_inv (show _ from hl); obtain ⟨_, _, hl1⟩ := asI_inv (show _ from hl0); exact hl1
      | _ + 1, hl => exact hl)
    (fun n p L hm f h hl => by
      simp only [u193, List.mem_cons, Prod.mk.injEq, List.not_mem_nil, or_false] at hm
      rcases hm with ⟨rfl, rfl⟩
      · have hl : f193 (r193 c k (n + 1)) 0 f h := hl
        obtain ⟨l_0, c_0, e_0, hl0⟩ := asS_inv hl
        obtain ⟨n_1, e_1, hl1⟩ := asI_inv hl0
        have hh := e193_0 c k (r193 c k n) f h l_0 c_0 n_1
        rw [fset_self e_0] at hh
        rw [fset_self e_1] at hh
        exact Eq.mpr hh hl1
    ) (by simp [u193]) hg

theorem w200 {c : Caller Prop FT} (hc : CallOk Go.Proofs.Tryz.prog (CP env) G (fun p => p) c) {k : KV} {m : Nat} {a : List AV} {h : H} (hg : runJ env c q200 u200 d200 (retA env Go.Proofs.Tryz.f200.results.toList k) m 0 (finit a) h) : SW Go.Proofs.Tryz.prog G (.func 200) a h k := fnI_ok mixed envOk hc q200 Go.Proofs.Tryz.func200 rfl (by kernel_rfl) (by kernel_rfl) (by kernel_rfl) (by simp [u200]) hg
theorem w203 {c : Caller Prop FT} (hc : CallOk Go.Proofs.Tryz.prog (CP env) G (fun p => p) c) {k : KV} {m : Nat} {a : List AV} {h : H} (hg : runJ env c q203 u203 d203 (retA env Go.Proofs.Tryz.f203.results.toList k) m 0 (finit a) h) : SW Go.Proofs.Tryz.prog G (.func 203) a h k := fnI_ok mixed envOk hc q203 Go.Proofs.Tryz.func203 rfl (by kernel_rfl) (by kernel_rfl) (by kernel_rfl) (by simp [u203]) hg
theorem e206_0 (c : Caller Prop FT) (k : KV) (J : J206) (f : FT) (h : H) (v_0 : AV) : chunkA env c q206 u206 (f206 J) d206 (retA env Go.Proofs.Tryz.f206.results.toList k) .root (fset f 0 v_0) h = s206_0 c k J v_0 h := by kernel_rfl
theorem e206_1 (c : Caller Prop FT) (k : KV) (J : J206) (f : FT) (h : H) (v_2 : AV) (v_4 : AV) (v_6 : AV) (v_87 : AV) (n_88 : Int) (n_89 : Int) : chunkA env c q206 u206 (f206 J) d206 (retA env Go.Proofs.Tryz.f206.results.toList k) (.l (.r (.l (.r (.r (.r (.r (.r (.r (.r (.r (.r (.r (.r .root)))))))))))))) (fset (fset (fset (fset (fset (fset f 2 v_2) 4 v_4) 6 v_6) 87 v_87) 88 (.int .i64 n_88)) 89 (.int .i64 n_89)) h = s206_1 c k J v_2 v_4 v_6 v_87 n_88 n_89 h := by kernel_rfl
theorem e206_2 (c : Caller Prop FT) (k : KV) (J : J206) (f : FT) (h : H) (v_2 : AV) (v_4 : AV) (v_6 : AV) : chunkA env c q206 u206 (f206 J) d206 (retA env Go.Proofs.Tryz.f206.results.toList k) (.r (.r (.r (.r (.r (.r (.r (.r (.r (.r (.r .root))))))))))) (fset (fset (fset f 2 v_2) 4 v_4) 6 v_6) h = s206_2 c k J v_2 v_4 v_6 h := by kernel_rfl
theorem e206_3 (c : Caller Prop FT) (k : KV) (J : J206) (f : FT) (h : H) (v_0 : AV) (v_2 : AV) (v_4 : AV) (v_5 : AV) (v_6 : AV) (b_7 : Bool) : chunkA env c q206 u206 (f206 J) d206 (retA env Go.Proofs.Tryz.f206.results.toList k) (.r (.r (.r (.r (.r (.r (.r (.r (.r .root))))))))) (fset (fset (fset (fset (fset (fset f 0 v_0) 2 v_2) 4 v_4) 5 v_5) 6 v_6) 7 (.bool b_7)) h = s206_3 c k J v_0 v_2 v_4 v_5 v_6 b_7 h := by kernel_rfl
theorem e206_4 (c : Caller Prop FT) (k : KV) (J : J206) (f : FT) (h : H) (v_0 : AV) (v_2 : AV) (v_4 : AV) (v_5 : AV) (v_6 : AV) (b_7 : Bool) (b_59 : Bool) : chunkA env c q206 u206 (f206 J) d206 (retA env Go.Proofs.Tryz.f206.results.toList k) (.r (.l (.r (.r (.r (.r (.r (.r (.r (.r .root)))))))))) (fset (fset (fset (fset (fset (fset (fset f 0 v_0) 2 v_2) 4 v_4) 5 v_5) 6 v_6) 7 (.bool b_7)) 59 (.bool b_59)) h = s206_4 c k J v_0 v_2 v_4 v_5 v_6 b_7 b_59 h := by kernel_rfl
theorem w206 {c : Caller Prop FT} (hc : CallOk Go.Proofs.Tryz.prog (CP env) G (fun p => p) c) {k : KV} {n : Nat} {args : List AV} {h : H} (hg : f206 (r206 c k n) 0 (finit args) h) : SW Go.Proofs.Tryz.prog G (.func 206) args h k :=
  fn_ok mixed envOk hc q206 Go.Proofs.Tryz.func206 rfl (by kernel_rfl) (by kernel_rfl) k u206 (fun n => f206 (r206 c k n))
    (fun L f h hl => by
      match L, hl with
      | 0, hl => exact hl
      | 1, hl => obtain ⟨_, _, hl0⟩ := asI_inv (show _ from hl); obtain ⟨_, _, hl1⟩ := asI_inv (show _ from hl0); exact hl1
      | 2, hl => exact hl
      | 3, hl => obtain ⟨_, _, hl0⟩ := asB_inv (show _ from hl); exact hl0
      | 4, hl => obtain ⟨_, _, hl0⟩ := asB_inv (show _ from hl); obtain ⟨_, _, hl1⟩ := asB_inv (show _ from hl0); exact hl1
      | _ + 5, hl => exact hl)
    (fun n p L hm f h hl => by
      simp only [u206, List.mem_cons, Prod.mk.injEq, List.not_mem_nil, or_false] at hm
      rcases hm with ⟨rfl, rfl⟩ | ⟨rfl, rfl⟩ | ⟨rfl, rfl⟩ | ⟨rfl, rfl⟩ | ⟨rfl, rfl⟩
      · have hl : f206 (r206 c k (n + 1)) 0 f h := hl
        have hh := e206_0 c k (r206 c k n) f h (f 0)
        rw [fset_self (rfl : f 0 = f 0)] at hh
        exact Eq.mpr hh hl
      · have hl : f206 (r206 c k (n + 1)) 1 f h := hl
        obtain ⟨n_88, e_88, hl4⟩ := asI_inv hl
        obtain ⟨n_89, e_89, hl5⟩ := asI_inv hl4
        have hh := e206_1 c k (r206 c k n) f h (f 2) (f 4) (f 6) (f 87) n_88 n_89
        rw [fset_self (rfl : f 2 = f 2)] at hh
        rw [fset_self (rfl : f 4 = f 4)] at hh
        rw [fset_self (rfl : f 6 = f 6)] at hh
        rw [fset_self (rfl : f 87 = f 87)] at hh
        rw [fset_self e_88] at hh
        rw [fset_self e_89] at hh
        exact Eq.mpr hh hl5
      · have hl : f206 (r206 c k (n + 1)) 2 f h := hl
        have hh := e206_2 c k (r206 c k n) f h (f 2) (f 4) (f 6)
        rw [fset_self (rfl : f 2 = f 2)] at hh
        rw [fset_self (rfl : f 4 = f 4)] at hh
        rw [fset_self (rfl : f 6 = f 6)] at hh
        exact Eq.mpr hh hl
      · have hl : f206 (r206 c k (n + 1)) 3 f h := hl
        obtain ⟨b_7, e_7, hl5⟩ := asB_inv hl
        have hh := e206_3 c k (r206 c k n) f h (f 0) (f 2) (f 4) (f 5) (f 6) b_7
        rw [fset_self (rfl : f 0 = f 0)] at hh
        rw [fset_self (rfl : f 2 = f 2)] at hh
        rw [fset_self (rfl : f 4 = f 4)] at hh
        rw [fset_self (rfl : f 5 = f 5)] at hh
        rw [fset_self (rfl : f 6 = f 6)] at hh
        rw [fset_self e_7] at hh
        exact Eq.mpr hh hl5
      · have hl : f206 (r206 c k (n + 1)) 4 f h := hl
        obtain ⟨b_7, e_7, hl5⟩ := asB_inv hl
        obtain ⟨b_59, e_59, hl6⟩ := asB_inv hl5
        have hh := e206_4 c k (r206 c k n) f h (f 0) (f 2) (f 4) (f 5) (f 6) b_7 b_59
        rw [fset_self (rfl : f 0 = f 0)] at hh
        rw [fset_self (rfl : f 2 = f 2)] at hh
        rw [fset_self (rfl : f 4 = f 4)] at hh
        rw [fset_self (rfl : f 5 = f 5)] at hh
        rw [fset_self (rfl : f 6 = f 6)] at hh
        rw [fset_self e_7] at hh
        rw [fset_self e_59] at hh
        exact Eq.mpr hh hl6
    ) (by simp [u206]) hg

theorem w209 {c : Caller Prop FT} (hc : CallOk Go.Proofs.Tryz.prog (CP env) G (fun p => p) c) {k : KV} {m : Nat} {a : List AV} {h : H} (hg : runJ env c q209 u209 d209 (retA env Go.Proofs.Tryz.f209.results.toList k) m 0 (finit a) h) : SW Go.Proofs.Tryz.prog G (.func 209) a h k := fnI_ok mixed envOk hc q209 Go.Proofs.Tryz.func209 rfl (by kernel_rfl) (by kernel_rfl) (by kernel_rfl) (by simp [u209]) hg
theorem e211_0 (c : Caller Prop FT) (k : KV) (J : J211) (f : FT) (h : H) (v_0 : AV) : chunkA env c q211 u211 (f211 J) d211 (retA env Go.Proofs.Tryz.f211.results.toList k) .root (fset f 0 v_0) h = s211_0 c k J v_0 h := by kernel_rfl
theorem w211 {c : Caller Prop FT} (hc : CallOk Go.Proofs.Tryz.prog (CP env) G (fun p => p) c) {k : KV} {n : Nat} {args : List AV} {h : H} (hg : f211 (r211 c k n) 0 (finit args) h) : SW Go.Proofs.Tryz.prog G (.func 211) args h k :=
  fn_ok mixed envOk hc q211 Go.Proofs.Tryz.func211 rfl (by kernel_rfl) (by kernel_rfl) k u211 (fun n => f211 (r211 c k n))
    (fun L f h hl => by
      match L, hl with
      | 0, hl => exact hl
      | _ + 1, hl => exact hl)
    (fun n p L hm f h hl => by
      simp only [u211, List.mem_cons, Prod.mk.injEq, List.not_mem_nil, or_false] at hm
      rcases hm with ⟨rfl, rfl⟩
      · have hl : f211 (r211 c k (n + 1)) 0 f h := hl
        have hh := e211_0 c k (r211 c k n) f h (f 0)
        rw [fset_self (rfl : f 0 = f 0)] at hh
        exact Eq.mpr hh hl
    ) (by simp [u211]) hg

theorem w222 {c : Caller Prop FT} (hc : CallOk Go.Proofs.Tryz.prog (CP env) G (fun p => p) c) {k : KV} {m : Nat} {a : List AV} {h : H} (hg : runJ env c q222 u222 d222 (retA env Go.Proofs.Tryz.f222.results.toList k) m 0 (finit a) h) : SW Go.Proofs.Tryz.prog G (.func 222) a h k := fnI_ok mixed envOk hc q222 Go.Proofs.Tryz.func222 rfl (by kernel_rfl) (by kernel_rfl) (by kernel_rfl) (by simp [u222]) hg
theorem e224_0 (c : Caller Prop FT) (k : KV) (J : J224) (f : FT) (h : H) (v_0 : AV) : chunkA env c q224 u224 (f224 J) d224 (retA env Go.Proofs.Tryz.f224.results.toList k) .root (fset f 0 v_0) h = s224_0 c k J v_0 h := by kernel_rfl
theorem e224_1 (c : Caller Prop FT) (k : KV) (J : J224) (f : FT) (h : H) (v_2 : AV) (v_5 : AV) (n_6 : Int) (n_7 : Int) : chunkA env c q224 u224 (f224 J) d224 (retA env Go.Proofs.Tryz.f224.results.toList k) (.l (.r (.l (.r .root)))) (fset (fset (fset (fset f 2 v_2) 5 v_5) 6 (.int .i64 n_6)) 7 (.int .i64 n_7)) h = s224_1 c k J v_2 v_5 n_6 n_7 h := by kernel_rfl
theorem w224 {c : Caller Prop FT} (hc : CallOk Go.Proofs.Tryz.prog (CP env) G (fun p => p) c) {k : KV} {n : Nat} {args : List AV} {h : H} (hg : f224 (r224 c k n) 0 (finit args) h) : SW Go.Proofs.Tryz.prog G (.func 224) args h k :=
  fn_ok mixed envOk hc q224 Go.Proofs.Tryz.func224 rfl (by kernel_rfl) (by kernel_rfl) k u224 (fun n => f224 (r224 c k n))
    (fun L f h hl => by
      match L, hl with
      | 0, hl => exact hl
      | 1, hl => obtain ⟨_, _, hl0⟩ := asI_inv (show _ from hl); obtain ⟨_, _, hl1⟩ := asI_inv (show _ from hl0); exact hl1
      | _ + 2, hl => exact hl)
    (fun n p L hm f h hl => by
      simp only [u224, List.mem_cons, Prod.mk.injEq, List.not_mem_nil, or_false] at hm
      rcases hm with ⟨rfl, rfl⟩ | ⟨rfl, rfl⟩
      · have hl : f224 (r224 c k (n + 1)) 0 f h := hl
        have hh := e224_0 c k (r224 c k n) f h (f 0)
        rw [fset_self (rfl : f 0 = f 0)] at hh
        exact Eq.mpr hh hl
      · have hl : f224 (r224 c k (n + 1)) 1 f h := hl
        obtain ⟨n_6, e_6, hl2⟩ := asI_inv hl
        obtain ⟨n_7, e_7, hl3⟩ := asI_inv hl2
        have hh := e224_1 c k (r224 c k n) f h (f 2) (f 5) n_6 n_7
        rw [fset_self (rfl : f 2 = f 2)] at hh
        rw [fset_self (rfl : f 5 = f 5)] at hh
        rw [fset_self e_6] at hh
        rw [fset_self e_7] at hh
        exact Eq.mpr hh hl3
    ) (by simp [u224]) hg

theorem e230_0 (c : Caller Prop FT) (k : KV) (J : J230) (f : FT) (h : H) (v_0 : AV) : chunkA env c q230 u230 (f230 J) d230 (retA env Go.Proofs.Tryz.f230.results.toList k) .root (fset f 0 v_0) h = s230_0 c k J v_0 h := by kernel_rfl
theorem w230 {c : Caller Prop FT} (hc : CallOk Go.Proofs.Tryz.prog (CP env) G (fun p => p) c) {k : KV} {n : Nat} {args : List AV} {h : H} (hg : f230 (r230 c k n) 0 (finit args) h) : SW Go.Proofs.Tryz.prog G (.func 230) args h k :=
  fn_ok mixed envOk hc q230 Go.Proofs.Tryz.func230 rfl (by kernel_rfl) (by kernel_rfl) k u230 (fun n => f230 (r230 c k n))
    (fun L f h hl => by
      match L, hl with
      | 0, hl => exact hl
      | _ + 1, hl => exact hl)
    (fun n p L hm f h hl => by
      simp only [u230, List.mem_cons, Prod.mk.injEq, List.not_mem_nil, or_false] at hm
      rcases hm with ⟨rfl, rfl⟩
      · have hl : f230 (r230 c k (n + 1)) 0 f h := hl
        have hh := e230_0 c k (r230 c k n) f h (f 0)
        rw [fset_self (rfl : f 0 = f 0)] at hh
        exact Eq.mpr hh hl
    ) (by simp [u230]) hg
theorem wd230 {c : Caller Prop FT} (hc : CallOk Go.Proofs.Tryz.prog (CP env) G (fun p => p) c) {k : KV} {n : Nat} {args : List AV} {h : H} (hg : f230 (r230 c k n) 0 (finit args) h) : SWD Go.Proofs.Tryz.prog G 230 args h k :=
  fnD_ok mixed envOk hc q230 Go.Proofs.Tryz.func230 rfl (by kernel_rfl) (by kernel_rfl) k u230 (fun n => f230 (r230 c k n))
    (fun L f h hl => by
      match L, hl with
      | 0, hl => exact hl
      | _ + 1, hl => exact hl)
    (fun n p L hm f h hl => by
      simp only [u230, List.mem_cons, Prod.mk.injEq, List.not_mem_nil, or_false] at hm
      rcases hm with ⟨rfl, rfl⟩
      · have hl : f230 (r230 c k (n + 1)) 0 f h := hl
        have hh := e230_0 c k (r230 c k n) f h (f 0)
        rw [fset_self (rfl : f 0 = f 0)] at hh
        exact Eq.mpr hh hl
    ) (by simp [u230]) hg

theorem w236 {c : Caller Prop FT} (hc : CallOk Go.Proofs.Tryz.prog (CP env) G (fun p => p) c) {k : KV} {m : Nat} {a : List AV} {h : H} (hg : runJ env c q236 u236 d236 (retA env Go.Proofs.Tryz.f236.results.toList k) m 0 (finit a) h) : SW Go.Proofs.Tryz.prog G (.func 236) a h k := fnI_ok mixed envOk hc q236 Go.Proofs.Tryz.func236 rfl (by kernel_rfl) (by kernel_rfl) (by kernel_rfl) (by simp [u236]) hg
theorem w239 {c : Caller Prop FT} (hc : CallOk Go.Proofs.Tryz.prog (CP env) G (fun p => p) c) {k : KV} {m : Nat} {a : List AV} {h : H} (hg : runJ env c q239 u239 d239 (retA env Go.Proofs.Tryz.f239.results.toList k) m 0 (finit a) h) : SW Go.Proofs.Tryz.prog G (.func 239) a h k := fnI_ok mixed envOk hc q239 Go.Proofs.Tryz.func239 rfl (by kernel_rfl) (by kernel_rfl) (by kernel_rfl) (by simp [u239]) hg
theorem e242_0 (c : Caller Prop FT) (k : KV) (J : J242) (f : FT) (h : H) (v_0 : AV) : chunkA env c q242 u242 (f242 J) d242 (retA env Go.Proofs.Tryz.f242.results.toList k) .root (fset f 0 v_0) h = s242_0 c k J v_0 h := by kernel_rfl
theorem w242 {c : Caller Prop FT} (hc : CallOk Go.Proofs.Tryz.prog (CP env) G (fun p => p) c) {k : KV} {n : Nat} {args : List AV} {h : H} (hg : f242 (r242 c k n) 0 (finit args) h) : SW Go.Proofs.Tryz.prog G (.func 242) args h k :=
  fn_ok mixed envOk hc q242 Go.Proofs.Tryz.func242 rfl (by kernel_rfl) (by kernel_rfl) k u242 (fun n => f242 (r242 c k n))
    (fun L f h hl => by
      match L, hl with
      | 0, hl => exact hl
      | _ + 1, hl => exact hl)
    (fun n p L hm f h hl => by
      simp only [u242, List.mem_cons, Prod.mk.injEq, List.not_mem_nil, or_false] at hm
      rcases hm with ⟨rfl, rfl⟩
      · have hl : f242 (r242 c k (n + 1)) 0 f h := hl
        have hh := e242_0 c k (r242 c k n) f h (f 0)
        rw [fset_self (rfl : f 0 = f 0)] at hh
        exact Eq.mpr hh hl
    ) (by simp [u242]) hg

theorem e253_0 (c : Caller Prop FT) (k : KV) (J : J253) (f : FT) (h : H) (v_0 : AV) (l_1 : Nat) (c_1 : Nat) : chunkA env c q253 u253 (f253 J) d253 (retA env Go.Proofs.Tryz.f253.results.toList k) .root (fset (fset f 0 v_0) 1 (.str l_1 c_1)) h = s253_0 c k J v_0 l_1 c_1 h := by kernel_rfl
theorem e253_1 (c : Caller Prop FT) (k : KV) (J : J253) (f : FT) (h : H) (v_0 : AV) (l_1 : Nat) (c_1 : Nat) (n_7 : Int) (n_8 : Int) : chunkA env c q253 u253 (f253 J) d253 (retA env Go.Proofs.Tryz.f253.results.toList k) (.l (.r (.l (.r .root)))) (fset (fset (fset (fset f 0 v_0) 1 (.str l_1 c_1)) 7 (.int .i64 n_7)) 8 (.int .i64 n_8)) h = s253_1 c k J v_0 l_1 c_1 n_7 n_8 h := by kernel_rfl
theorem w253 {c : Caller Prop FT} (hc : CallOk Go.Proofs.Tryz.prog (CP env) G (fun p => p) c) {k : KV} {n : Nat} {args : List AV} {h : H} (hg : f253 (r253 c k n) 0 (finit args) h) : SW Go.Proofs.Tryz.prog G (.func 253) args h k :=
  fn_ok mixed envOk hc q253 Go.Proofs.Tryz.func253 rfl (by kernel_rfl) (by kernel_rfl) k u253 (fun n => f253 (r253 c k n))
    (fun L f h hl => by
      match L, hl with
      | 0, hl => obtain ⟨_, _, _, hl0⟩ := asS_inv (show _ from hl); exact hl0
      | 1, hl => obtain ⟨_, _, _, hl0⟩ := asS_inv (show _ from hl); obtain ⟨_, _, hl1⟩ := asI_inv (show _ from hl0); obtain ⟨_, _, hl2⟩ := asI_inv (show _ from hl1); exact hl2
      | _ + 2, hl => exact hl)
    (fun n p L hm f h hl => by
      simp only [u253, List.mem_cons, Prod.mk.injEq, List.not_mem_nil, or_false] at hm
      rcases hm with ⟨rfl, rfl⟩ | ⟨rfl, rfl⟩
      · have hl : f253 (r253 c k (n + 1)) 0 f h := hl
        obtain ⟨l_1, c_1, e_1, hl1⟩ := asS_inv hl
        have hh := e253_0 c k (r253 c k n) f h (f 0) l_1 c_1
        rw [fset_self (rfl : f 0 = f 0)] at hh
        rw [fset_self e_1] at hh
        exact Eq.mpr hh hl1
      · have hl : f253 (r253 c k (n + 1)) 1 f h := hl
        obtain ⟨l_1, c_1, e_1, hl1⟩ := asS_inv hl
        obtain ⟨n_7, e_7, hl2⟩ := asI_inv hl1
        obtain ⟨n_8, e_8, hl3⟩ := asI_inv hl2
        have hh := e253_1 c k (r253 c k n) f h (f 0) l_1 c_1 n_7 n_8
        rw [fset_self (rfl : f 0 = f 0)] at hh
        rw [fset_self e_1] at hh
        rw [fset_self e_7] at hh
        rw [fset_self e_8] at hh
        exact Eq.mpr hh hl3
    ) (by simp [u253]) hg

theorem e258_0 (c : Caller Prop FT) (k : KV) (J : J258) (f : FT) (h : H) (b_0 : Bool) : chunkA env c q258 u258 (f258 J) d258 (retA env Go.Proofs.Tryz.f258.results.toList k) .root (fset f 0 (.bool b_0)) h = s258_0 c k J b_0 h := by kernel_rfl
theorem w258 {c : Caller Prop FT} (hc : CallOk Go.Proofs.Tryz.prog (CP env) G (fun p => p) c) {k : KV} {n : Nat} {args : List AV} {h : H} (hg : f258 (r258 c k n) 0 (finit args) h) : SW Go.Proofs.Tryz.prog G (.func 258) args h k :=
  fn_ok mixed envOk hc q258 Go.Proofs.Tryz.func258 rfl (by kernel_rfl) (by kernel_rfl) k u258 (fun n => f258 (r258 c k n))
    (fun L f h hl => by
      match L, hl with
      | 0, hl => obtain ⟨_, _, hl0⟩ := asB_inv (show _ from hl); exact hl0
      | _ + 1, hl => exact hl)
    (fun n p L hm f h hl => by
      simp only [u258, List.mem_cons, Prod.mk.injEq, List.not_mem_nil, or_false] at hm
      rcases hm with ⟨rfl, rfl⟩
      · have hl : f258 (r258 c k (n + 1)) 0 f h := hl
        obtain ⟨b_0, e_0, hl0⟩ := asB_inv hl
        have hh := e258_0 c k (r258 c k n) f h b_0
        rw [fset_self e_0] at hh
        exact Eq.mpr hh hl0
    ) (by simp [u258]) hg

theorem w260 {c : Caller Prop FT} (hc : CallOk Go.Proofs.Tryz.prog (CP env) G (fun p => p) c) {k : KV} {m : Nat} {a : List AV} {h : H} (hg : runJ env c q260 u260 d260 (retA env Go.Proofs.Tryz.f260.results.toList k) m 0 (finit a) h) : SW Go.Proofs.Tryz.prog G (.func 260) a h k := fnI_ok mixed envOk hc q260 Go.Proofs.Tryz.func260 rfl (by kernel_rfl) (by kernel_rfl) (by kernel_rfl) (by simp [u260]) hg
theorem w265 {c : Caller Prop FT} (hc : CallOk Go.Proofs.Tryz.prog (CP env) G (fun p => p) c) {k : KV} {m : Nat} {a : List AV} {h : H} (hg : runJ env c q265 u265 d265 (retA env Go.Proofs.Tryz.f265.results.toList k) m 0 (finit a) h) : SW Go.Proofs.Tryz.prog G (.func 265) a h k := fnI_ok mixed envOk hc q265 Go.Proofs.Tryz.func265 rfl (by kernel_rfl) (by kernel_rfl) (by kernel_rfl) (by simp [u265]) hg
theorem w271 {c : Caller Prop FT} (hc : CallOk Go.Proofs.Tryz.prog (CP env) G (fun p => p) c) {k : KV} {m : Nat} {a : List AV} {h : H} (hg : runJ env c q271 u271 d271 (retA env Go.Proofs.Tryz.f271.results.toList k) m 0 (finit a) h) : SW Go.Proofs.Tryz.prog G (.func 271) a h k := fnI_ok mixed envOk hc q271 Go.Proofs.Tryz.func271 rfl (by kernel_rfl) (by kernel_rfl) (by kernel_rfl) (by simp [u271]) hg
theorem w289 {c : Caller Prop FT} (hc : CallOk Go.Proofs.Tryz.prog (CP env) G (fun p => p) c) {k : KV} {m : Nat} {a : List AV} {h : H} (hg : runJ env c q289 u289 d289 (retA env Go.Proofs.Tryz.f289.results.toList k) m 0 (finit a) h) : SW Go.Proofs.Tryz.prog G (.func 289) a h k := fnI_ok mixed envOk hc q289 Go.Proofs.Tryz.func289 rfl (by kernel_rfl) (by kernel_rfl) (by kernel_rfl) (by simp [u289]) hg
theorem w292 {c : Caller Prop FT} (hc : CallOk Go.Proofs.Tryz.prog (CP env) G (fun p => p) c) {k : KV} {m : Nat} {a : List AV} {h : H} (hg : runJ env c q292 u292 d292 (retA env Go.Proofs.Tryz.f292.results.toList k) m 0 (finit a) h) : SW Go.Proofs.Tryz.prog G (.func 292) a h k := fnI_ok mixed envOk hc q292 Go.Proofs.Tryz.func292 rfl (by kernel_rfl) (by kernel_rfl) (by kernel_rfl) (by simp [u292]) hg
theorem w298 {c : Caller Prop FT} (hc : CallOk Go.Proofs.Tryz.prog (CP env) G (fun p => p) c) {k : KV} {m : Nat} {a : List AV} {h : H} (hg : runJ env c q298 u298 d298 (retA env Go.Proofs.Tryz.f298.results.toList k) m 0 (finit a) h) : SW Go.Proofs.Tryz.prog G (.func 298) a h k := fnI_ok mixed envOk hc q298 Go.Proofs.Tryz.func298 rfl (by kernel_rfl) (by kernel_rfl) (by kernel_rfl) (by simp [u298]) hg
theorem w303 {c : Caller Prop FT} (hc : CallOk Go.Proofs.Tryz.prog (CP env) G (fun p => p) c) {k : KV} {m : Nat} {a : List AV} {h : H} (hg : runJ env c q303 u303 d303 (retA env Go.Proofs.Tryz.f303.results.toList k) m 0 (finit a) h) : SW Go.Proofs.Tryz.prog G (.func 303) a h k := fnI_ok mixed envOk hc q303 Go.Proofs.Tryz.func303 rfl (by kernel_rfl) (by kernel_rfl) (by kernel_rfl) (by simp [u303]) hg
theorem w320 {c : Caller Prop FT} (hc : CallOk Go.Proofs.Tryz.prog (CP env) G (fun p => p) c) {k : KV} {m : Nat} {a : List AV} {h : H} (hg : runJ env c q320 u320 d320 (retA env Go.Proofs.Tryz.f320.results.toList k) m 0 (finit a) h) : SW Go.Proofs.Tryz.prog G (.func 320) a h k := fnI_ok mixed envOk hc q320 Go.Proofs.Tryz.func320 rfl (by kernel_rfl) (by kernel_rfl) (by kernel_rfl) (by simp [u320]) hg
theorem w327 {c : Caller Prop FT} (hc : CallOk Go.Proofs.Tryz.prog (CP env) G (fun p => p) c) {k : KV} {m : Nat} {a : List AV} {h : H} (hg : runJ env c q327 u327 d327 (retA env Go.Proofs.Tryz.f327.results.toList k) m 0 (finit a) h) : SW Go.Proofs.Tryz.prog G (.func 327) a h k := fnI_ok mixed envOk hc q327 Go.Proofs.Tryz.func327 rfl (by kernel_rfl) (by kernel_rfl) (by kernel_rfl) (by simp [u327]) hg
theorem w345 {c : Caller Prop FT} (hc : CallOk Go.Proofs.Tryz.prog (CP env) G (fun p => p) c) {k : KV} {m : Nat} {a : List AV} {h : H} (hg : runJ env c q345 u345 d345 (retA env Go.Proofs.Tryz.f345.results.toList k) m 0 (finit a) h) : SW Go.Proofs.Tryz.prog G (.func 345) a h k := fnI_ok mixed envOk hc q345 Go.Proofs.Tryz.func345 rfl (by kernel_rfl) (by kernel_rfl) (by kernel_rfl) (by simp [u345]) hg
theorem w355 {c : Caller Prop FT} (hc : CallOk Go.Proofs.Tryz.prog (CP env) G (fun p => p) c) {k : KV} {m : Nat} {a : List AV} {h : H} (hg : runJ env c q355 u355 d355 (retA env Go.Proofs.Tryz.f355.results.toList k) m 0 (finit a) h) : SW Go.Proofs.Tryz.prog G (.func 355) a h k := fnI_ok mixed envOk hc q355 Go.Proofs.Tryz.func355 rfl (by kernel_rfl) (by kernel_rfl) (by kernel_rfl) (by simp [u355]) hg
end Go.Den
