/-
  A part of the proof: the pieces are what the program does.
-/
import Derived.Test.YtpnfpdmkladmpaaGreatDoorTaA1
import Derived.Test.YtpnfpdmkladmpaaGreatDoorTaA2
import Derived.KernelRfl
namespace Go.Den
set_option maxRecDepth 100000
theorem w10 {c : Caller Prop FT} (hc : CallOk Go.Proofs.Tryz.prog (CP env) G (fun p => p) c) {k : KV} {m : Nat} {a : List AV} {h : H} (hg : runJ env c q10 u10 d10 (retA env Go.Proofs.Tryz.f10.results.toList k) m 0 (finit a) h) : SW Go.Proofs.Tryz.prog G (.func 10) a h k := fnI_ok mixed envOk hc q10 Go.Proofs.Tryz.func10 rfl (by kernel_rfl) (by kernel_rfl) (by kernel_rfl) (by simp [u10]) hg
theorem w15 {c : Caller Prop FT} (hc : CallOk Go.Proofs.Tryz.prog (CP env) G (fun p => p) c) {k : KV} {m : Nat} {a : List AV} {h : H} (hg : runJ env c q15 u15 d15 (retA env Go.Proofs.Tryz.f15.results.toList k) m 0 (finit a) h) : SW Go.Proofs.Tryz.prog G (.func 15) a h k := fnI_ok mixed envOk hc q15 Go.Proofs.Tryz.func15 rfl (by kernel_rfl) (by kernel_rfl) (by kernel_rfl) (by simp [u15]) hg
theorem w18 {c : Caller Prop FT} (hc : CallOk Go.Proofs.Tryz.prog (CP env) G (fun p => p) c) {k : KV} {m : Nat} {a : List AV} {h : H} (hg : runJ env c q18 u18 d18 (retA env Go.Proofs.Tryz.f18.results.toList k) m 0 (finit a) h) : SW Go.Proofs.Tryz.prog G (.func 18) a h k := fnI_ok mixed envOk hc q18 Go.Proofs.Tryz.func18 rfl (by kernel_rfl) (by kernel_rfl) (by kernel_rfl) (by simp [u18]) hg
theorem e20_0 (c : Caller Prop FT) (k : KV) (J : J20) (f : FT) (h : H) (v_0 : AV) (v_1 : AV) : chunkA env c q20 u20 (f20 J) d20 (retA env Go.Proofs.Tryz.f20.results.toList k) .root (fset (fset f 0 v_0) 1 v_1) h = s20_0 c k J v_0 v_1 h := by kernel_rfl
theorem e20_1 (c : Caller Prop FT) (k : KV) (J : J20) (f : FT) (h : H) (v_1 : AV) (v_7 : AV) (v_9 : AV) (n_10 : Int) : chunkA env c q20 u20 (f20 J) d20 (retA env Go.Proofs.Tryz.f20.results.toList k) (.l (.r (.l (.r (.r (.r (.r .root))))))) (fset (fset (fset (fset f 1 v_1) 7 v_7) 9 v_9) 10 (.int .i64 n_10)) h = s20_1 c k J v_1 v_7 v_9 n_10 h := by kernel_rfl
theorem w20 {c : Caller Prop FT} (hc : CallOk Go.Proofs.Tryz.prog (CP env) G (fun p => p) c) {k : KV} {n : Nat} {args : List AV} {h : H} (hg : f20 (r20 c k n) 0 (finit args) h) : SW Go.Proofs.Tryz.prog G (.func 20) args h k :=
  fn_ok mixed envOk hc q20 Go.Proofs.Tryz.func20 rfl (by kernel_rfl) (by kernel_rfl) k u20 (fun n => f20 (r20 c k n))
    (fun L f h hl => by
      match L, hl with
      | 0, hl => exact hl
      | 1, hl => obtain ⟨_, _, hl0⟩ := asI_inv (show _ from hl); exact hl0
      | _ + 2, hl => exact hl)
    (fun n p L hm f h hl => by
      simp only [u20, List.mem_cons, Prod.mk.injEq, List.not_mem_nil, or_false] at hm
      rcases hm with ⟨rfl, rfl⟩ | ⟨rfl, rfl⟩
      · have hl : f20 (r20 c k (n + 1)) 0 f h := hl
        have hh := e20_0 c k (r20 c k n) f h (f 0) (f 1)
        rw [fset_self (rfl : f 0 = f 0)] at hh
        rw [fset_self (rfl : f 1 = f 1)] at hh
        exact Eq.mpr hh hl
      · have hl : f20 (r20 c k (n + 1)) 1 f h := hl
        obtain ⟨n_10, e_10, hl3⟩ := asI_inv hl
        have hh := e20_1 c k (r20 c k n) f h (f 1) (f 7) (f 9) n_10
        rw [fset_self (rfl : f 1 = f 1)] at hh
        rw [fset_self (rfl : f 7 = f 7)] at hh
        rw [fset_self (rfl : f 9 = f 9)] at hh
        rw [fset_self e_10] at hh
        exact Eq.mpr hh hl3
    ) (by simp [u20]) hg

theorem e21_0 (c : Caller Prop FT) (k : KV) (J : J21) (f : FT) (h : H) (v_0 : AV) : chunkA env c q21 u21 (f21 J) d21 (retA env Go.Proofs.Tryz.f21.results.toList k) .root (fset f 0 v_0) h = s21_0 c k J v_0 h := by kernel_rfl
theorem w21 {c : Caller Prop FT} (hc : CallOk Go.Proofs.Tryz.prog (CP env) G (fun p => p) c) {k : KV} {n : Nat} {args : List AV} {h : H} (hg : f21 (r21 c k n) 0 (finit args) h) : SW Go.Proofs.Tryz.prog G (.func 21) args h k :=
  fn_ok mixed envOk hc q21 Go.Proofs.Tryz.func21 rfl (by kernel_rfl) (by kernel_rfl) k u21 (fun n => f21 (r21 c k n))
    (fun L f h hl => by
      match L, hl with
      | 0, hl => exact hl
      | _ + 1, hl => exact hl)
    (fun n p L hm f h hl => by
      simp only [u21, List.mem_cons, Prod.mk.injEq, List.not_mem_nil, or_false] at hm
      rcases hm with ⟨rfl, rfl⟩
      · have hl : f21 (r21 c k (n + 1)) 0 f h := hl
        have hh := e21_0 c k (r21 c k n) f h (f 0)
        rw [fset_self (rfl : f 0 = f 0)] at hh
        exact Eq.mpr hh hl
    ) (by simp [u21]) hg

theorem w29 {c : Caller Prop FT} (hc : CallOk Go.Proofs.Tryz.prog (CP env) G (fun p => p) c) {k : KV} {m : Nat} {a : List AV} {h : H} (hg : runJ env c q29 u29 d29 (retA env Go.Proofs.Tryz.f29.results.toList k) m 0 (finit a) h) : SW Go.Proofs.Tryz.prog G (.func 29) a h k := fnI_ok mixed envOk hc q29 Go.Proofs.Tryz.func29 rfl (by kernel_rfl) (by kernel_rfl) (by kernel_rfl) (by simp [u29]) hg
theorem e34_0 (c : Caller Prop FT) (k : KV) (J : J34) (f : FT) (h : H) (v_0 : AV) : chunkA env c q34 u34 (f34 J) d34 (retA env Go.Proofs.Tryz.f34.results.toList k) .root (fset f 0 v_0) h = s34_0 c k J v_0 h := by kernel_rfl
theorem w34 {c : Caller Prop FT} (hc : CallOk Go.Proofs.Tryz.prog (CP env) G (fun p => p) c) {k : KV} {n : Nat} {args : List AV} {h : H} (hg : f34 (r34 c k n) 0 (finit args) h) : SW Go.Proofs.Tryz.prog G (.func 34) args h k :=
  fn_ok mixed envOk hc q34 Go.Proofs.Tryz.func34 rfl (by kernel_rfl) (by kernel_rfl) k u34 (fun n => f34 (r34 c k n))
    (fun L f h hl => by
      match L, hl with
      | 0, hl => exact hl
      | _ + 1, hl => exact hl)
    (fun n p L hm f h hl => by
      simp only [u34, List.mem_cons, Prod.mk.injEq, List.not_mem_nil, or_false] at hm
      rcases hm with ⟨rfl, rfl⟩
      · have hl : f34 (r34 c k (n + 1)) 0 f h := hl
        have hh := e34_0 c k (r34 c k n) f h (f 0)
        rw [fset_self (rfl : f 0 = f 0)] at hh
        exact Eq.mpr hh hl
    ) (by simp [u34]) hg

theorem e39_0 (c : Caller Prop FT) (k : KV) (J : J39) (f : FT) (h : H) (v_0 : AV) (l_1 : Nat) (c_1 : Nat) (l_2 : Nat) (c_2 : Nat) : chunkA env c q39 u39 (f39 J) d39 (retA env Go.Proofs.Tryz.f39.results.toList k) .root (fset (fset (fset f 0 v_0) 1 (.str l_1 c_1)) 2 (.str l_2 c_2)) h = s39_0 c k J v_0 l_1 c_1 l_2 c_2 h := by kernel_rfl
theorem e39_1 (c : Caller Prop FT) (k : KV) (J : J39) (f : FT) (h : H) (v_0 : AV) (l_1 : Nat) (c_1 : Nat) (l_2 : Nat) (c_2 : Nat) (n_6 : Int) (v_8 : AV) : chunkA env c q39 u39 (f39 J) d39 (retA env Go.Proofs.Tryz.f39.results.toList k) (.r (.r (.r .root))) (fset (fset (fset (fset (fset f 0 v_0) 1 (.str l_1 c_1)) 2 (.str l_2 c_2)) 6 (.int .i64 n_6)) 8 v_8) h = s39_1 c k J v_0 l_1 c_1 l_2 c_2 n_6 v_8 h := by kernel_rfl
theorem w39 {c : Caller Prop FT} (hc : CallOk Go.Proofs.Tryz.prog (CP env) G (fun p => p) c) {k : KV} {n : Nat} {args : List AV} {h : H} (hg : f39 (r39 c k n) 0 (finit args) h) : SW Go.Proofs.Tryz.prog G (.func 39) args h k :=
  fn_ok mixed envOk hc q39 Go.Proofs.Tryz.func39 rfl (by kernel_rfl) (by kernel_rfl) k u39 (fun n => f39 (r39 c k n))
    (fun L f h hl => by
      match L, hl with
      | 0, hl => obtain ⟨_, _, _, hl0⟩ := asS_inv (show _ from hl); obtain ⟨_, _, _, hl1⟩ := asS_inv (show _ from hl0); exact hl1
      | 1, hl => obtain ⟨_, _, _, hl0⟩ := asS_inv (show _ from hl); obtain ⟨_, _, _, hl1⟩ := asS_inv (show _ from hl0); obtain ⟨_, _, hl2⟩ := asI_inv (show _ from hl1); exact hl2
      | _ + 2, hl => exact hl)
    (fun n p L hm f h hl => by
      simp only [u39, List.mem_cons, Prod.mk.injEq, List.not_mem_nil, or_false] at hm
      rcases hm with ⟨rfl, rfl⟩ | ⟨rfl, rfl⟩
      · have hl : f39 (r39 c k (n + 1)) 0 f h := hl
        obtain ⟨l_1, c_1, e_1, hl1⟩ := asS_inv hl
        obtain ⟨l_2, c_2, e_2, hl2⟩ := asS_inv hl1
        have hh := e39_0 c k (r39 c k n) f h (f 0) l_1 c_1 l_2 c_2
        rw [fset_self (rfl : f 0 = f 0)] at hh
        rw [fset_self e_1] at hh
        rw [fset_self e_2] at hh
        exact Eq.mpr hh hl2
      · have hl : f39 (r39 c k (n + 1)) 1 f h := hl
        obtain ⟨l_1, c_1, e_1, hl1⟩ := asS_inv hl
        obtain ⟨l_2, c_2, e_2, hl2⟩ := asS_inv hl1
        obtain ⟨n_6, e_6, hl3⟩ := asI_inv hl2
        have hh := e39_1 c k (r39 c k n) f h (f 0) l_1 c_1 l_2 c_2 n_6 (f 8)
        rw [fset_self (rfl : f 0 = f 0)] at hh
        rw [fset_self e_1] at hh
        rw [fset_self e_2] at hh
        rw [fset_self e_6] at hh
        rw [fset_self (rfl : f 8 = f 8)] at hh
        exact Eq.mpr hh hl3
    ) (by simp [u39]) hg

theorem e43_0 (c : Caller Prop FT) (k : KV) (J : J43) (f : FT) (h : H) (v_0 : AV) (l_1 : Nat) (c_1 : Nat) : chunkA env c q43 u43 (f43 J) d43 (retA env Go.Proofs.Tryz.f43.results.toList k) .root (fset (fset f 0 v_0) 1 (.str l_1 c_1)) h = s43_0 c k J v_0 l_1 c_1 h := by kernel_rfl
theorem e43_1 (c : Caller Prop FT) (k : KV) (J : J43) (f : FT) (h : H) (v_0 : AV) (v_69 : AV) (n_70 : Int) (n_71 : Int) : chunkA env c q43 u43 (f43 J) d43 (retA env Go.Proofs.Tryz.f43.results.toList k) (.l (.r (.l (.r (.r (.r (.r (.r (.r (.r .root)))))))))) (fset (fset (fset (fset f 0 v_0) 69 v_69) 70 (.int .i64 n_70)) 71 (.int .i64 n_71)) h = s43_1 c k J v_0 v_69 n_70 n_71 h := by kernel_rfl
theorem e43_2 (c : Caller Prop FT) (k : KV) (J : J43) (f : FT) (h : H) (v_0 : AV) (v_7 : AV) : chunkA env c q43 u43 (f43 J) d43 (retA env Go.Proofs.Tryz.f43.results.toList k) (.r (.r (.r (.r (.r (.r (.r .root))))))) (fset (fset f 0 v_0) 7 v_7) h = s43_2 c k J v_0 v_7 h := by kernel_rfl
theorem w43 {c : Caller Prop FT} (hc : CallOk Go.Proofs.Tryz.prog (CP env) G (fun p => p) c) {k : KV} {n : Nat} {args : List AV} {h : H} (hg : f43 (r43 c k n) 0 (finit args) h) : SW Go.Proofs.Tryz.prog G (.func 43) args h k :=
  fn_ok mixed envOk hc q43 Go.Proofs.Tryz.func43 rfl (by kernel_rfl) (by kernel_rfl) k u43 (fun n => f43 (r43 c k n))
    (fun L f h hl => by
      match L, hl with
      | 0, hl => obtain ⟨_, _, _, hl0⟩ := asS_inv (show _ from hl); exact hl0
      | 1, hl => obtain ⟨_, _, hl0⟩ := asI_inv (show _ from hl); obtain ⟨_, _, hl1⟩ := asI_inv (show _ from hl0); exact hl1
      | 2, hl => exact hl
      | _ + 3, hl => exact hl)
    (fun n p L hm f h hl => by
      simp only [u43, List.mem_cons, Prod.mk.injEq, List.not_mem_nil, or_false] at hm
      rcases hm with ⟨rfl, rfl⟩ | ⟨rfl, rfl⟩ | ⟨rfl, rfl⟩
      · have hl : f43 (r43 c k (n + 1)) 0 f h := hl
        obtain ⟨l_1, c_1, e_1, hl1⟩ := asS_inv hl
        have hh := e43_0 c k (r43 c k n) f h (f 0) l_1 c_1
        rw [fset_self (rfl : f 0 = f 0)] at hh
        rw [fset_self e_1] at hh
        exact Eq.mpr hh hl1
      · have hl : f43 (r43 c k (n + 1)) 1 f h := hl
        obtain ⟨n_70, e_70, hl2⟩ := asI_inv hl
        obtain ⟨n_71, e_71, hl3⟩ := asI_inv hl2
        have hh := e43_1 c k (r43 c k n) f h (f 0) (f 69) n_70 n_71
        rw [fset_self (rfl : f 0 = f 0)] at hh
        rw [fset_self (rfl : f 69 = f 69)] at hh
        rw [fset_self e_70] at hh
        rw [fset_self e_71] at hh
        exact Eq.mpr hh hl3
      · have hl : f43 (r43 c k (n + 1)) 2 f h := hl
        have hh := e43_2 c k (r43 c k n) f h (f 0) (f 7)
        rw [fset_self (rfl : f 0 = f 0)] at hh
        rw [fset_self (rfl : f 7 = f 7)] at hh
        exact Eq.mpr hh hl
    ) (by simp [u43]) hg

theorem e47_0 (c : Caller Prop FT) (k : KV) (J : J47) (f : FT) (h : H) (v_0 : AV) : chunkA env c q47 u47 (f47 J) d47 (retA env Go.Proofs.Tryz.f47.results.toList k) .root (fset f 0 v_0) h = s47_0 c k J v_0 h := by kernel_rfl
theorem w47 {c : Caller Prop FT} (hc : CallOk Go.Proofs.Tryz.prog (CP env) G (fun p => p) c) {k : KV} {n : Nat} {args : List AV} {h : H} (hg : f47 (r47 c k n) 0 (finit args) h) : SW Go.Proofs.Tryz.prog G (.func 47) args h k :=
  fn_ok mixed envOk hc q47 Go.Proofs.Tryz.func47 rfl (by kernel_rfl) (by kernel_rfl) k u47 (fun n => f47 (r47 c k n))
    (fun L f h hl => by
      match L, hl with
      | 0, hl => exact hl
      | _ + 1, hl => exact hl)
    (fun n p L hm f h hl => by
      simp only [u47, List.mem_cons, Prod.mk.injEq, List.not_mem_nil, or_false] at hm
      rcases hm with ⟨rfl, rfl⟩
      · have hl : f47 (r47 c k (n + 1)) 0 f h := hl
        have hh := e47_0 c k (r47 c k n) f h (f 0)
        rw [fset_self (rfl : f 0 = f 0)] at hh
        exact Eq.mpr hh hl
    ) (by simp [u47]) hg

theorem e49_0 (c : Caller Prop FT) (k : KV) (J : J49) (f : FT) (h : H) (v_0 : AV) : chunkA env c q49 u49 (f49 J) d49 (retA env Go.Proofs.Tryz.f49.results.toList k) .root (fset f 0 v_0) h = s49_0 c k J v_0 h := by kernel_rfl
theorem e49_1 (c : Caller Prop FT) (k : KV) (J : J49) (f : FT) (h : H) (v_0 : AV) : chunkA env c q49 u49 (f49 J) d49 (retA env Go.Proofs.Tryz.f49.results.toList k) (.l (.l (.r .root))) (fset f 0 v_0) h = s49_1 c k J v_0 h := by kernel_rfl
theorem w49 {c : Caller Prop FT} (hc : CallOk Go.Proofs.Tryz.prog (CP env) G (fun p => p) c) {k : KV} {n : Nat} {args : List AV} {h : H} (hg : f49 (r49 c k n) 0 (finit args) h) : SW Go.Proofs.Tryz.prog G (.func 49) args h k :=
  fn_ok mixed envOk hc q49 Go.Proofs.Tryz.func49 rfl (by kernel_rfl) (by kernel_rfl) k u49 (fun n => f49 (r49 c k n))
    (fun L f h hl => by
      match L, hl with
      | 0, hl => exact hl
      | 1, hl => exact hl
      | _ + 2, hl => exact hl)
    (fun n p L hm f h hl => by
      simp only [u49, List.mem_cons, Prod.mk.injEq, List.not_mem_nil, or_false] at hm
      rcases hm with ⟨rfl, rfl⟩ | ⟨rfl, rfl⟩
      · have hl : f49 (r49 c k (n + 1)) 0 f h := hl
        have hh := e49_0 c k (r49 c k n) f h (f 0)
        rw [fset_self (rfl : f 0 = f 0)] at hh
        exact Eq.mpr hh hl
      · have hl : f49 (r49 c k (n + 1)) 1 f h := hl
        have hh := e49_1 c k (r49 c k n) f h (f 0)
        rw [fset_self (rfl : f 0 = f 0)] at hh
        exact Eq.mpr hh hl
    ) (by simp [u49]) hg

theorem e52_0 (c : Caller Prop FT) (k : KV) (J : J52) (f : FT) (h : H) (v_0 : AV) : chunkA env c q52 u52 (f52 J) d52 (retA env Go.Proofs.Tryz.f52.results.toList k) .root (fset f 0 v_0) h = s52_0 c k J v_0 h := by kernel_rfl
theorem w52 {c : Caller Prop FT} (hc : CallOk Go.Proofs.Tryz.prog (CP env) G (fun p => p) c) {k : KV} {n : Nat} {args : List AV} {h : H} (hg : f52 (r52 c k n) 0 (finit args) h) : SW Go.Proofs.Tryz.prog G (.func 52) args h k :=
  fn_ok mixed envOk hc q52 Go.Proofs.Tryz.func52 rfl (by kernel_rfl) (by kernel_rfl) k u52 (fun n => f52 (r52 c k n))
    (fun L f h hl => by
      match L, hl with
      | 0, hl => exact hl
      | _ + 1, hl => exact hl)
    (fun n p L hm f h hl => by
      simp only [u52, List.mem_cons, Prod.mk.injEq, List.not_mem_nil, or_false] at hm
      rcases hm with ⟨rfl, rfl⟩
      · have hl : f52 (r52 c k (n + 1)) 0 f h := hl
        have hh := e52_0 c k (r52 c k n) f h (f 0)
        rw [fset_self (rfl : f 0 = f 0)] at hh
        exact Eq.mpr hh hl
    ) (by simp [u52]) hg

theorem e53_0 (c : Caller Prop FT) (k : KV) (J : J53) (f : FT) (h : H) (l_0 : Nat) (c_0 : Nat) (l_1 : Nat) (c_1 : Nat) : chunkA env c q53 u53 (f53 J) d53 (retA env Go.Proofs.Tryz.f53.results.toList k) .root (fset (fset f 0 (.str l_0 c_0)) 1 (.str l_1 c_1)) h = s53_0 c k J l_0 c_0 l_1 c_1 h := by kernel_rfl
theorem w53 {c : Caller Prop FT} (hc : CallOk Go.Proofs.Tryz.prog (CP env) G (fun p => p) c) {k : KV} {n : Nat} {args : List AV} {h : H} (hg : f53 (r53 c k n) 0 (finit args) h) : SW Go.Proofs.Tryz.prog G (.func 53) args h k :=
  fn_ok mixed envOk hc q53 Go.Proofs.Tryz.func53 rfl (by kernel_rfl) (by kernel_rfl) k u53 (fun n => f53 (r53 c k n))
    (fun L f h hl => by
      match L, hl with
      | 0, hl => obtain ⟨_, _, _, hl0⟩ := asS_inv (show _ from hl); obtain ⟨_, _, _, hl1⟩ := asS_inv (show _ from hl0); exact hl1
      | _ + 1, hl => exact hl)
    (fun n p L hm f h hl => by
      simp only [u53, List.mem_cons, Prod.mk.injEq, List.not_mem_nil, or_false] at hm
      rcases hm with ⟨rfl, rfl⟩
      · have hl : f53 (r53 c k (n + 1)) 0 f h := hl
        obtain ⟨l_0, c_0, e_0, hl0⟩ := asS_inv hl
        obtain ⟨l_1, c_1, e_1, hl1⟩ := asS_inv hl0
        have hh := e53_0 c k (r53 c k n) f h l_0 c_0 l_1 c_1
        rw [fset_self e_0] at hh
        rw [fset_self e_1] at hh
        exact Eq.mpr hh hl1
    ) (by simp [u53]) hg

theorem e54_0 (c : Caller Prop FT) (k : KV) (J : J54) (f : FT) (h : H) (l_0 : Nat) (c_0 : Nat) : chunkA env c q54 u54 (f54 J) d54 (retA env Go.Proofs.Tryz.f54.results.toList k) .root (fset f 0 (.str l_0 c_0)) h = s54_0 c k J l_0 c_0 h := by kernel_rfl
theorem e54_1 (c : Caller Prop FT) (k : KV) (J : J54) (f : FT) (h : H) (l_0 : Nat) (c_0 : Nat) (b_3 : Bool) (n_4 : Int) : chunkA env c q54 u54 (f54 J) d54 (retA env Go.Proofs.Tryz.f54.results.toList k) (.l (.r (.l (.r (.r .root))))) (fset (fset (fset f 0 (.str l_0 c_0)) 3 (.bool b_3)) 4 (.int .i64 n_4)) h = s54_1 c k J l_0 c_0 b_3 n_4 h := by kernel_rfl
theorem w54 {c : Caller Prop FT} (hc : CallOk Go.Proofs.Tryz.prog (CP env) G (fun p => p) c) {k : KV} {n : Nat} {args : List AV} {h : H} (hg : f54 (r54 c k n) 0 (finit args) h) : SW Go.Proofs.Tryz.prog G (.func 54) args h k :=
  fn_ok mixed envOk hc q54 Go.Proofs.Tryz.func54 rfl (by kernel_rfl) (by kernel_rfl) k u54 (fun n => f54 (r54 c k n))
    (fun L f h hl => by
      match L, hl with
      | 0, hl => obtain ⟨_, _, _, hl0⟩ := asS_inv (show _ from hl); exact hl0
      | 1, hl => obtain ⟨_, _, _, hl0⟩ := asS_inv (show _ from hl); obtain ⟨_, _, hl1⟩ := asB_inv (show _ from hl0); obtain ⟨_, _, hl2⟩ := asI_inv (show _ from hl1); exact hl2
      | _ + 2, hl => exact hl)
    (fun n p L hm f h hl => by
      simp only [u54, List.mem_cons, Prod.mk.injEq, List.not_mem_nil, or_false] at hm
      rcases hm with ⟨rfl, rfl⟩ | ⟨rfl, rfl⟩
      · have hl : f54 (r54 c k (n + 1)) 0 f h := hl
        obtain ⟨l_0, c_0, e_0, hl0⟩ := asS_inv hl
        have hh := e54_0 c k (r54 c k n) f h l_0 c_0
        rw [fset_self e_0] at hh
        exact Eq.mpr hh hl0
      · have hl : f54 (r54 c k (n + 1)) 1 f h := hl
        obtain ⟨l_0, c_0, e_0, hl0⟩ := asS_inv hl
        obtain ⟨b_3, e_3, hl1⟩ := asB_inv hl0
        obtain ⟨n_4, e_4, hl2⟩ := asI_inv hl1
        have hh := e54_1 c k (r54 c k n) f h l_0 c_0 b_3 n_4
        rw [fset_self e_0] at hh
        rw [fset_self e_3] at hh
        rw [fset_self e_4] at hh
        exact Eq.mpr hh hl2
    ) (by simp [u54]) hg

theorem e58_0 (c : Caller Prop FT) (k : KV) (J : J58) (f : FT) (h : H) (v_0 : AV) (l_1 : Nat) (c_1 : Nat) : chunkA env c q58 u58 (f58 J) d58 (retA env Go.Proofs.Tryz.f58.results.toList k) .root (fset (fset f 0 v_0) 1 (.str l_1 c_1)) h = s58_0 c k J v_0 l_1 c_1 h := by kernel_rfl
theorem e58_1 (c : Caller Prop FT) (k : KV) (J : J58) (f : FT) (h : H) (v_0 : AV) (l_1 : Nat) (c_1 : Nat) : chunkA env c q58 u58 (f58 J) d58 (retA env Go.Proofs.Tryz.f58.results.toList k) (.r .root) (fset (fset f 0 v_0) 1 (.str l_1 c_1)) h = s58_1 c k J v_0 l_1 c_1 h := by kernel_rfl
theorem w58 {c : Caller Prop FT} (hc : CallOk Go.Proofs.Tryz.prog (CP env) G (fun p => p) c) {k : KV} {n : Nat} {args : List AV} {h : H} (hg : f58 (r58 c k n) 0 (finit args) h) : SW Go.Proofs.Tryz.prog G (.func 58) args h k :=
  fn_ok mixed envOk hc q58 Go.Proofs.Tryz.func58 rfl (by kernel_rfl) (by kernel_rfl) k u58 (fun n => f58 (r58 c k n))
    (fun L f h hl => by
      match L, hl with
      | 0, hl => obtain ⟨_, _, _, hl0⟩ := asS_inv (show _ from hl); exact hl0
      | 1, hl => obtain ⟨_, _, _, hl0⟩ := asS_inv (show _ from hl); exact hl0
      | _ + 2, hl => exact hl)
    (fun n p L hm f h hl => by
      simp only [u58, List.mem_cons, Prod.mk.injEq, List.not_mem_nil, or_false] at hm
      rcases hm with ⟨rfl, rfl⟩ | ⟨rfl, rfl⟩
      · have hl : f58 (r58 c k (n + 1)) 0 f h := hl
        obtain ⟨l_1, c_1, e_1, hl1⟩ := asS_inv hl
        have hh := e58_0 c k (r58 c k n) f h (f 0) l_1 c_1
        rw [fset_self (rfl : f 0 = f 0)] at hh
        rw [fset_self e_1] at hh
        exact Eq.mpr hh hl1
      · have hl : f58 (r58 c k (n + 1)) 1 f h := hl
        obtain ⟨l_1, c_1, e_1, hl1⟩ := asS_inv hl
        have hh := e58_1 c k (r58 c k n) f h (f 0) l_1 c_1
        rw [fset_self (rfl : f 0 = f 0)] at hh
        rw [fset_self e_1] at hh
        exact Eq.mpr hh hl1
    ) (by simp [u58]) hg

theorem e61_0 (c : Caller Prop FT) (k : KV) (J : J61) (f : FT) (h : H) (v_0 : AV) (l_1 : Nat) (c_1 : Nat) : chunkA env c q61 u61 (f61 J) d61 (retA env Go.Proofs.Tryz.f61.results.toList k) .root (fset (fset f 0 v_0) 1 (.str l_1 c_1)) h = s61_0 c k J v_0 l_1 c_1 h := by kernel_rfl
theorem e61_1 (c : Caller Prop FT) (k : KV) (J : J61) (f : FT) (h : H) (v_0 : AV) (l_1 : Nat) (c_1 : Nat) (n_4 : Int) : chunkA env c q61 u61 (f61 J) d61 (retA env Go.Proofs.Tryz.f61.results.toList k) (.l (.r (.l .root))) (fset (fset (fset f 0 v_0) 1 (.str l_1 c_1)) 4 (.int .i64 n_4)) h = s61_1 c k J v_0 l_1 c_1 n_4 h := by kernel_rfl
theorem w61 {c : Caller Prop FT} (hc : CallOk Go.Proofs.Tryz.prog (CP env) G (fun p => p) c) {k : KV} {n : Nat} {args : List AV} {h : H} (hg : f61 (r61 c k n) 0 (finit args) h) : SW Go.Proofs.Tryz.prog G (.func 61) args h k :=
  fn_ok mixed envOk hc q61 Go.Proofs.Tryz.func61 rfl (by kernel_rfl) (by kernel_rfl) k u61 (fun n => f61 (r61 c k n))
    (fun L f h hl => by
      match L, hl with
      | 0, hl => obtain ⟨_, _, _, hl0⟩ := asS_inv (show _ from hl); exact hl0
      | 1, hl => obtain ⟨_, _, _, hl0⟩ := asS_inv (show _ from hl); obtain ⟨_, _, hl1⟩ := asI_inv (show _ from hl0); exact hl1
      | _ + 2, hl => exact hl)
    (fun n p L hm f h hl => by
      simp only [u61, List.mem_cons, Prod.mk.injEq, List.not_mem_nil, or_false] at hm
      rcases hm with ⟨rfl, rfl⟩ | ⟨rfl, rfl⟩
      · have hl : f61 (r61 c k (n + 1)) 0 f h := hl
        obtain ⟨l_1, c_1, e_1, hl1⟩ := asS_inv hl
        have hh := e61_0 c k (r61 c k n) f h (f 0) l_1 c_1
        rw [fset_self (rfl : f 0 = f 0)] at hh
        rw [fset_self e_1] at hh
        exact Eq.mpr hh hl1
      · have hl : f61 (r61 c k (n + 1)) 1 f h := hl
        obtain ⟨l_1, c_1, e_1, hl1⟩ := asS_inv hl
        obtain ⟨n_4, e_4, hl2⟩ := asI_inv hl1
        have hh := e61_1 c k (r61 c k n) f h (f 0) l_1 c_1 n_4
        rw [fset_self (rfl : f 0 = f 0)] at hh
        rw [fset_self e_1] at hh
        rw [fset_self e_4] at hh
        exact Eq.mpr hh hl2
    ) (by simp [u61]) hg

theorem e62_0 (c : Caller Prop FT) (k : KV) (J : J62) (f : FT) (h : H) (v_0 : AV) (n_1 : Int) : chunkA env c q62 u62 (f62 J) d62 (retA env Go.Proofs.Tryz.f62.results.toList k) .root (fset (fset f 0 v_0) 1 (.int .i64 n_1)) h = s62_0 c k J v_0 n_1 h := by kernel_rfl
theorem w62 {c : Caller Prop FT} (hc : CallOk Go.Proofs.Tryz.prog (CP env) G (fun p => p) c) {k : KV} {n : Nat} {args : List AV} {h : H} (hg : f62 (r62 c k n) 0 (finit args) h) : SW Go.Proofs.Tryz.prog G (.func 62) args h k :=
  fn_ok mixed envOk hc q62 Go.Proofs.Tryz.func62 rfl (by kernel_rfl) (by kernel_rfl) k u62 (fun n => f62 (r62 c k n))
    (fun L f h hl => by
      match L, hl with
      | 0, hl => obtain ⟨_, _, hl0⟩ := asI_inv (show _ from hl); exact hl0
      | _ + 1, hl => exact hl)
    (fun n p L hm f h hl => by
      simp only [u62, List.mem_cons, Prod.mk.injEq, List.not_mem_nil, or_false] at hm
      rcases hm with ⟨rfl, rfl⟩
      · have hl : f62 (r62 c k (n + 1)) 0 f h := hl
        obtain ⟨n_1, e_1, hl1⟩ := asI_inv hl
        have hh := e62_0 c k (r62 c k n) f h (f 0) n_1
        rw [fset_self (rfl : f 0 = f 0)] at hh
        rw [fset_self e_1] at hh
        exact Eq.mpr hh hl1
    ) (by simp [u62]) hg

theorem e66_0 (c : Caller Prop FT) (k : KV) (J : J66) (f : FT) (h : H) (v_0 : AV) : chunkA env c q66 u66 (f66 J) d66 (retA env Go.Proofs.Tryz.f66.results.toList k) .root (fset f 0 v_0) h = s66_0 c k J v_0 h := by kernel_rfl
theorem w66 {c : Caller Prop FT} (hc : CallOk Go.Proofs.Tryz.prog (CP env) G (fun p => p) c) {k : KV} {n : Nat} {args : List AV} {h : H} (hg : f66 (r66 c k n) 0 (finit args) h) : SW Go.Proofs.Tryz.prog G (.func 66) args h k :=
  fn_ok mixed envOk hc q66 Go.Proofs.Tryz.func66 rfl (by kernel_rfl) (by kernel_rfl) k u66 (fun n => f66 (r66 c k n))
    (fun L f h hl => by
      match L, hl with
      | 0, hl => exact hl
      | _ + 1, hl => exact hl)
    (fun n p L hm f h hl => by
      simp only [u66, List.mem_cons, Prod.mk.injEq, List.not_mem_nil, or_false] at hm
      rcases hm with ⟨rfl, rfl⟩
      · have hl : f66 (r66 c k (n + 1)) 0 f h := hl
        have hh := e66_0 c k (r66 c k n) f h (f 0)
        rw [fset_self (rfl : f 0 = f 0)] at hh
        exact Eq.mpr hh hl
    ) (by simp [u66]) hg

theorem e67_0 (c : Caller Prop FT) (k : KV) (J : J67) (f : FT) (h : H) (v_0 : AV) (v_1 : AV) : chunkA env c q67 u67 (f67 J) d67 (retA env Go.Proofs.Tryz.f67.results.toList k) .root (fset (fset f 0 v_0) 1 v_1) h = s67_0 c k J v_0 v_1 h := by kernel_rfl
theorem e67_1 (c : Caller Prop FT) (k : KV) (J : J67) (f : FT) (h : H) (v_0 : AV) (v_5 : AV) : chunkA env c q67 u67 (f67 J) d67 (retA env Go.Proofs.Tryz.f67.results.toList k) (.l (.r .root)) (fset (fset f 0 v_0) 5 v_5) h = s67_1 c k J v_0 v_5 h := by kernel_rfl
theorem w67 {c : Caller Prop FT} (hc : CallOk Go.Proofs.Tryz.prog (CP env) G (fun p => p) c) {k : KV} {n : Nat} {args : List AV} {h : H} (hg : f67 (r67 c k n) 0 (finit args) h) : SW Go.Proofs.Tryz.prog G (.func 67) args h k :=
  fn_ok mixed envOk hc q67 Go.Proofs.Tryz.func67 rfl (by kernel_rfl) (by kernel_rfl) k u67 (fun n => f67 (r67 c k n))
    (fun L f h hl => by
      match L, hl with
      | 0, hl => exact hl
      | 1, hl => exact hl
      | _ + 2, hl => exact hl)
    (fun n p L hm f h hl => by
      simp only [u67, List.mem_cons, Prod.mk.injEq, List.not_mem_nil, or_false] at hm
      rcases hm with ⟨rfl, rfl⟩ | ⟨rfl, rfl⟩
      · have hl : f67 (r67 c k (n + 1)) 0 f h := hl
        have hh := e67_0 c k (r67 c k n) f h (f 0) (f 1)
        rw [fset_self (rfl : f 0 = f 0)] at hh
        rw [fset_self (rfl : f 1 = f 1)] at hh
        exact Eq.mpr hh hl
      · have hl : f67 (r67 c k (n + 1)) 1 f h := hl
        have hh := e67_1 c k (r67 c k n) f h (f 0) (f 5)
        rw [fset_self (rfl : f 0 = f 0)] at hh
        rw [fset_self (rfl : f 5 = f 5)] at hh
        exact Eq.mpr hh hl
    ) (by simp [u67]) hg

theorem e68_0 (c : Caller Prop FT) (k : KV) (J : J68) (f : FT) (h : H) (l_0 : Nat) (c_0 : Nat) : chunkA env c q68 u68 (f68 J) d68 (retA env Go.Proofs.Tryz.f68.results.toList k) .root (fset f 0 (.str l_0 c_0)) h = s68_0 c k J l_0 c_0 h := by kernel_rfl
theorem w68 {c : Caller Prop FT} (hc : CallOk Go.Proofs.Tryz.prog (CP env) G (fun p => p) c) {k : KV} {n : Nat} {args : List AV} {h : H} (hg : f68 (r68 c k n) 0 (finit args) h) : SW Go.Proofs.Tryz.prog G (.func 68) args h k :=
  fn_ok mixed envOk hc q68 Go.Proofs.Tryz.func68 rfl (by kernel_rfl) (by kernel_rfl) k u68 (fun n => f68 (r68 c k n))
    (fun L f h hl => by
      match L, hl with
      | 0, hl => obtain ⟨_, _, _, hl0⟩ := asS_inv (show _ from hl); exact hl0
      | _ + 1, hl => exact hl)
    (fun n p L hm f h hl => by
      simp only [u68, List.mem_cons, Prod.mk.injEq, List.not_mem_nil, or_false] at hm
      rcases hm with ⟨rfl, rfl⟩
      · have hl : f68 (r68 c k (n + 1)) 0 f h := hl
        obtain ⟨l_0, c_0, e_0, hl0⟩ := asS_inv hl
        have hh := e68_0 c k (r68 c k n) f h l_0 c_0
        rw [fset_self e_0] at hh
        exact Eq.mpr hh hl0
    ) (by simp [u68]) hg

theorem e76_0 (c : Caller Prop FT) (k : KV) (J : J76) (f : FT) (h : H) (v_0 : AV) (v_1 : AV) : chunkA env c q76 u76 (f76 J) d76 (retA env Go.Proofs.Tryz.f76.results.toList k) .root (fset (fset f 0 v_0) 1 v_1) h = s76_0 c k J v_0 v_1 h := by kernel_rfl
theorem w76 {c : Caller Prop FT} (hc : CallOk Go.Proofs.Tryz.prog (CP env) G (fun p => p) c) {k : KV} {n : Nat} {args : List AV} {h : H} (hg : f76 (r76 c k n) 0 (finit args) h) : SW Go.Proofs.Tryz.prog G (.func 76) args h k :=
  fn_ok mixed envOk hc q76 Go.Proofs.Tryz.func76 rfl (by kernel_rfl) (by kernel_rfl) k u76 (fun n => f76 (r76 c k n))
    (fun L f h hl => by
      match L, hl with
      | 0, hl => exact hl
      | _ + 1, hl => exact hl)
    (fun n p L hm f h hl => by
      simp only [u76, List.mem_cons, Prod.mk.injEq, List.not_mem_nil, or_false] at hm
      rcases hm with ⟨rfl, rfl⟩
      · have hl : f76 (r76 c k (n + 1)) 0 f h := hl
        have hh := e76_0 c k (r76 c k n) f h (f 0) (f 1)
        rw [fset_self (rfl : f 0 = f 0)] at hh
        rw [fset_self (rfl : f 1 = f 1)] at hh
        exact Eq.mpr hh hl
    ) (by simp [u76]) hg

theorem e77_0 (c : Caller Prop FT) (k : KV) (J : J77) (f : FT) (h : H) (l_0 : Nat) (c_0 : Nat) (v_1 : AV) : chunkA env c q77 u77 (f77 J) d77 (retA env Go.Proofs.Tryz.f77.results.toList k) .root (fset (fset f 0 (.str l_0 c_0)) 1 v_1) h = s77_0 c k J l_0 c_0 v_1 h := by kernel_rfl
theorem w77 {c : Caller Prop FT} (hc : CallOk Go.Proofs.Tryz.prog (CP env) G (fun p => p) c) {k : KV} {n : Nat} {args : List AV} {h : H} (hg : f77 (r77 c k n) 0 (finit args) h) : SW Go.Proofs.Tryz.prog G (.func 77) args h k :=
  fn_ok mixed envOk hc q77 Go.Proofs.Tryz.func77 rfl (by kernel_rfl) (by kernel_rfl) k u77 (fun n => f77 (r77 c k n))
    (fun L f h hl => by
      match L, hl with
      | 0, hl => obtain ⟨_, _, _, hl0⟩ := asS_inv (show _ from hl); exact hl0
      | _ + 1, hl => exact hl)
    (fun n p L hm f h hl => by
      simp only [u77, List.mem_cons, Prod.mk.injEq, List.not_mem_nil, or_false] at hm
      rcases hm with ⟨rfl, rfl⟩
      · have hl : f77 (r77 c k (n + 1)) 0 f h := hl
        obtain ⟨l_0, c_0, e_0, hl0⟩ := asS_inv hl
        have hh := e77_0 c k (r77 c k n) f h l_0 c_0 (f 1)
        rw [fset_self e_0] at hh
        rw [fset_self (rfl : f 1 = f 1)] at hh
        exact Eq.mpr hh hl0
    ) (by simp [u77]) hg

theorem e79_0 (c : Caller Prop FT) (k : KV) (J : J79) (f : FT) (h : H) (l_0 : Nat) (c_0 : Nat) (l_1 : Nat) (c_1 : Nat) (n_2 : Int) : chunkA env c q79 u79 (f79 J) d79 (retA env Go.Proofs.Tryz.f79.results.toList k) .root (fset (fset (fset f 0 (.str l_0 c_0)) 1 (.str l_1 c_1)) 2 (.int .i64 n_2)) h = s79_0 c k J l_0 c_0 l_1 c_1 n_2 h := by kernel_rfl
theorem w79 {c : Caller Prop FT} (hc : CallOk Go.Proofs.Tryz.prog (CP env) G (fun p => p) c) {k : KV} {n : Nat} {args : List AV} {h : H} (hg : f79 (r79 c k n) 0 (finit args) h) : SW Go.Proofs.Tryz.prog G (.func 79) args h k :=
  fn_ok mixed envOk hc q79 Go.Proofs.Tryz.func79 rfl (by kernel_rfl) (by kernel_rfl) k u79 (fun n => f79 (r79 c k n))
    (fun L f h hl => by
      match L, hl with
      | 0, hl => obtain ⟨_, _, _, hl0⟩ := asS_inv (show _ from hl); obtain ⟨_, _, _, hl1⟩ := asS_inv (show _ from hl0); obtain ⟨_, _, hl2⟩ := asI_inv (show _ from hl1); exact hl2
      | _ + 1, hl => exact hl)
    (fun n p L hm f h hl => by
      simp only [u79, List.mem_cons, Prod.mk.injEq, List.not_mem_nil, or_false] at hm
      rcases hm with ⟨rfl, rfl⟩
      · have hl : f79 (r79 c k (n + 1)) 0 f h := hl
        obtain ⟨l_0, c_0, e_0, hl0⟩ := asS_inv hl
        obtain ⟨l_1, c_1, e_1, hl1⟩ := asS_inv hl0
        obtain ⟨n_2, e_2, hl2⟩ := asI_inv hl1
        have hh := e79_0 c k (r79 c k n) f h l_0 c_0 l_1 c_1 n_2
        rw [fset_self e_0] at hh
        rw [fset_self e_1] at hh
        rw [fset_self e_2] at hh
        exact Eq.mpr hh hl2
    ) (by simp [u79]) hg

theorem e83_0 (c : Caller Prop FT) (k : KV) (J : J83) (f : FT) (h : H) (v_0 : AV) (n_1 : Int) : chunkA env c q83 u83 (f83 J) d83 (retA env Go.Proofs.Tryz.f83.results.toList k) .root (fset (fset f 0 v_0) 1 (.int .i64 n_1)) h = s83_0 c k J v_0 n_1 h := by kernel_rfl
theorem w83 {c : Caller Prop FT} (hc : CallOk Go.Proofs.Tryz.prog (CP env) G (fun p => p) c) {k : KV} {n : Nat} {args : List AV} {h : H} (hg : f83 (r83 c k n) 0 (finit args) h) : SW Go.Proofs.Tryz.prog G (.func 83) args h k :=
  fn_ok mixed envOk hc q83 Go.Proofs.Tryz.func83 rfl (by kernel_rfl) (by kernel_rfl) k u83 (fun n => f83 (r83 c k n))
    (fun L f h hl => by
      match L, hl with
      | 0, hl => obtain ⟨_, _, hl0⟩ := asI_inv (show _ from hl); exact hl0
      | _ + 1, hl => exact hl)
    (fun n p L hm f h hl => by
      simp only [u83, List.mem_cons, Prod.mk.injEq, List.not_mem_nil, or_false] at hm
      rcases hm with ⟨rfl, rfl⟩
      · have hl : f83 (r83 c k (n + 1)) 0 f h := hl
        obtain ⟨n_1, e_1, hl1⟩ := asI_inv hl
        have hh := e83_0 c k (r83 c k n) f h (f 0) n_1
        rw [fset_self (rfl : f 0 = f 0)] at hh
        rw [fset_self e_1] at hh
        exact Eq.mpr hh hl1
    ) (by simp [u83]) hg

theorem e90_0 (c : Caller Prop FT) (k : KV) (J : J90) (f : FT) (h : H) (v_0 : AV) (n_1 : Int) (n_2 : Int) (n_3 : Int) : chunkA env c q90 u90 (f90 J) d90 (retA env Go.Proofs.Tryz.f90.results.toList k) .root (fset (fset (fset (fset f 0 v_0) 1 (.int .i64 n_1)) 2 (.int .i64 n_2)) 3 (.int .i64 n_3)) h = s90_0 c k J v_0 n_1 n_2 n_3 h := by kernel_rfl
theorem e90_1 (c : Caller Prop FT) (k : KV) (J : J90) (f : FT) (h : H) (v_0 : AV) (n_1 : Int) (n_2 : Int) (n_3 : Int) (b_8 : Bool) (b_9 : Bool) : chunkA env c q90 u90 (f90 J) d90 (retA env Go.Proofs.Tryz.f90.results.toList k) (.l (.r (.r .root))) (fset (fset (fset (fset (fset (fset f 0 v_0) 1 (.int .i64 n_1)) 2 (.int .i64 n_2)) 3 (.int .i64 n_3)) 8 (.bool b_8)) 9 (.bool b_9)) h = s90_1 c k J v_0 n_1 n_2 n_3 b_8 b_9 h := by kernel_rfl
theorem e90_2 (c : Caller Prop FT) (k : KV) (J : J90) (f : FT) (h : H) (v_0 : AV) (n_1 : Int) (n_2 : Int) (n_3 : Int) (b_8 : Bool) (b_9 : Bool) (n_10 : Int) (n_11 : Int) : chunkA env c q90 u90 (f90 J) d90 (retA env Go.Proofs.Tryz.f90.results.toList k) (.r (.r (.r (.r (.r (.r (.r (.l (.l (.l (.r (.r .root)))))))))))) (fset (fset (fset (fset (fset (fset (fset (fset f 0 v_0) 1 (.int .i64 n_1)) 2 (.int .i64 n_2)) 3 (.int .i64 n_3)) 8 (.bool b_8)) 9 (.bool b_9)) 10 (.int .i64 n_10)) 11 (.int .i64 n_11)) h = s90_2 c k J v_0 n_1 n_2 n_3 b_8 b_9 n_10 n_11 h := by kernel_rfl
theorem e90_3 (c : Caller Prop FT) (k : KV) (J : J90) (f : FT) (h : H) (v_0 : AV) (n_1 : Int) (n_2 : Int) (n_3 : Int) (b_8 : Bool) (b_9 : Bool) (n_10 : Int) (n_11 : Int) (n_12 : Int) : chunkA env c q90 u90 (f90 J) d90 (retA env Go.Proofs.Tryz.f90.results.toList k) (.r (.r (.r (.r (.r (.r (.l (.l (.l (.r (.r .root))))))))))) (fset (fset (fset (fset (fset (fset (fset (fset (fset f 0 v_0) 1 (.int .i64 n_1)) 2 (.int .i64 n_2)) 3 (.int .i64 n_3)) 8 (.bool b_8)) 9 (.bool b_9)) 10 (.int .i64 n_10)) 11 (.int .i64 n_11)) 12 (.int .i64 n_12)) h = s90_3 c k J v_0 n_1 n_2 n_3 b_8 b_9 n_10 n_11 n_12 h := by kernel_rfl
theorem e90_4 (c : Caller Prop FT) (k : KV) (J : J90) (f : FT) (h : H) (v_0 : AV) (n_1 : Int) (n_2 : Int) (n_3 : Int) (b_8 : Bool) (b_9 : Bool) (n_10 : Int) : chunkA env c q90 u90 (f90 J) d90 (retA env Go.Proofs.Tryz.f90.results.toList k) (.r (.r (.r (.r (.l (.l (.l (.r (.r .root))))))))) (fset (fset (fset (fset (fset (fset (fset f 0 v_0) 1 (.int .i64 n_1)) 2 (.int .i64 n_2)) 3 (.int .i64 n_3)) 8 (.bool b_8)) 9 (.bool b_9)) 10 (.int .i64 n_10)) h = s90_4 c k J v_0 n_1 n_2 n_3 b_8 b_9 n_10 h := by kernel_rfl
theorem w90 {c : Caller Prop FT} (hc : CallOk Go.Proofs.Tryz.prog (CP env) G (fun p => p) c) {k : KV} {n : Nat} {args : List AV} {h : H} (hg : f90 (r90 c k n) 0 (finit args) h) : SW Go.Proofs.Tryz.prog G (.func 90) args h k :=
  fn_ok mixed envOk hc q90 Go.Proofs.Tryz.func90 rfl (by kernel_rfl) (by kernel_rfl) k u90 (fun n => f90 (r90 c k n))
    (fun L f h hl => by
      match L, hl with
      | 0, hl => obtain ⟨_, _, hl0⟩ := asI_inv (show _ from hl); obtain ⟨_, _, hl1⟩ := asI_inv (show _ from hl0); obtain ⟨_, _, hl2⟩ := asI_inv (show _ from hl1); exact hl2
      | 1, hl => obtain ⟨_, _, hl0⟩ := asI_inv (show _ from hl); obtain ⟨_, _, hl1⟩ := asI_inv (show _ from hl0); obtain ⟨_, _, hl2⟩ := asI_inv (show _ from hl1); obtain ⟨_, _, hl3⟩ := asB_inv (show _ from hl2); obtain ⟨_, _, hl4⟩ := asB_inv (show _ from hl3); exact hl4
      | 2, hl => obtain ⟨_, _, hl0⟩ := asI_inv (show _ from hl); obtain ⟨_, _, hl1⟩ := asI_inv (show _ from hl0); obtain ⟨_, _, hl2⟩ := asI_inv (show _ from hl1); obtain ⟨_, _, hl3⟩ := asB_inv (show _ from hl2); obtain ⟨_, _, hl4⟩ := asB_inv (show _ from hl3); obtain ⟨_, _, hl5⟩ := asI_inv (show _ from hl4); obtain ⟨_, _, hl6⟩ := asI_inv (show _ from hl5); exact hl6
      | 3, hl => obtain ⟨_, _, hl0⟩ := asI_inv (show _ from hl); obtain ⟨_, _, hl1⟩ := asI_inv (show _ from hl0); obtain ⟨_, _, hl2⟩ := asI_inv (show _ from hl1); obtain ⟨_, _, hl3⟩ := asB_inv (show _ from hl2); obtain ⟨_, _, hl4⟩ := asB_inv (show _ from hl3); obtain ⟨_, _, hl5⟩ := asI_inv (show _ from hl4); obtain ⟨_, _, hl6⟩ := asI_inv (show _ from hl5); obtain ⟨_, _, hl7⟩ := asI_inv (show _ from hl6); exact hl7
      | 4, hl => obtain ⟨_, _, hl0⟩ := asI_inv (show _ from hl); obtain ⟨_, _, hl1⟩ := asI_inv (show _ from hl0); obtain ⟨_, _, hl2⟩ := asI_inv (show _ from hl1); obtain ⟨_, _, hl3⟩ := asB_inv (show _ from hl2); obtain ⟨_, _, hl4⟩ := asB_inv (show _ from hl3); obtain ⟨_, _, hl5⟩ := asI_inv (show _ from hl4); exact hl5
      | _ + 5, hl => exact hl)
    (fun n p L hm f h hl => by
      simp only [u90, List.mem_cons, Prod.mk.injEq, List.not_mem_nil, or_false] at hm
      rcases hm with ⟨rfl, rfl⟩ | ⟨rfl, rfl⟩ | ⟨rfl, rfl⟩ | ⟨rfl, rfl⟩ | ⟨rfl, rfl⟩
      · have hl : f90 (r90 c k (n + 1)) 0 f h := hl
        obtain ⟨n_1, e_1, hl1⟩ := asI_inv hl
        obtain ⟨n_2, e_2, hl2⟩ := asI_inv hl1
        obtain ⟨n_3, e_3, hl3⟩ := asI_inv hl2
        have hh := e90_0 c k (r90 c k n) f h (f 0) n_1 n_2 n_3
        rw [fset_self (rfl : f 0 = f 0)] at hh
        rw [fset_self e_1] at hh
        rw [fset_self e_2] at hh
        rw [fset_self e_3] at hh
        exact Eq.mpr hh hl3
      · have hl : f90 (r90 c k (n + 1)) 1 f h := hl
        obtain ⟨n_1, e_1, hl1⟩ := asI_inv hl
        obtain ⟨n_2, e_2, hl2⟩ := asI_inv hl1
        obtain ⟨n_3, e_3, hl3⟩ := asI_inv hl2
        obtain ⟨b_8, e_8, hl4⟩ := asB_inv hl3
        obtain ⟨b_9, e_9, hl5⟩ := asB_inv hl4
        have hh := e90_1 c k (r90 c k n) f h (f 0) n_1 n_2 n_3 b_8 b_9
        rw [fset_self (rfl : f 0 = f 0)] at hh
        rw [fset_self e_1] at hh
        rw [fset_self e_2] at hh
        rw [fset_self e_3] at hh
        rw [fset_self e_8] at hh
        rw [fset_self e_9] at hh
        exact Eq.mpr hh hl5
      · have hl : f90 (r90 c k (n + 1)) 2 f h := hl
        obtain ⟨n_1, e_1, hl1⟩ := asI_inv hl
        obtain ⟨n_2, e_2, hl2⟩ := asI_inv hl1
        obtain ⟨n_3, e_3, hl3⟩ := asI_inv hl2
        obtain ⟨b_8, e_8, hl4⟩ := asB_inv hl3
        obtain ⟨b_9, e_9, hl5⟩ := asB_inv hl4
        obtain ⟨n_10, e_10, hl6⟩ := asI_inv hl5
        obtain ⟨n_11, e_11, hl7⟩ := asI_inv hl6
        have hh := e90_2 c k (r90 c k n) f h (f 0) n_1 n_2 n_3 b_8 b_9 n_10 n_11
        rw [fset_self (rfl : f 0 = f 0)] at hh
        rw [fset_self e_1] at hh
        rw [fset_self e_2] at hh
        rw [fset_self e_3] at hh
        rw [fset_self e_8] at hh
        rw [fset_self e_9] at hh
        rw [fset_self e_10] at hh
        rw [fset_self e_11] at hh
        exact Eq.mpr hh hl7
      · have hl : f90 (r90 c k (n + 1)) 3 f h := hl
        obtain ⟨n_1, e_1, hl1⟩ := asI_inv hl
        obtain ⟨n_2, e_2, hl2⟩ := asI_inv hl1
        obtain ⟨n_3, e_3, hl3⟩ := asI_inv hl2
        obtain ⟨b_8, e_8, hl4⟩ := asB_inv hl3
        obtain ⟨b_9, e_9, hl5⟩ := asB_inv hl4
        obtain ⟨n_10, e_10, hl6⟩ := asI_inv hl5
        obtain ⟨n_11, e_11, hl7⟩ := asI_inv hl6
        obtain ⟨n_12, e_12, hl8⟩ := asI_inv hl7
        have hh := e90_3 c k (r90 c k n) f h (f 0) n_1 n_2 n_3 b_8 b_9 n_10 n_11 n_12
        rw [fset_self (rfl : f 0 = f 0)] at hh
        rw [fset_self e_1] at hh
        rw [fset_self e_2] at hh
        rw [fset_self e_3] at hh
        rw [fset_self e_8] at hh
        rw [fset_self e_9] at hh
        rw [fset_self e_10] at hh
        rw [fset_self e_11] at hh
        rw [fset_self e_12] at hh
        exact Eq.mpr hh hl8
      · have hl : f90 (r90 c k (n + 1)) 4 f h := hl
        obtain ⟨n_1, e_1, hl1⟩ := asI_inv hl
        obtain ⟨n_2, e_2, hl2⟩ := asI_inv hl1
        obtain ⟨n_3, e_3, hl3⟩ := asI_inv hl2
        obtain ⟨b_8, e_8, hl4⟩ := asB_inv hl3
        obtain ⟨b_9, e_9, hl5⟩ := asB_inv hl4
        obtain ⟨n_10, e_10, hl6⟩ := asI_inv hl5
        have hh := e90_4 c k (r90 c k n) f h (f 0) n_1 n_2 n_3 b_8 b_9 n_10
        rw [fset_self (rfl : f 0 = f 0)] at hh
        rw [fset_self e_1] at hh
        rw [fset_self e_2] at hh
        rw [fset_self e_3] at hh
        rw [fset_self e_8] at hh
        rw [fset_self e_9] at hh
        rw [fset_self e_10] at hh
        exact Eq.mpr hh hl6
    ) (by simp [u90]) hg

theorem e91_0 (c : Caller Prop FT) (k : KV) (J : J91) (f : FT) (h : H) (n_0 : Int) : chunkA env c q91 u91 (f91 J) d91 (retA env Go.Proofs.Tryz.f91.results.toList k) .root (fset f 0 (.int .u64 n_0)) h = s91_0 c k J n_0 h := by kernel_rfl
theorem w91 {c : Caller Prop FT} (hc : CallOk Go.Proofs.Tryz.prog (CP env) G (fun p => p) c) {k : KV} {n : Nat} {args : List AV} {h : H} (hg : f91 (r91 c k n) 0 (finit args) h) : SW Go.Proofs.Tryz.prog G (.func 91) args h k :=
  fn_ok mixed envOk hc q91 Go.Proofs.Tryz.func91 rfl (by kernel_rfl) (by kernel_rfl) k u91 (fun n => f91 (r91 c k n))
    (fun L f h hl => by
      match L, hl with
      | 0, hl => obtain ⟨_, _, hl0⟩ := asI_inv (show _ from hl); exact hl0
      | _ + 1, hl => exact hl)
    (fun n p L hm f h hl => by
      simp only [u91, List.mem_cons, Prod.mk.injEq, List.not_mem_nil, or_false] at hm
      rcases hm with ⟨rfl, rfl⟩
      · have hl : f91 (r91 c k (n + 1)) 0 f h := hl
        obtain ⟨n_0, e_0, hl0⟩ := asI_inv hl
        have hh := e91_0 c k (r91 c k n) f h n_0
        rw [fset_self e_0] at hh
        exact Eq.mpr hh hl0
    ) (by simp [u91]) hg

theorem e94_0 (c : Caller Prop FT) (k : KV) (J : J94) (f : FT) (h : H) (v_0 : AV) (v_1 : AV) : chunkA env c q94 u94 (f94 J) d94 (retA env Go.Proofs.Tryz.f94.results.toList k) .root (fset (fset f 0 v_0) 1 v_1) h = s94_0 c k J v_0 v_1 h := by kernel_rfl
theorem w94 {c : Caller Prop FT} (hc : CallOk Go.Proofs.Tryz.prog (CP env) G (fun p => p) c) {k : KV} {n : Nat} {args : List AV} {h : H} (hg : f94 (r94 c k n) 0 (finit args) h) : SW Go.Proofs.Tryz.prog G (.func 94) args h k :=
  fn_ok mixed envOk hc q94 Go.Proofs.Tryz.func94 rfl (by kernel_rfl) (by kernel_rfl) k u94 (fun n => f94 (r94 c k n))
    (fun L f h hl => by
      match L, hl with
      | 0, hl => exact hl
      | _ + 1, hl => exact hl)
    (fun n p L hm f h hl => by
      simp only [u94, List.mem_cons, Prod.mk.injEq, List.not_mem_nil, or_false] at hm
      rcases hm with ⟨rfl, rfl⟩
      · have hl : f94 (r94 c k (n + 1)) 0 f h := hl
        have hh := e94_0 c k (r94 c k n) f h (f 0) (f 1)
        rw [fset_self (rfl : f 0 = f 0)] at hh
        rw [fset_self (rfl : f 1 = f 1)] at hh
        exact Eq.mpr hh hl
    ) (by simp [u94]) hg

theorem e96_0 (c : Caller Prop FT) (k : KV) (J : J96) (f : FT) (h : H) (v_0 : AV) (l_1 : Nat) (c_1 : Nat) : chunkA env c q96 u96 (f96 J) d96 (retA env Go.Proofs.Tryz.f96.results.toList k) .root (fset (fset f 0 v_0) 1 (.str l_1 c_1)) h = s96_0 c k J v_0 l_1 c_1 h := by kernel_rfl
theorem w96 {c : Caller Prop FT} (hc : CallOk Go.Proofs.Tryz.prog (CP env) G (fun p => p) c) {k : KV} {n : Nat} {args : List AV} {h : H} (hg : f96 (r96 c k n) 0 (finit args) h) : SW Go.Proofs.Tryz.prog G (.func 96) args h k :=
  fn_ok mixed envOk hc q96 Go.Proofs.Tryz.func96 rfl (by kernel_rfl) (by kernel_rfl) k u96 (fun n => f96 (r96 c k n))
    (fun L f h hl => by
      match L, hl with
      | 0, hl => obtain ⟨_, _, _, hl0⟩ := asS_inv (show _ from hl); exact hl0
      | _ + 1, hl => exact hl)
    (fun n p L hm f h hl => by
      simp only [u96, List.mem_cons, Prod.mk.injEq, List.not_mem_nil, or_false] at hm
      rcases hm with ⟨rfl, rfl⟩
      · have hl : f96 (r96 c k (n + 1)) 0 f h := hl
        obtain ⟨l_1, c_1, e_1, hl1⟩ := asS_inv hl
        have hh := e96_0 c k (r96 c k n) f h (f 0) l_1 c_1
        rw [fset_self (rfl : f 0 = f 0)] at hh
        rw [fset_self e_1] at hh
        exact Eq.mpr hh hl1
    ) (by simp [u96]) hg

theorem w99 {c : Caller Prop FT} (hc : CallOk Go.Proofs.Tryz.prog (CP env) G (fun p => p) c) {k : KV} {m : Nat} {a : List AV} {h : H} (hg : runJ env c q99 u99 d99 (retA env Go.Proofs.Tryz.f99.results.toList k) m 0 (finit a) h) : SW Go.Proofs.Tryz.prog G (.func 99) a h k := fnI_ok mixed envOk hc q99 Go.Proofs.Tryz.func99 rfl (by kernel_rfl) (by kernel_rfl) (by kernel_rfl) (by simp [u99]) hg
theorem e109_0 (c : Caller Prop FT) (k : KV) (J : J109) (f : FT) (h : H) (v_0 : AV) (l_1 : Nat) (c_1 : Nat) : chunkA env c q109 u109 (f109 J) d109 (retA env Go.Proofs.Tryz.f109.results.toList k) .root (fset (fset f 0 v_0) 1 (.str l_1 c_1)) h = s109_0 c k J v_0 l_1 c_1 h := by kernel_rfl
theorem w109 {c : Caller Prop FT} (hc : CallOk Go.Proofs.Tryz.prog (CP env) G (fun p => p) c) {k : KV} {n : Nat} {args : List AV} {h : H} (hg : f109 (r109 c k n) 0 (finit args) h) : SW Go.Proofs.Tryz.prog G (.func 109) args h k :=
  fn_ok mixed envOk hc q109 Go.Proofs.Tryz.func109 rfl (by kernel_rfl) (by kernel_rfl) k u109 (fun n => f109 (r109 c k n))
    (fun L f h hl => by
      match L, hl with
      | 0, hl => obtain ⟨_, _, _, hl0⟩ := asS_inv (show _ from hl); exact hl0
      | _ + 1, hl => exact hl)
    (fun n p L hm f h hl => by
      simp only [u109, List.mem_cons, Prod.mk.injEq, List.not_mem_nil, or_false] at hm
      rcases hm with ⟨rfl, rfl⟩
      · have hl : f109 (r109 c k (n + 1)) 0 f h := hl
        obtain ⟨l_1, c_1, e_1, hl1⟩ := asS_inv hl
        have hh := e109_0 c k (r109 c k n) f h (f 0) l_1 c_1
        rw [fset_self (rfl : f 0 = f 0)] at hh
        rw [fset_self e_1] at hh
        exact Eq.mpr hh hl1
    ) (by simp [u109]) hg

theorem e113_0 (c : Caller Prop FT) (k : KV) (J : J113) (f : FT) (h : H) (v_0 : AV) (n_1 : Int) (n_2 : Int) : chunkA env c q113 u113 (f113 J) d113 (retA env Go.Proofs.Tryz.f113.results.toList k) .root (fset (fset (fset f 0 v_0) 1 (.int .i64 n_1)) 2 (.int .i64 n_2)) h = s113_0 c k J v_0 n_1 n_2 h := by kernel_rfl
theorem e113_1 (c : Caller Prop FT) (k : KV) (J : J113) (f : FT) (h : H) (v_0 : AV) (n_1 : Int) (n_2 : Int) (n_6 : Int) : chunkA env c q113 u113 (f113 J) d113 (retA env Go.Proofs.Tryz.f113.results.toList k) (.l (.r .root)) (fset (fset (fset (fset f 0 v_0) 1 (.int .i64 n_1)) 2 (.int .i64 n_2)) 6 (.int .i64 n_6)) h = s113_1 c k J v_0 n_1 n_2 n_6 h := by kernel_rfl
theorem e113_2 (c : Caller Prop FT) (k : KV) (J : J113) (f : FT) (h : H) (v_0 : AV) (n_1 : Int) (n_2 : Int) (n_6 : Int) (n_7 : Int) : chunkA env c q113 u113 (f113 J) d113 (retA env Go.Proofs.Tryz.f113.results.toList k) (.l (.r (.l (.l (.r (.l (.l (.r .root)))))))) (fset (fset (fset (fset (fset f 0 v_0) 1 (.int .i64 n_1)) 2 (.int .i64 n_2)) 6 (.int .i64 n_6)) 7 (.int .i64 n_7)) h = s113_2 c k J v_0 n_1 n_2 n_6 n_7 h := by kernel_rfl
theorem w113 {c : Caller Prop FT} (hc : CallOk Go.Proofs.Tryz.prog (CP env) G (fun p => p) c) {k : KV} {n : Nat} {args : List AV} {h : H} (hg : f113 (r113 c k n) 0 (finit args) h) : SW Go.Proofs.Tryz.prog G (.func 113) args h k :=
  fn_ok mixed envOk hc q113 Go.Proofs.Tryz.func113 rfl (by kernel_rfl) (by kernel_rfl) k u113 (fun n => f113 (r113 c k n))
    (fun L f h hl => by
      match L, hl with
      | 0, hl => obtain ⟨_, _, hl0⟩ := asI_inv (show _ from hl); obtain ⟨_, _, hl1⟩ := asI_inv (show _ from hl0); exact hl1
      | 1, hl => obtain ⟨_, _, hl0⟩ := asI_inv (show _ from hl); obtain ⟨_, _, hl1⟩ := asI_inv (show _ from hl0); obtain ⟨_, _, hl2⟩ := asI_inv (show _ from hl1); exact hl2
      | 2, hl => obtain ⟨_, _, hl0⟩ := asI_inv (show _ from hl); obtain ⟨_, _, hl1⟩ := asI_inv (show _ from hl0); obtain ⟨_, _, hl2⟩ := asI_inv (show _ from hl1); obtain ⟨_, _, hl3⟩ := asI_inv (show _ from hl2); exact hl3
      | _ + 3, hl => exact hl)
    (fun n p L hm f h hl => by
      simp only [u113, List.mem_cons, Prod.mk.injEq, List.not_mem_nil, or_false] at hm
      rcases hm with ⟨rfl, rfl⟩ | ⟨rfl, rfl⟩ | ⟨rfl, rfl⟩
      · have hl : f113 (r113 c k (n + 1)) 0 f h := hl
        obtain ⟨n_1, e_1, hl1⟩ := asI_inv hl
        obtain ⟨n_2, e_2, hl2⟩ := asI_inv hl1
        have hh := e113_0 c k (r113 c k n) f h (f 0) n_1 n_2
        rw [fset_self (rfl : f 0 = f 0)] at hh
        rw [fset_self e_1] at hh
        rw [fset_self e_2] at hh
        exact Eq.mpr hh hl2
      · have hl : f113 (r113 c k (n + 1)) 1 f h := hl
        obtain ⟨n_1, e_1, hl1⟩ := asI_inv hl
        obtain ⟨n_2, e_2, hl2⟩ := asI_inv hl1
        obtain ⟨n_6, e_6, hl3⟩ := asI_inv hl2
        have hh := e113_1 c k (r113 c k n) f h (f 0) n_1 n_2 n_6
        rw [fset_self (rfl : f 0 = f 0)] at hh
        rw [fset_self e_1] at hh
        rw [fset_self e_2] at hh
        rw [fset_self e_6] at hh
        exact Eq.mpr hh hl3
      · have hl : f113 (r113 c k (n + 1)) 2 f h := hl
        obtain ⟨n_1, e_1, hl1⟩ := asI_inv hl
        obtain ⟨n_2, e_2, hl2⟩ := asI_inv hl1
        obtain ⟨n_6, e_6, hl3⟩ := asI_inv hl2
        obtain ⟨n_7, e_7, hl4⟩ := asI_inv hl3
        have hh := e113_2 c k (r113 c k n) f h (f 0) n_1 n_2 n_6 n_7
        rw [fset_self (rfl : f 0 = f 0)] at hh
        rw [fset_self e_1] at hh
        rw [fset_self e_2] at hh
        rw [fset_self e_6] at hh
        rw [fset_self e_7] at hh
        exact Eq.mpr hh hl4
    ) (by simp [u113]) hg

theorem e119_0 (c : Caller Prop FT) (k : KV) (J : J119) (f : FT) (h : H) (l_0 : Nat) (c_0 : Nat) (l_1 : Nat) (c_1 : Nat) : chunkA env c q119 u119 (f119 J) d119 (retA env Go.Proofs.Tryz.f119.results.toList k) .root (fset (fset f 0 (.str l_0 c_0)) 1 (.str l_1 c_1)) h = s119_0 c k J l_0 c_0 l_1 c_1 h := by kernel_rfl
theorem w119 {c : Caller Prop FT} (hc : CallOk Go.Proofs.Tryz.prog (CP env) G (fun p => p) c) {k : KV} {n : Nat} {args : List AV} {h : H} (hg : f119 (r119 c k n) 0 (finit args) h) : SW Go.Proofs.Tryz.prog G (.func 119) args h k :=
  fn_ok mixed envOk hc q119 Go.Proofs.Tryz.func119 rfl (by kernel_rfl) (by kernel_rfl) k u119 (fun n => f119 (r119 c k n))
    (fun L f h hl => by
      match L, hl with
      | 0, hl => obtain ⟨_, _, _, hl0⟩ := asS_inv (show _ from hl); obtain ⟨_, _, _, hl1⟩ := asS_inv (show _ from hl0); exact hl1
      | _ + 1, hl => exact hl)
    (fun n p L hm f h hl => by
      simp only [u119, List.mem_cons, Prod.mk.injEq, List.not_mem_nil, or_false] at hm
      rcases hm with ⟨rfl, rfl⟩
      · have hl : f119 (r119 c k (n + 1)) 0 f h := hl
        obtain ⟨l_0, c_0, e_0, hl0⟩ := asS_inv hl
        obtain ⟨l_1, c_1, e_1, hl1⟩ := asS_inv hl0
        have hh := e119_0 c k (r119 c k n) f h l_0 c_0 l_1 c_1
        rw [fset_self e_0] at hh
        rw [fset_self e_1] at hh
        exact Eq.mpr hh hl1
    ) (by simp [u119]) hg

theorem e125_0 (c : Caller Prop FT) (k : KV) (J : J125) (f : FT) (h : H) (v_0 : AV) : chunkA env c q125 u125 (f125 J) d125 (retA env Go.Proofs.Tryz.f125.results.toList k) .root (fset f 0 v_0) h = s125_0 c k J v_0 h := by kernel_rfl
theorem e125_1 (c : Caller Prop FT) (k : KV) (J : J125) (f : FT) (h : H) (v_0 : AV) : chunkA env c q125 u125 (f125 J) d125 (retA env Go.Proofs.Tryz.f125.results.toList k) (.l (.l (.l (.r (.l (.l (.r (.r .root)))))))) (fset f 0 v_0) h = s125_1 c k J v_0 h := by kernel_rfl
theorem e125_2 (c : Caller Prop FT) (k : KV) (J : J125) (f : FT) (h : H) (v_0 : AV) (n_4 : Int) : chunkA env c q125 u125 (f125 J) d125 (retA env Go.Proofs.Tryz.f125.results.toList k) (.l (.r (.l (.r (.r (.r .root)))))) (fset (fset f 0 v_0) 4 (.int .i64 n_4)) h = s125_2 c k J v_0 n_4 h := by kernel_rfl
theorem w125 {c : Caller Prop FT} (hc : CallOk Go.Proofs.Tryz.prog (CP env) G (fun p => p) c) {k : KV} {n : Nat} {args : List AV} {h : H} (hg : f125 (r125 c k n) 0 (finit args) h) : SW Go.Proofs.Tryz.prog G (.func 125) args h k :=
  fn_ok mixed envOk hc q125 Go.Proofs.Tryz.func125 rfl (by kernel_rfl) (by kernel_rfl) k u125 (fun n => f125 (r125 c k n))
    (fun L f h hl => by
      match L, hl with
      | 0, hl => exact hl
      | 1, hl => exact hl
      | 2, hl => obtain ⟨_, _, hl0⟩ := asI_inv (show _ from hl); exact hl0
      | _ + 3, hl => exact hl)
    (fun n p L hm f h hl => by
      simp only [u125, List.mem_cons, Prod.mk.injEq, List.not_mem_nil, or_false] at hm
      rcases hm with ⟨rfl, rfl⟩ | ⟨rfl, rfl⟩ | ⟨rfl, rfl⟩
      · have hl : f125 (r125 c k (n + 1)) 0 f h := hl
        have hh := e125_0 c k (r125 c k n) f h (f 0)
        rw [fset_self (rfl : f 0 = f 0)] at hh
        exact Eq.mpr hh hl
      · have hl : f125 (r125 c k (n + 1)) 1 f h := hl
        have hh := e125_1 c k (r125 c k n) f h (f 0)
        rw [fset_self (rfl : f 0 = f 0)] at hh
        exact Eq.mpr hh hl
      · have hl : f125 (r125 c k (n + 1)) 2 f h := hl
        obtain ⟨n_4, e_4, hl1⟩ := asI_inv hl
        have hh := e125_2 c k (r125 c k n) f h (f 0) n_4
        rw [fset_self (rfl : f 0 = f 0)] at hh
        rw [fset_self e_4] at hh
        exact Eq.mpr hh hl1
    ) (by simp [u125]) hg

theorem e126_0 (c : Caller Prop FT) (k : KV) (J : J126) (f : FT) (h : H) (v_0 : AV) : chunkA env c q126 u126 (f126 J) d126 (retA env Go.Proofs.Tryz.f126.results.toList k) .root (fset f 0 v_0) h = s126_0 c k J v_0 h := by kernel_rfl
theorem e126_1 (c : Caller Prop FT) (k : KV) (J : J126) (f : FT) (h : H) (v_0 : AV) (n_3 : Int) : chunkA env c q126 u126 (f126 J) d126 (retA env Go.Proofs.Tryz.f126.results.toList k) (.l (.r (.l (.l (.r (.l (.r (.r .root)))))))) (fset (fset f 0 v_0) 3 (.int .i64 n_3)) h = s126_1 c k J v_0 n_3 h := by kernel_rfl
theorem w126 {c : Caller Prop FT} (hc : CallOk Go.Proofs.Tryz.prog (CP env) G (fun p => p) c) {k : KV} {n : Nat} {args : List AV} {h : H} (hg : f126 (r126 c k n) 0 (finit args) h) : SW Go.Proofs.Tryz.prog G (.func 126) args h k :=
  fn_ok mixed envOk hc q126 Go.Proofs.Tryz.func126 rfl (by kernel_rfl) (by kernel_rfl) k u126 (fun n => f126 (r126 c k n))
    (fun L f h hl => by
      match L, hl with
      | 0, hl => exact hl
      | 1, hl => obtain ⟨_, _, hl0⟩ := asI_inv (show _ from hl); exact hl0
      | _ + 2, hl => exact hl)
    (fun n p L hm f h hl => by
      simp only [u126, List.mem_cons, Prod.mk.injEq, List.not_mem_nil, or_false] at hm
      rcases hm with ⟨rfl, rfl⟩ | ⟨rfl, rfl⟩
      · have hl : f126 (r126 c k (n + 1)) 0 f h := hl
        have hh := e126_0 c k (r126 c k n) f h (f 0)
        rw [fset_self (rfl : f 0 = f 0)] at hh
        exact Eq.mpr hh hl
      · have hl : f126 (r126 c k (n + 1)) 1 f h := hl
        obtain ⟨n_3, e_3, hl1⟩ := asI_inv hl
        have hh := e126_1 c k (r126 c k n) f h (f 0) n_3
        rw [fset_self (rfl : f 0 = f 0)] at hh
        rw [fset_self e_3] at hh
        exact Eq.mpr hh hl1
    ) (by simp [u126]) hg

theorem w130 {c : Caller Prop FT} (hc : CallOk Go.Proofs.Tryz.prog (CP env) G (fun p => p) c) {k : KV} {m : Nat} {a : List AV} {h : H} (hg : runJ env c q130 u130 d130 (retA env Go.Proofs.Tryz.f130.results.toList k) m 0 (finit a) h) : SW Go.Proofs.Tryz.prog G (.func 130) a h k := fnI_ok mixed envOk hc q130 Go.Proofs.Tryz.func130 rfl (by kernel_rfl) (by kernel_rfl) (by kernel_rfl) (by simp [u130]) hg
theorem e133_0 (c : Caller Prop FT) (k : KV) (J : J133) (f : FT) (h : H) (n_0 : Int) (v_1 : AV) : chunkA env c q133 u133 (f133 J) d133 (retA env Go.Proofs.Tryz.f133.results.toList k) .root (fset (fset f 0 (.int .i64 n_0)) 1 v_1) h = s133_0 c k J n_0 v_1 h := by kernel_rfl
theorem e133_1 (c : Caller Prop FT) (k : KV) (J : J133) (f : FT) (h : H) (n_0 : Int) (v_1 : AV) (v_4 : AV) (n_6 : Int) (n_7 : Int) (n_8 : Int) : chunkA env c q133 u133 (f133 J) d133 (retA env Go.Proofs.Tryz.f133.results.toList k) (.l (.r (.l (.r (.r (.r .root)))))) (fset (fset (fset (fset (fset (fset f 0 (.int .i64 n_0)) 1 v_1) 4 v_4) 6 (.int .i64 n_6)) 7 (.int .i64 n_7)) 8 (.int .i64 n_8)) h = s133_1 c k J n_0 v_1 v_4 n_6 n_7 n_8 h := by kernel_rfl
theorem e133_2 (c : Caller Prop FT) (k : KV) (J : J133) (f : FT) (h : H) (n_0 : Int) (v_1 : AV) (v_4 : AV) (n_6 : Int) (n_7 : Int) (n_8 : Int) : chunkA env c q133 u133 (f133 J) d133 (retA env Go.Proofs.Tryz.f133.results.toList k) (.r (.r (.l (.l (.r (.l (.r (.r (.r .root))))))))) (fset (fset (fset (fset (fset (fset f 0 (.int .i64 n_0)) 1 v_1) 4 v_4) 6 (.int .i64 n_6)) 7 (.int .i64 n_7)) 8 (.int .i64 n_8)) h = s133_2 c k J n_0 v_1 v_4 n_6 n_7 n_8 h := by kernel_rfl
theorem w133 {c : Caller Prop FT} (hc : CallOk Go.Proofs.Tryz.prog (CP env) G (fun p => p) c) {k : KV} {n : Nat} {args : List AV} {h : H} (hg : f133 (r133 c k n) 0 (finit args) h) : SW Go.Proofs.Tryz.prog G (.func 133) args h k :=
  fn_ok mixed envOk hc q133 Go.Proofs.Tryz.func133 rfl (by kernel_rfl) (by kernel_rfl) k u133 (fun n => f133 (r133 c k n))
    (fun L f h hl => by
      match L, hl with
      | 0, hl => obtain ⟨_, _, hl0⟩ := asI_inv (show _ from hl); exact hl0
      | 1, hl => obtain ⟨_, _, hl0⟩ := asI_inv (show _ from hl); obtain ⟨_, _, hl1⟩ := asI_inv (show _ from hl0); obtain ⟨_, _, hl2⟩ := asI_inv (show _ from hl1); obtain ⟨_, _, hl3⟩ := asI_inv (show _ from hl2); exact hl3
      | 2, hl => obtain ⟨_, _, hl0⟩ := asI_inv (show _ from hl); obtain ⟨_, _, hl1⟩ := asI_inv (show _ from hl0); obtain ⟨_, _, hl2⟩ := asI_inv (show _ from hl1); obtain ⟨_, _, hl3⟩ := asI_inv (show _ from hl2); exact hl3
      | _ + 3, hl => exact hl)
    (fun n p L hm f h hl => by
      simp only [u133, List.mem_cons, Prod.mk.injEq, List.not_mem_nil, or_false] at hm
      rcases hm with ⟨rfl, rfl⟩ | ⟨rfl, rfl⟩ | ⟨rfl, rfl⟩
      · have hl : f133 (r133 c k (n + 1)) 0 f h := hl
        obtain ⟨n_0, e_0, hl0⟩ := asI_inv hl
        have hh := e133_0 c k (r133 c k n) f h n_0 (f 1)
        rw [fset_self e_0] at hh
        rw [fset_self (rfl : f 1 = f 1)] at hh
        exact Eq.mpr hh hl0
      · have hl : f133 (r133 c k (n + 1)) 1 f h := hl
        obtain ⟨n_0, e_0, hl0⟩ := asI_inv hl
        obtain ⟨n_6, e_6, hl3⟩ := asI_inv hl0
        obtain ⟨n_7, e_7, hl4⟩ := asI_inv hl3
        obtain ⟨n_8, e_8, hl5⟩ := asI_inv hl4
        have hh := e133_1 c k (r133 c k n) f h n_0 (f 1) (f 4) n_6 n_7 n_8
        rw [fset_self e_0] at hh
        rw [fset_self (rfl : f 1 = f 1)] at hh
        rw [fset_self (rfl : f 4 = f 4)] at hh
        rw [fset_self e_6] at hh
        rw [fset_self e_7] at hh
        rw [fset_self e_8] at hh
        exact Eq.mpr hh hl5
      · have hl : f133 (r133 c k (n + 1)) 2 f h := hl
        obtain ⟨n_0, e_0, hl0⟩ := asI_inv hl
        obtain ⟨n_6, e_6, hl3⟩ := asI_inv hl0
        obtain ⟨n_7, e_7, hl4⟩ := asI_inv hl3
        obtain ⟨n_8, e_8, hl5⟩ := asI_inv hl4
        have hh := e133_2 c k (r133 c k n) f h n_0 (f 1) (f 4) n_6 n_7 n_8
        rw [fset_self e_0] at hh
        rw [fset_self (rfl : f 1 = f 1)] at hh
        rw [fset_self (rfl : f 4 = f 4)] at hh
        rw [fset_self e_6] at hh
        rw [fset_self e_7] at hh
        rw [fset_self e_8] at hh
        exact Eq.mpr hh hl5
    ) (by simp [u133]) hg

theorem e134_0 (c : Caller Prop FT) (k : KV) (J : J134) (f : FT) (h : H) (n_0 : Int) (v_1 : AV) : chunkA env c q134 u134 (f134 J) d134 (retA env Go.Proofs.Tryz.f134.results.toList k) .root (fset (fset f 0 (.int .i64 n_0)) 1 v_1) h = s134_0 c k J n_0 v_1 h := by kernel_rfl
theorem w134 {c : Caller Prop FT} (hc : CallOk Go.Proofs.Tryz.prog (CP env) G (fun p => p) c) {k : KV} {n : Nat} {args : List AV} {h : H} (hg : f134 (r134 c k n) 0 (finit args) h) : SW Go.Proofs.Tryz.prog G (.func 134) args h k :=
  fn_ok mixed envOk hc q134 Go.Proofs.Tryz.func134 rfl (by kernel_rfl) (by kernel_rfl) k u134 (fun n => f134 (r134 c k n))
    (fun L f h hl => by
      match L, hl with
      | 0, hl => obtain ⟨_, _, hl0⟩ := asI_inv (show _ from hl); exact hl0
      | _ + 1, hl => exact hl)
    (fun n p L hm f h hl => by
      simp only [u134, List.mem_cons, Prod.mk.injEq, List.not_mem_nil, or_false] at hm
      rcases hm with ⟨rfl, rfl⟩
      · have hl : f134 (r134 c k (n + 1)) 0 f h := hl
        obtain ⟨n_0, e_0, hl0⟩ := asI_inv hl
        have hh := e134_0 c k (r134 c k n) f h n_0 (f 1)
        rw [fset_self e_0] at hh
        rw [fset_self (rfl : f 1 = f 1)] at hh
        exact Eq.mpr hh hl0
    ) (by simp [u134]) hg

theorem w136 {c : Caller Prop FT} (hc : CallOk Go.Proofs.Tryz.prog (CP env) G (fun p => p) c) {k : KV} {m : Nat} {a : List AV} {h : H} (hg : runJ env c q136 u136 d136 (retA env Go.Proofs.Tryz.f136.results.toList k) m 0 (finit a) h) : SW Go.Proofs.Tryz.prog G (.func 136) a h k := fnI_ok mixed envOk hc q136 Go.Proofs.Tryz.func136 rfl (by kernel_rfl) (by kernel_rfl) (by kernel_rfl) (by simp [u136]) hg
theorem w141 {c : Caller Prop FT} (hc : CallOk Go.Proofs.Tryz.prog (CP env) G (fun p => p) c) {k : KV} {m : Nat} {a : List AV} {h : H} (hg : runJ env c q141 u141 d141 (retA env Go.Proofs.Tryz.f141.results.toList k) m 0 (finit a) h) : SW Go.Proofs.Tryz.prog G (.func 141) a h k := fnI_ok mixed envOk hc q141 Go.Proofs.Tryz.func141 rfl (by kernel_rfl) (by kernel_rfl) (by kernel_rfl) (by simp [u141]) hg
theorem w144 {c : Caller Prop FT} (hc : CallOk Go.Proofs.Tryz.prog (CP env) G (fun p => p) c) {k : KV} {m : Nat} {a : List AV} {h : H} (hg : runJ env c q144 u144 d144 (retA env Go.Proofs.Tryz.f144.results.toList k) m 0 (finit a) h) : SW Go.Proofs.Tryz.prog G (.func 144) a h k := fnI_ok mixed envOk hc q144 Go.Proofs.Tryz.func144 rfl (by kernel_rfl) (by kernel_rfl) (by kernel_rfl) (by simp [u144]) hg
theorem e152_0 (c : Caller Prop FT) (k : KV) (J : J152) (f : FT) (h : H) (v_0 : AV) (v_1 : AV) : chunkA env c q152 u152 (f152 J) d152 (retA env Go.Proofs.Tryz.f152.results.toList k) .root (fset (fset f 0 v_0) 1 v_1) h = s152_0 c k J v_0 v_1 h := by kernel_rfl
theorem w152 {c : Caller Prop FT} (hc : CallOk Go.Proofs.Tryz.prog (CP env) G (fun p => p) c) {k : KV} {n : Nat} {args : List AV} {h : H} (hg : f152 (r152 c k n) 0 (finit args) h) : SW Go.Proofs.Tryz.prog G (.func 152) args h k :=
  fn_ok mixed envOk hc q152 Go.Proofs.Tryz.func152 rfl (by kernel_rfl) (by kernel_rfl) k u152 (fun n => f152 (r152 c k n))
    (fun L f h hl => by
      match L, hl with
      | 0, hl => exact hl
      | _ + 1, hl => exact hl)
    (fun n p L hm f h hl => by
      simp only [u152, List.mem_cons, Prod.mk.injEq, List.not_mem_nil, or_false] at hm
      rcases hm with ⟨rfl, rfl⟩
      · have hl : f152 (r152 c k (n + 1)) 0 f h := hl
        have hh := e152_0 c k (r152 c k n) f h (f 0) (f 1)
        rw [fset_self (rfl : f 0 = f 0)] at hh
        rw [fset_self (rfl : f 1 = f 1)] at hh
        exact Eq.mpr hh hl
    ) (by simp [u152]) hg

theorem e154_0 (c : Caller Prop FT) (k : KV) (J : J154) (f : FT) (h : H) : chunkA env c q154 u154 (f154 J) d154 (retA env Go.Proofs.Tryz.f154.results.toList k) .root f h = s154_0 c k J  h := by kernel_rfl
theorem w154 {c : Caller Prop FT} (hc : CallOk Go.Proofs.Tryz.prog (CP env) G (fun p => p) c) {k : KV} {n : Nat} {args : List AV} {h : H} (hg : f154 (r154 c k n) 0 (finit args) h) : SW Go.Proofs.Tryz.prog G (.func 154) args h k :=
  fn_ok mixed envOk hc q154 Go.Proofs.Tryz.func154 rfl (by kernel_rfl) (by kernel_rfl) k u154 (fun n => f154 (r154 c k n))
    (fun L f h hl => by
      match L, hl with
      | 0, hl => exact hl
      | _ + 1, hl => exact hl)
    (fun n p L hm f h hl => by
      simp only [u154, List.mem_cons, Prod.mk.injEq, List.not_mem_nil, or_false] at hm
      rcases hm with ⟨rfl, rfl⟩
      · have hl : f154 (r154 c k (n + 1)) 0 f h := hl
        have hh := e154_0 c k (r154 c k n) f h 
        exact Eq.mpr hh hl
    ) (by simp [u154]) hg

theorem e170_0 (c : Caller Prop FT) (k : KV) (J : J170) (f : FT) (h : H) (v_0 : AV) (l_1 : Nat) (c_1 : Nat) : chunkA env c q170 u170 (f170 J) d170 (retA env Go.Proofs.Tryz.f170.results.toList k) .root (fset (fset f 0 v_0) 1 (.str l_1 c_1)) h = s170_0 c k J v_0 l_1 c_1 h := by kernel_rfl
theorem e170_1 (c : Caller Prop FT) (k : KV) (J : J170) (f : FT) (h : H) (v_0 : AV) (l_1 : Nat) (c_1 : Nat) (n_20 : Int) (n_21 : Int) : chunkA env c q170 u170 (f170 J) d170 (retA env Go.Proofs.Tryz.f170.results.toList k) (.l (.r (.l (.r (.r .root))))) (fset (fset (fset (fset f 0 v_0) 1 (.str l_1 c_1)) 20 (.int .i64 n_20)) 21 (.int .i64 n_21)) h = s170_1 c k J v_0 l_1 c_1 n_20 n_21 h := by kernel_rfl
theorem w170 {c : Caller Prop FT} (hc : CallOk Go.Proofs.Tryz.prog (CP env) G (fun p => p) c) {k : KV} {n : Nat} {args : List AV} {h : H} (hg : f170 (r170 c k n) 0 (finit args) h) : SW Go.Proofs.Tryz.prog G (.func 170) args h k :=
  fn_ok mixed envOk hc q170 Go.Proofs.Tryz.func170 rfl (by kernel_rfl) (by kernel_rfl) k u170 (fun n => f170 (r170 c k n))
    (fun L f h hl => by
      match L, hl with
      | 0, hl => obtain ⟨_, _, _, hl0⟩ := asS_inv (show _ from hl); exact hl0
      | 1, hl => obtain ⟨_, _, _, hl0⟩ := asS_inv (show _ from hl); obtain ⟨_, _, hl1⟩ := asI_inv (show _ from hl0); obtain ⟨_, _, hl2⟩ := asI_inv (show _ from hl1); exact hl2
      | _ + 2, hl => exact hl)
    (fun n p L hm f h hl => by
      simp only [u170, List.mem_cons, Prod.mk.injEq, List.not_mem_nil, or_false] at hm
      rcases hm with ⟨rfl, rfl⟩ | ⟨rfl, rfl⟩
      · have hl : f170 (r170 c k (n + 1)) 0 f h := hl
        obtain ⟨l_1, c_1, e_1, hl1⟩ := asS_inv hl
        have hh := e170_0 c k (r170 c k n) f h (f 0) l_1 c_1
        rw [fset_self (rfl : f 0 = f 0)] at hh
        rw [fset_self e_1] at hh
        exact Eq.mpr hh hl1
      · have hl : f170 (r170 c k (n + 1)) 1 f h := hl
        obtain ⟨l_1, c_1, e_1, hl1⟩ := asS_inv hl
        obtain ⟨n_20, e_20, hl2⟩ := asI_inv hl1
        obtain ⟨n_21, e_21, hl3⟩ := asI_inv hl2
        have hh := e170_1 c k (r170 c k n) f h (f 0) l_1 c_1 n_20 n_21
        rw [fset_self (rfl : f 0 = f 0)] at hh
        rw [fset_self e_1] at hh
        rw [fset_self e_20] at hh
        rw [fset_self e_21] at hh
        exact Eq.mpr hh hl3
    ) (by simp [u170]) hg

theorem e171_0 (c : Caller Prop FT) (k : KV) (J : J171) (f : FT) (h : H) (v_0 : AV) : chunkA env c q171 u171 (f171 J) d171 (retA env Go.Proofs.Tryz.f171.results.toList k) .root (fset f 0 v_0) h = s171_0 c k J v_0 h := by kernel_rfl
theorem e171_1 (c : Caller Prop FT) (k : KV) (J : J171) (f : FT) (h : H) (n_2 : Int) (n_3 : Int) : chunkA env c q171 u171 (f171 J) d171 (retA env Go.Proofs.Tryz.f171.results.toList k) (.r (.r (.l (.r (.r (.l (.r (.r (.r .root))))))))) (fset (fset f 2 (.int .i64 n_2)) 3 (.int .i64 n_3)) h = s171_1 c k J n_2 n_3 h := by kernel_rfl
theorem w171 {c : Caller Prop FT} (hc : CallOk Go.Proofs.Tryz.prog (CP env) G (fun p => p) c) {k : KV} {n : Nat} {args : List AV} {h : H} (hg : f171 (r171 c k n) 0 (finit args) h) : SW Go.Proofs.Tryz.prog G (.func 171) args h k :=
  fn_ok mixed envOk hc q171 Go.Proofs.Tryz.func171 rfl (by kernel_rfl) (by kernel_rfl) k u171 (fun n => f171 (r171 c k n))
    (fun L f h hl => by
      match L, hl with
      | 0, hl => exact hl
      | 1, hl => obtain ⟨_, _, hl0⟩ := asI_inv (show _ from hl); obtain ⟨_, _, hl1⟩ := asI_inv (show _ from hl0); exact hl1
      | _ + 2, hl => exact hl)
    (fun n p L hm f h hl => by
      simp only [u171, List.mem_cons, Prod.mk.injEq, List.not_mem_nil, or_false] at hm
      rcases hm with ⟨rfl, rfl⟩ | ⟨rfl, rfl⟩
      · have hl : f171 (r171 c k (n + 1)) 0 f h := hl
        have hh := e171_0 c k (r171 c k n) f h (f 0)
        rw [fset_self (rfl : f 0 = f 0)] at hh
        exact Eq.mpr hh hl
      · have hl : f171 (r171 c k (n + 1)) 1 f h := hl
        obtain ⟨n_2, e_2, hl0⟩ := asI_inv hl
        obtain ⟨n_3, e_3, hl1⟩ := asI_inv hl0
        have hh := e171_1 c k (r171 c k n) f h n_2 n_3
        rw [fset_self e_2] at hh
        rw [fset_self e_3] at hh
        exact Eq.mpr hh hl1
    ) (by simp [u171]) hg

theorem e172_0 (c : Caller Prop FT) (k : KV) (J : J172) (f : FT) (h : H) (n_0 : Int) : chunkA env c q172 u172 (f172 J) d172 (retA env Go.Proofs.Tryz.f172.results.toList k) .root (fset f 0 (.int .u8 n_0)) h = s172_0 c k J n_0 h := by kernel_rfl
theorem w172 {c : Caller Prop FT} (hc : CallOk Go.Proofs.Tryz.prog (CP env) G (fun p => p) c) {k : KV} {n : Nat} {args : List AV} {h : H} (hg : f172 (r172 c k n) 0 (finit args) h) : SW Go.Proofs.Tryz.prog G (.func 172) args h k :=
  fn_ok mixed envOk hc q172 Go.Proofs.Tryz.func172 rfl (by kernel_rfl) (by kernel_rfl) k u172 (fun n => f172 (r172 c k n))
    (fun L f h hl => by
      match L, hl with
      | 0, hl => obtain ⟨_, _, hl0⟩ := asI_inv (show _ from hl); exact hl0
      | _ + 1, hl => exact hl)
    (fun n p L hm f h hl => by
      simp only [u172, List.mem_cons, Prod.mk.injEq, List.not_mem_nil, or_false] at hm
      rcases hm with ⟨rfl, rfl⟩
      · have hl : f172 (r172 c k (n + 1)) 0 f h := hl
        obtain ⟨n_0, e_0, hl0⟩ := asI_inv hl
        have hh := e172_0 c k (r172 c k n) f h n_0
        rw [fset_self e_0] at hh
        exact Eq.mpr hh hl0
    ) (by simp [u172]) hg

theorem w177 {c : Caller Prop FT} (hc : CallOk Go.Proofs.Tryz.prog (CP env) G (fun p => p) c) {k : KV} {m : Nat} {a : List AV} {h : H} (hg : runJ env c q177 u177 d177 (retA env Go.Proofs.Tryz.f177.results.toList k) m 0 (finit a) h) : SW Go.Proofs.Tryz.prog G (.func 177) a h k := fnI_ok mixed envOk hc q177 Go.Proofs.Tryz.func177 rfl (by kernel_rfl) (by kernel_rfl) (by kernel_rfl) (by simp [u177]) hg
theorem w182 {c : Caller Prop FT} (hc : CallOk Go.Proofs.Tryz.prog (CP env) G (fun p => p) c) {k : KV} {m : Nat} {a : List AV} {h : H} (hg : runJ env c q182 u182 d182 (retA env Go.Proofs.Tryz.f182.results.toList k) m 0 (finit a) h) : SW Go.Proofs.Tryz.prog G (.func 182) a h k := fnI_ok mixed envOk hc q182 Go.Proofs.Tryz.func182 rfl (by kernel_rfl) (by kernel_rfl) (by kernel_rfl) (by simp [u182]) hg
theorem w185 {c : Caller Prop FT} (hc : CallOk Go.Proofs.Tryz.prog (CP env) G (fun p => p) c) {k : KV} {m : Nat} {a : List AV} {h : H} (hg : runJ env c q185 u185 d185 (retA env Go.Proofs.Tryz.f185.results.toList k) m 0 (finit a) h) : SW Go.Proofs.Tryz.prog G (.func 185) a h k := fnI_ok mixed envOk hc q185 Go.Proofs.Tryz.func185 rfl (by kernel_rfl) (by kernel_rfl) (by kernel_rfl) (by simp [u185]) hg
theorem w188 {c : Caller Prop FT} (hc : CallOk Go.Proofs.Tryz.prog (CP env) G (fun p => p) c) {k : KV} {m : Nat} {a : List AV} {h : H} (hg : runJ env c q188 u188 d188 (retA env Go.Proofs.Tryz.f188.results.toList k) m 0 (finit a) h) : SW Go.Proofs.Tryz.prog G (.func 188) a h k := fnI_ok mixed envOk hc q188 Go.Proofs.Tryz.func188 rfl (by kernel_rfl) (by kernel_rfl) (by kernel_rfl) (by simp [u188]) hg
theorem w191 {c : Caller Prop FT} (hc : CallOk Go.Proofs.Tryz.prog (CP env) G (fun p => p) c) {k : KV} {m : Nat} {a : List AV} {h : H} (hg : runJ env c q191 u191 d191 (retA env Go.Proofs.Tryz.f191.results.toList k) m 0 (finit a) h) : SW Go.Proofs.Tryz.prog G (.func 191) a h k := fnI_ok mixed envOk hc q191 Go.Proofs.Tryz.func191 rfl (by kernel_rfl) (by kernel_rfl) (by kernel_rfl) (by simp [u191]) hg
theorem e194_0 (c : Caller Prop FT) (k : KV) (J : J194) (f : FT) (h : H) (l_0 : Nat) (c_0 : Nat) (n_1 : Int) : chunkA env c q194 u194 (f194 J) d194 (retA env Go.Proofs.Tryz.f194.results.toList k) .root (fset (fset f 0 (.str l_0 c_0)) 1 (.int .u8 n_1)) h = s194_0 c k J l_0 c_0 n_1 h := by kernel_rfl
theorem w194 {c : Caller Prop FT} (hc : CallOk Go.Proofs.Tryz.prog (CP env) G (fun p => p) c) {k : KV} {n : Nat} {args : List AV} {h : H} (hg : f194 (r194 c k n) 0 (finit args) h) : SW Go.Proofs.Tryz.prog G (.func 194) args h k :=
  fn_ok mixed envOk hc q194 Go.Proofs.Tryz.func194 rfl (by kernel_rfl) (by kernel_rfl) k u194 (fun n => f194 (r194 c k n))
    (fun L f h hl => by
      match L, hl with
      | 0, hl => obtain ⟨_, _, _, hl0⟩ := asS_inv (show _ from hl); obtain ⟨_, _, hl1⟩ := asI_inv (show _ from hl0); exact hl1
      | _ + 1, hl => exact hl)
    (fun n p L hm f h hl => by
      simp only [u194, List.mem_cons, Prod.mk.injEq, List.not_mem_nil, or_false] at hm
      rcases hm with ⟨rfl, rfl⟩
      · have hl : f194 (r194 c k (n + 1)) 0 f h := hl
        obtain ⟨l_0, c_0, e_0, hl0⟩ := asS_inv hl
        obtain ⟨n_1, e_1, hl1⟩ := asI_inv hl0
        have hh := e194_0 c k (r194 c k n) f h l_0 c_0 n_1
        rw [fset_self e_0] at hh
        rw [fset_self e_1] at hh
        exact Eq.mpr hh hl1
    ) (by simp [u194]) hg

theorem e198_0 (c : Caller Prop FT) (k : KV) (J : J198) (f : FT) (h : H) (v_0 : AV) : chunkA env c q198 u198 (f198 J) d198 (retA env Go.Proofs.Tryz.f198.results.toList k) .root (fset f 0 v_0) h = s198_0 c k J v_0 h := by kernel_rfl
theorem w198 {c : Caller Prop FT} (hc : CallOk Go.Proofs.Tryz.prog (CP env) G (fun p => p) c) {k : KV} {n : Nat} {args : List AV} {h : H} (hg : f198 (r198 c k n) 0 (finit args) h) : SW Go.Proofs.Tryz.prog G (.func 198) args h k :=
  fn_ok mixed envOk hc q198 Go.Proofs.Tryz.func198 rfl (by kernel_rfl) (by kernel_rfl) k u198 (fun n => f198 (r198 c k n))
    (fun L f h hl => by
      match L, hl with
      | 0, hl => exact hl
      | _ + 1, hl => exact hl)
    (fun n p L hm f h hl => by
      simp only [u198, List.mem_cons, Prod.mk.injEq, List.not_mem_nil, or_false] at hm
      rcases hm with ⟨rfl, rfl⟩
      · have hl : f198 (r198 c k (n + 1)) 0 f h := hl
        have hh := e198_0 c k (r198 c k n) f h (f 0)
        rw [fset_self (rfl : f 0 = f 0)] at hh
        exact Eq.mpr hh hl
    ) (by simp [u198]) hg

theorem e206_0 (c : Caller Prop FT) (k : KV) (J : J206) (f : FT) (h : H) (v_0 : AV) : chunkA env c q206 u206 (f206 J) d206 (retA env Go.Proofs.Tryz.f206.results.toList k) .root (fset f 0 v_0) h = s206_0 c k J v_0 h := by kernel_rfl
theorem e206_1 (c : Caller Prop FT) (k : KV) (J : J206) (f : FT) (h : H) (v_2 : AV) (v_4 : AV) (v_6 : AV) (v_87 : AV) (n_88 : Int) (n_89 : Int) : chunkA env c q206 u206 (f206 J) d206 (retA env Go.Proofs.Tryz.f206.results.toList k) (.l (.r (.l (.r (.r (.r (.r (.r (.r (.r (.r (.r (.r (.r .root)))))))))))))) (fset (fset (fset (fset (fset (fset f 2 v_2) 4 v_4) 6 v_6) 87 v_87) 88 (.int .i64 n_88)) 89 (.int .i64 n_89)) h = s206_1 c k J v_2 v_4 v_6 v_87 n_88 n_89 h := by kernel_rfl
theorem e206_2 (c : Caller Prop FT) (k : KV) (J : J206) (f : FT) (h : H) (v_2 : AV) (v_4 : AV) (v_6 : AV) : chunkA env c q206 u206 (f206 J) d206 (retA env Go.Proofs.Tryz.f206.results.toList k) (.r (.r (.r (.r (.r (.r (.r (.r (.r (.r (.r .root))))))))))) (fset (fset (fset f 2 v_2) 4 v_4) 6 v_6) h = s206_2 c k J v_2 v_4 v_6 h := by kernel_rfl
theorem e206_3 (c : Caller Prop FT) (k : KV) (J : J206) (f : FT) (h : H) (v_0 : AV) (v_2 : AV) (v_4 : AV) (v_5 : AV) (v_6 : AV) (b_7 : Bool) : chunkA env c q206 u206 (f206 J) d206 (retA env Go.Proofs.Tryz.f206.results.toList k) (.r (.r (.r (.r (.r (.r (.r (.r (.r .root))))))))) (fset (fset (fset (fset (fset (fset f 0 v_0) 2 v_2) 4 v_4) 5 v_5) 6 v_6) 7 (.bool b_7)) h = s206_3 c k J v_0 v_2 v_4 v_5 v_6 b_7 h := by kernel_rfl
theorem e206_4 (c : Caller Prop FT) (k : KV) (J : J206) (f : FT) (h : H) (v_0 : AV) (v_2 : AV) (v_4 : AV) (v_5 : AV) (v_6 : AV) (b_7 : Bool) (b_59 : Bool) : chunkA env c q206 u206 (f206 J) d206 (retA env Go.Proofs.Tryz.f206.results.toList k) (.r (.l (.r (.r (.r (.r (.r (.r (.r (.r .root)))))))))) (fset (fset (fset (fset (fset (fset (fset f 0 v_0) 2 v_2) 4 v_4) 5 v_5) 6 v_6) 7 (.bool b_7)) 59 (.bool b_59)) h = s206_4 c k J v_0 v_2 v_4 v_5 v_6 b_7 b_59 h := by kernel_rfl
theorem w206 {c : Caller Prop FT} (hc : CallOk Go.Proofs.Tryz.prog (CP env) G (fun p => p) c) {k : KV} {n : Nat} {args : List AV} {h : H} (hg : f206 (r206 c k n) 0 (finit args) h) : SW Go.Proofs.Tryz.prog G (.func 206) args h k :=
  fn_ok mixed envOk hc q206 Go.Proofs.Tryz.func206 rfl (by kernel_rfl) (by kernel_rfl) k u206 (fun n => f206 (r206 c k n))
    (fun L f h hl => by
      match L, hl with
      | 0, hl => exact hl
      | 1, hl => obtain ⟨_, _, hl0⟩ := asI_inv (show _ from hl); obtain ⟨_, _, hl1⟩ := asI_inv (show _ from hl0); exact hl1
      | 2, hl => exact hl
      | 3, hl => obtain ⟨_, _, hl0⟩ := asB_inv (show _ from hl); exact hl0
      | 4, hl => obtain ⟨_, _, hl0⟩ := asB_inv (show _ from hl); obtain ⟨_, _, hl1⟩ := asB_inv (show _ from hl0); exact hl1
      | _ + 5, hl => exact hl)
    (fun n p L hm f h hl => by
      simp only [u206, List.mem_cons, Prod.mk.injEq, List.not_mem_nil, or_false] at hm
      rcases hm with ⟨rfl, rfl⟩ | ⟨rfl, rfl⟩ | ⟨rfl, rfl⟩ | ⟨rfl, rfl⟩ | ⟨rfl, rfl⟩
      · have hl : f206 (r206 c k (n + 1)) 0 f h := hl
        have hh := e206_0 c k (r206 c k n) f h (f 0)
        rw [fset_self (rfl : f 0 = f 0)] at hh
        exact Eq.mpr hh hl
      · have hl : f206 (r206 c k (n + 1)) 1 f h := hl
        obtain ⟨n_88, e_88, hl4⟩ := asI_inv hl
        obtain ⟨n_89, e_89, hl5⟩ := asI_inv hl4
        have hh := e206_1 c k (r206 c k n) f h (f 2) (f 4) (f 6) (f 87) n_88 n_89
        rw [fset_self (rfl : f 2 = f 2)] at hh
        rw [fset_self (rfl : f 4 = f 4)] at hh
        rw [fset_self (rfl : f 6 = f 6)] at hh
        rw [fset_self (rfl : f 87 = f 87)] at hh
        rw [fset_self e_88] at hh
        rw [fset_self e_89] at hh
        exact Eq.mpr hh hl5
      · have hl : f206 (r206 c k (n + 1)) 2 f h := hl
        have hh := e206_2 c k (r206 c k n) f h (f 2) (f 4) (f 6)
        rw [fset_self (rfl : f 2 = f 2)] at hh
        rw [fset_self (rfl : f 4 = f 4)] at hh
        rw [fset_self (rfl : f 6 = f 6)] at hh
        exact Eq.mpr hh hl
      · have hl : f206 (r206 c k (n + 1)) 3 f h := hl
        obtain ⟨b_7, e_7, hl5⟩ := asB_inv hl
        have hh := e206_3 c k (r206 c k n) f h (f 0) (f 2) (f 4) (f 5) (f 6) b_7
        rw [fset_self (rfl : f 0 = f 0)] at hh
        rw [fset_self (rfl : f 2 = f 2)] at hh
        rw [fset_self (rfl : f 4 = f 4)] at hh
        rw [fset_self (rfl : f 5 = f 5)] at hh
        rw [fset_self (rfl : f 6 = f 6)] at hh
        rw [fset_self e_7] at hh
        exact Eq.mpr hh hl5
      · have hl : f206 (r206 c k (n + 1)) 4 f h := hl
        obtain ⟨b_7, e_7, hl5⟩ := asB_inv hl
        obtain ⟨b_59, e_59, hl6⟩ := asB_inv hl5
        have hh := e206_4 c k (r206 c k n) f h (f 0) (f 2) (f 4) (f 5) (f 6) b_7 b_59
        rw [fset_self (rfl : f 0 = f 0)] at hh
        rw [fset_self (rfl : f 2 = f 2)] at hh
        rw [fset_self (rfl : f 4 = f 4)] at hh
        rw [fset_self (rfl : f 5 = f 5)] at hh
        rw [fset_self (rfl : f 6 = f 6)] at hh
        rw [fset_self e_7] at hh
        rw [fset_self e_59] at hh
        exact Eq.mpr hh hl6
    ) (by simp [u206]) hg

theorem e208_0 (c : Caller Prop FT) (k : KV) (J : J208) (f : FT) (h : H) (l_0 : Nat) (c_0 : Nat) : chunkA env c q208 u208 (f208 J) d208 (retA env Go.Proofs.Tryz.f208.results.toList k) .root (fset f 0 (.str l_0 c_0)) h = s208_0 c k J l_0 c_0 h := by kernel_rfl
theorem w208 {c : Caller Prop FT} (hc : CallOk Go.Proofs.Tryz.prog (CP env) G (fun p => p) c) {k : KV} {n : Nat} {args : List AV} {h : H} (hg : f208 (r208 c k n) 0 (finit args) h) : SW Go.Proofs.Tryz.prog G (.func 208) args h k :=
  fn_ok mixed envOk hc q208 Go.Proofs.Tryz.func208 rfl (by kernel_rfl) (by kernel_rfl) k u208 (fun n => f208 (r208 c k n))
    (fun L f h hl => by
      match L, hl with
      | 0, hl => obtain ⟨_, _, _, hl0⟩ := asS_inv (show _ from hl); exact hl0
      | _ + 1, hl => exact hl)
    (fun n p L hm f h hl => by
      simp only [u208, List.mem_cons, Prod.mk.injEq, List.not_mem_nil, or_false] at hm
      rcases hm with ⟨rfl, rfl⟩
      · have hl : f208 (r208 c k (n + 1)) 0 f h := hl
        obtain ⟨l_0, c_0, e_0, hl0⟩ := asS_inv hl
        have hh := e208_0 c k (r208 c k n) f h l_0 c_0
        rw [fset_self e_0] at hh
        exact Eq.mpr hh hl0
    ) (by simp [u208]) hg

theorem e212_0 (c : Caller Prop FT) (k : KV) (J : J212) (f : FT) (h : H) (v_0 : AV) (n_1 : Int) (n_2 : Int) : chunkA env c q212 u212 (f212 J) d212 (retA env Go.Proofs.Tryz.f212.results.toList k) .root (fset (fset (fset f 0 v_0) 1 (.int .i64 n_1)) 2 (.int .i64 n_2)) h = s212_0 c k J v_0 n_1 n_2 h := by kernel_rfl
theorem w212 {c : Caller Prop FT} (hc : CallOk Go.Proofs.Tryz.prog (CP env) G (fun p => p) c) {k : KV} {n : Nat} {args : List AV} {h : H} (hg : f212 (r212 c k n) 0 (finit args) h) : SW Go.Proofs.Tryz.prog G (.func 212) args h k :=
  fn_ok mixed envOk hc q212 Go.Proofs.Tryz.func212 rfl (by kernel_rfl) (by kernel_rfl) k u212 (fun n => f212 (r212 c k n))
    (fun L f h hl => by
      match L, hl with
      | 0, hl => obtain ⟨_, _, hl0⟩ := asI_inv (show _ from hl); obtain ⟨_, _, hl1⟩ := asI_inv (show _ from hl0); exact hl1
      | _ + 1, hl => exact hl)
    (fun n p L hm f h hl => by
      simp only [u212, List.mem_cons, Prod.mk.injEq, List.not_mem_nil, or_false] at hm
      rcases hm with ⟨rfl, rfl⟩
      · have hl : f212 (r212 c k (n + 1)) 0 f h := hl
        obtain ⟨n_1, e_1, hl1⟩ := asI_inv hl
        obtain ⟨n_2, e_2, hl2⟩ := asI_inv hl1
        have hh := e212_0 c k (r212 c k n) f h (f 0) n_1 n_2
        rw [fset_self (rfl : f 0 = f 0)] at hh
        rw [fset_self e_1] at hh
        rw [fset_self e_2] at hh
        exact Eq.mpr hh hl2
    ) (by simp [u212]) hg

theorem e214_0 (c : Caller Prop FT) (k : KV) (J : J214) (f : FT) (h : H) (v_0 : AV) : chunkA env c q214 u214 (f214 J) d214 (retA env Go.Proofs.Tryz.f214.results.toList k) .root (fset f 0 v_0) h = s214_0 c k J v_0 h := by kernel_rfl
theorem e214_1 (c : Caller Prop FT) (k : KV) (J : J214) (f : FT) (h : H) (v_0 : AV) (v_6 : AV) (n_7 : Int) (n_8 : Int) : chunkA env c q214 u214 (f214 J) d214 (retA env Go.Proofs.Tryz.f214.results.toList k) (.l (.r (.l (.r .root)))) (fset (fset (fset (fset f 0 v_0) 6 v_6) 7 (.int .i64 n_7)) 8 (.int .i64 n_8)) h = s214_1 c k J v_0 v_6 n_7 n_8 h := by kernel_rfl
theorem w214 {c : Caller Prop FT} (hc : CallOk Go.Proofs.Tryz.prog (CP env) G (fun p => p) c) {k : KV} {n : Nat} {args : List AV} {h : H} (hg : f214 (r214 c k n) 0 (finit args) h) : SW Go.Proofs.Tryz.prog G (.func 214) args h k :=
  fn_ok mixed envOk hc q214 Go.Proofs.Tryz.func214 rfl (by kernel_rfl) (by kernel_rfl) k u214 (fun n => f214 (r214 c k n))
    (fun L f h hl => by
      match L, hl with
      | 0, hl => exact hl
      | 1, hl => obtain ⟨_, _, hl0⟩ := asI_inv (show _ from hl); obtain ⟨_, _, hl1⟩ := asI_inv (show _ from hl0); exact hl1
      | _ + 2, hl => exact hl)
    (fun n p L hm f h hl => by
      simp only [u214, List.mem_cons, Prod.mk.injEq, List.not_mem_nil, or_false] at hm
      rcases hm with ⟨rfl, rfl⟩ | ⟨rfl, rfl⟩
      · have hl : f214 (r214 c k (n + 1)) 0 f h := hl
        have hh := e214_0 c k (r214 c k n) f h (f 0)
        rw [fset_self (rfl : f 0 = f 0)] at hh
        exact Eq.mpr hh hl
      · have hl : f214 (r214 c k (n + 1)) 1 f h := hl
        obtain ⟨n_7, e_7, hl2⟩ := asI_inv hl
        obtain ⟨n_8, e_8, hl3⟩ := asI_inv hl2
        have hh := e214_1 c k (r214 c k n) f h (f 0) (f 6) n_7 n_8
        rw [fset_self (rfl : f 0 = f 0)] at hh
        rw [fset_self (rfl : f 6 = f 6)] at hh
        rw [fset_self e_7] at hh
        rw [fset_self e_8] at hh
        exact Eq.mpr hh hl3
    ) (by simp [u214]) hg

theorem w218 {c : Caller Prop FT} (hc : CallOk Go.Proofs.Tryz.prog (CP env) G (fun p => p) c) {k : KV} {m : Nat} {a : List AV} {h : H} (hg : runJ env c q218 u218 d218 (retA env Go.Proofs.Tryz.f218.results.toList k) m 0 (finit a) h) : SW Go.Proofs.Tryz.prog G (.func 218) a h k := fnI_ok mixed envOk hc q218 Go.Proofs.Tryz.func218 rfl (by kernel_rfl) (by kernel_rfl) (by kernel_rfl) (by simp [u218]) hg
theorem w225 {c : Caller Prop FT} (hc : CallOk Go.Proofs.Tryz.prog (CP env) G (fun p => p) c) {k : KV} {m : Nat} {a : List AV} {h : H} (hg : runJ env c q225 u225 d225 (retA env Go.Proofs.Tryz.f225.results.toList k) m 0 (finit a) h) : SW Go.Proofs.Tryz.prog G (.func 225) a h k := fnI_ok mixed envOk hc q225 Go.Proofs.Tryz.func225 rfl (by kernel_rfl) (by kernel_rfl) (by kernel_rfl) (by simp [u225]) hg
theorem e229_0 (c : Caller Prop FT) (k : KV) (J : J229) (f : FT) (h : H) (v_0 : AV) : chunkA env c q229 u229 (f229 J) d229 (retA env Go.Proofs.Tryz.f229.results.toList k) .root (fset f 0 v_0) h = s229_0 c k J v_0 h := by kernel_rfl
theorem w229 {c : Caller Prop FT} (hc : CallOk Go.Proofs.Tryz.prog (CP env) G (fun p => p) c) {k : KV} {n : Nat} {args : List AV} {h : H} (hg : f229 (r229 c k n) 0 (finit args) h) : SW Go.Proofs.Tryz.prog G (.func 229) args h k :=
  fn_ok mixed envOk hc q229 Go.Proofs.Tryz.func229 rfl (by kernel_rfl) (by kernel_rfl) k u229 (fun n => f229 (r229 c k n))
    (fun L f h hl => by
      match L, hl with
      | 0, hl => exact hl
      | _ + 1, hl => exact hl)
    (fun n p L hm f h hl => by
      simp only [u229, List.mem_cons, Prod.mk.injEq, List.not_mem_nil, or_false] at hm
      rcases hm with ⟨rfl, rfl⟩
      · have hl : f229 (r229 c k (n + 1)) 0 f h := hl
        have hh := e229_0 c k (r229 c k n) f h (f 0)
        rw [fset_self (rfl : f 0 = f 0)] at hh
        exact Eq.mpr hh hl
    ) (by simp [u229]) hg

theorem e240_0 (c : Caller Prop FT) (k : KV) (J : J240) (f : FT) (h : H) (v_0 : AV) (v_1 : AV) : chunkA env c q240 u240 (f240 J) d240 (retA env Go.Proofs.Tryz.f240.results.toList k) .root (fset (fset f 0 v_0) 1 v_1) h = s240_0 c k J v_0 v_1 h := by kernel_rfl
theorem e240_1 (c : Caller Prop FT) (k : KV) (J : J240) (f : FT) (h : H) (v_0 : AV) (v_1 : AV) (l_6 : Nat) (c_6 : Nat) : chunkA env c q240 u240 (f240 J) d240 (retA env Go.Proofs.Tryz.f240.results.toList k) (.r (.r (.r (.r (.r (.r (.l (.r .root)))))))) (fset (fset (fset f 0 v_0) 1 v_1) 6 (.str l_6 c_6)) h = s240_1 c k J v_0 v_1 l_6 c_6 h := by kernel_rfl
theorem e240_2 (c : Caller Prop FT) (k : KV) (J : J240) (f : FT) (h : H) (v_0 : AV) (v_1 : AV) : chunkA env c q240 u240 (f240 J) d240 (retA env Go.Proofs.Tryz.f240.results.toList k) (.lab (.r .root) 0) (fset (fset f 0 v_0) 1 v_1) h = s240_2 c k J v_0 v_1 h := by kernel_rfl
theorem e240_3 (c : Caller Prop FT) (k : KV) (J : J240) (f : FT) (h : H) (v_0 : AV) (v_1 : AV) (l_6 : Nat) (c_6 : Nat) : chunkA env c q240 u240 (f240 J) d240 (retA env Go.Proofs.Tryz.f240.results.toList k) (.r (.r (.r (.r (.lab (.r .root) 0))))) (fset (fset (fset f 0 v_0) 1 v_1) 6 (.str l_6 c_6)) h = s240_3 c k J v_0 v_1 l_6 c_6 h := by kernel_rfl
theorem w240 {c : Caller Prop FT} (hc : CallOk Go.Proofs.Tryz.prog (CP env) G (fun p => p) c) {k : KV} {n : Nat} {args : List AV} {h : H} (hg : f240 (r240 c k n) 0 (finit args) h) : SW Go.Proofs.Tryz.prog G (.func 240) args h k :=
  fn_ok mixed envOk hc q240 Go.Proofs.Tryz.func240 rfl (by kernel_rfl) (by kernel_rfl) k u240 (fun n => f240 (r240 c k n))
    (fun L f h hl => by
      match L, hl with
      | 0, hl => exact hl
      | 1, hl => obtain ⟨_, _, _, hl0⟩ := asS_inv (show _ from hl); exact hl0
      | 2, hl => exact hl
      | 3, hl => obtain ⟨_, _, _, hl0⟩ := asS_inv (show _ from hl); exact hl0
      | _ + 4, hl => exact hl)
    (fun n p L hm f h hl => by
      simp only [u240, List.mem_cons, Prod.mk.injEq, List.not_mem_nil, or_false] at hm
      rcases hm with ⟨rfl, rfl⟩ | ⟨rfl, rfl⟩ | ⟨rfl, rfl⟩ | ⟨rfl, rfl⟩
      · have hl : f240 (r240 c k (n + 1)) 0 f h := hl
        have hh := e240_0 c k (r240 c k n) f h (f 0) (f 1)
        rw [fset_self (rfl : f 0 = f 0)] at hh
        rw [fset_self (rfl : f 1 = f 1)] at hh
        exact Eq.mpr hh hl
      · have hl : f240 (r240 c k (n + 1)) 1 f h := hl
        obtain ⟨l_6, c_6, e_6, hl2⟩ := asS_inv hl
        have hh := e240_1 c k (r240 c k n) f h (f 0) (f 1) l_6 c_6
        rw [fset_self (rfl : f 0 = f 0)] at hh
        rw [fset_self (rfl : f 1 = f 1)] at hh
        rw [fset_self e_6] at hh
        exact Eq.mpr hh hl2
      · have hl : f240 (r240 c k (n + 1)) 2 f h := hl
        have hh := e240_2 c k (r240 c k n) f h (f 0) (f 1)
        rw [fset_self (rfl : f 0 = f 0)] at hh
        rw [fset_self (rfl : f 1 = f 1)] at hh
        exact Eq.mpr hh hl
      · have hl : f240 (r240 c k (n + 1)) 3 f h := hl
        obtain ⟨l_6, c_6, e_6, hl2⟩ := asS_inv hl
        have hh := e240_3 c k (r240 c k n) f h (f 0) (f 1) l_6 c_6
        rw [fset_self (rfl : f 0 = f 0)] at hh
        rw [fset_self (rfl : f 1 = f 1)] at hh
        rw [fset_self e_6] at hh
        exact Eq.mpr hh hl2
    ) (by simp [u240]) hg

theorem w254 {c : Caller Prop FT} (hc : CallOk Go.Proofs.Tryz.prog (CP env) G (fun p => p) c) {k : KV} {m : Nat} {a : List AV} {h : H} (hg : runJ env c q254 u254 d254 (retA env Go.Proofs.Tryz.f254.results.toList k) m 0 (finit a) h) : SW Go.Proofs.Tryz.prog G (.func 254) a h k := fnI_ok mixed envOk hc q254 Go.Proofs.Tryz.func254 rfl (by kernel_rfl) (by kernel_rfl) (by kernel_rfl) (by simp [u254]) hg
end Go.Den
