/-
  A part of the proof: the pieces are what the program An3.
-/
import Derived.Test.YtcnmehbkpaoolaaGreatDoorRunA1
import Derived.KernelRfl
namespace Go.Den
open Go.Proofs
set_option maxRecDepth 100000
variable {c : CF} {k : KV} {f : FT} {h : H}
theorem w30 (hc : Bg c) {m : Nat} {a : List AV} (hg : Az env c q30 u30 d30 (Aw env Tryz.f30.results.toList k) m 0 (Ab a) h) : zqs 30 a h k := Ba mixed Br hc q30 Tryz.func30 rfl (by kernel_rfl) (by kernel_rfl) (by kernel_rfl) (by simp [u30]) hg
theorem w32 (hc : Bg c) {m : Nat} {a : List AV} (hg : Az env c q32 u32 d32 (Aw env Tryz.f32.results.toList k) m 0 (Ab a) h) : zqs 32 a h k := Ba mixed Br hc q32 Tryz.func32 rfl (by kernel_rfl) (by kernel_rfl) (by kernel_rfl) (by simp [u32]) hg
theorem w48 (hc : Bg c) {m : Nat} {a : List AV} (hg : Az env c q48 u48 d48 (Aw env Tryz.f48.results.toList k) m 0 (Ab a) h) : zqs 48 a h k := Ba mixed Br hc q48 Tryz.func48 rfl (by kernel_rfl) (by kernel_rfl) (by kernel_rfl) (by simp [u48]) hg
theorem Bbo (J : J49) (b_1 : Bool) : zqe c k q49 u49 (f49 J) d49 Tryz.f49 .root (Af f 1 (.bool b_1)) h = Ak0 c k J (f 0) b_1 h := by kernel_rfl
theorem Bbn (J : J49) (b_8 : Bool) : zqe c k q49 u49 (f49 J) d49 Tryz.f49 (.r (.r (.r (.r (.r (.r (.r (.r .root)))))))) (Af f 8 (.bool b_8)) h = Akz c k J (f 4) (f 6) b_8 h := by kernel_rfl
theorem Bbm (J : J49) (b_8 b_59 : Bool) : zqe c k q49 u49 (f49 J) d49 Tryz.f49 (.r (.l (.r (.r (.r (.r (.r (.r (.r .root))))))))) (Af (Af f 8 (.bool b_8)) 59 (.bool b_59)) h = Aky c k J (f 4) (f 6) (f 7) b_8 b_59 h := by kernel_rfl
theorem w49 (hc : Bg c) {n : Nat} {a : List AV} (hg : f49 (r49 c k n) 0 (Ab a) h) : zqs 49 a h k :=
 zqw hc q49 Tryz.func49 rfl (by kernel_rfl) (by kernel_rfl) k u49 (fun n => f49 (r49 c k n)) (fun L _ _ hl => match L, hl with
  | 0, hl => Cy hl fun _ hl => hl
  | 1, hl => Cy hl fun _ hl => hl
  | 2, hl => Cy hl fun _ hl => Cy hl fun _ hl => hl
  | _ + 3, hl => hl) (fun n => ⟨
  fun f h hl => by
    refine Cw 1 hl fun _ hl => ?_; exact Eq.mpr (Bbo ..) hl,
  fun f h hl => by
    refine Cw 8 hl fun _ hl => ?_; exact Eq.mpr (Bbn ..) hl,
  fun f h hl => by
    refine Cw 8 hl fun _ hl => ?_; refine Cw 59 hl fun _ hl => ?_; exact Eq.mpr (Bbm ..) hl,
  trivial⟩) rfl hg
theorem w52 (hc : Bg c) {m : Nat} {a : List AV} (hg : Az env c q52 u52 d52 (Aw env Tryz.f52.results.toList k) m 0 (Ab a) h) : zqs 52 a h k := Ba mixed Br hc q52 Tryz.func52 rfl (by kernel_rfl) (by kernel_rfl) (by kernel_rfl) (by simp [u52]) hg
theorem w54 (hc : Bg c) {m : Nat} {a : List AV} (hg : Az env c q54 u54 d54 (Aw env Tryz.f54.results.toList k) m 0 (Ab a) h) : zqs 54 a h k := Ba mixed Br hc q54 Tryz.func54 rfl (by kernel_rfl) (by kernel_rfl) (by kernel_rfl) (by simp [u54]) hg
theorem w56 (hc : Bg c) {m : Nat} {a : List AV} (hg : Az env c q56 u56 d56 (Aw env Tryz.f56.results.toList k) m 0 (Ab a) h) : zqs 56 a h k := Ba mixed Br hc q56 Tryz.func56 rfl (by kernel_rfl) (by kernel_rfl) (by kernel_rfl) (by simp [u56]) hg
theorem w58 (hc : Bg c) {m : Nat} {a : List AV} (hg : Az env c q58 u58 d58 (Aw env Tryz.f58.results.toList k) m 0 (Ab a) h) : zqs 58 a h k := Ba mixed Br hc q58 Tryz.func58 rfl (by kernel_rfl) (by kernel_rfl) (by kernel_rfl) (by simp [u58]) hg
theorem Bbi (J : J78) (n_0 : Int) : zqe c k q78 u78 (f78 J) d78 Tryz.f78 .root (Af f 0 (.int .u8 n_0)) h = Aku c k J n_0 h := by kernel_rfl
theorem w78 (hc : Bg c) {n : Nat} {a : List AV} (hg : f78 (r78 c k n) 0 (Ab a) h) : zqs 78 a h k :=
 zqw hc q78 Tryz.func78 rfl (by kernel_rfl) (by kernel_rfl) k u78 (fun n => f78 (r78 c k n)) (fun L _ _ hl => match L, hl with
  | 0, hl => Bj hl fun _ hl => hl
  | _ + 1, hl => hl) (fun n => ⟨
  fun f h hl => by
    refine Bi 0 hl fun _ hl => ?_; exact Eq.mpr (Bbi ..) hl,
  trivial⟩) rfl hg
theorem Bbh (J : J79) (n_1 : Int) : zqe c k q79 u79 (f79 J) d79 Tryz.f79 .root (Af f 1 (.int .i64 n_1)) h = Af3 c k J (f 0) n_1 h := by kernel_rfl
theorem Bbg (J : J79) (n_6 : Int) : zqe c k q79 u79 (f79 J) d79 Tryz.f79 (.l (.l (.r (.l (.r (.l (.r (.r .root)))))))) (Af f 6 (.int .i64 n_6)) h = Akt c k J (f 0) n_6 h := by kernel_rfl
theorem Bbf (J : J79) (n_7 : Int) : zqe c k q79 u79 (f79 J) d79 Tryz.f79 (.l (.r (.l (.r (.r (.r (.r .root))))))) (Af f 7 (.int .i64 n_7)) h = Aks c k J (f 0) n_7 h := by kernel_rfl
theorem w79 (hc : Bg c) {n : Nat} {a : List AV} (hg : f79 (r79 c k n) 0 (Ab a) h) : zqs 79 a h k :=
 zqw hc q79 Tryz.func79 rfl (by kernel_rfl) (by kernel_rfl) k u79 (fun n => f79 (r79 c k n)) (fun L _ _ hl => match L, hl with
  | 0, hl => Bj hl fun _ hl => hl
  | 1, hl => Bj hl fun _ hl => hl
  | 2, hl => Bj hl fun _ hl => hl
  | _ + 3, hl => hl) (fun n => ⟨
  fun f h hl => by
    refine Bi 1 hl fun _ hl => ?_; exact Eq.mpr (Bbh ..) hl,
  fun f h hl => by
    refine Bi 6 hl fun _ hl => ?_; exact Eq.mpr (Bbg ..) hl,
  fun f h hl => by
    refine Bi 7 hl fun _ hl => ?_; exact Eq.mpr (Bbf ..) hl,
  trivial⟩) rfl hg
theorem w83 (hc : Bg c) {m : Nat} {a : List AV} (hg : Az env c q83 u83 d83 (Aw env Tryz.f83.results.toList k) m 0 (Ab a) h) : zqs 83 a h k := Ba mixed Br hc q83 Tryz.func83 rfl (by kernel_rfl) (by kernel_rfl) (by kernel_rfl) (by simp [u83]) hg
theorem w85 (hc : Bg c) {m : Nat} {a : List AV} (hg : Az env c q85 u85 d85 (Aw env Tryz.f85.results.toList k) m 0 (Ab a) h) : zqs 85 a h k := Ba mixed Br hc q85 Tryz.func85 rfl (by kernel_rfl) (by kernel_rfl) (by kernel_rfl) (by simp [u85]) hg
theorem Ba9 (J : J87) (n_1 : Int) (b_2 : Bool) : zqe c k q87 u87 (f87 J) d87 Tryz.f87 .root (Af (Af f 1 (.int .i64 n_1)) 2 (.bool b_2)) h = Akm c k J (f 0) n_1 b_2 h := by kernel_rfl
theorem Ba8 (J : J87) (n_1 : Int) (b_2 : Bool) : zqe c k q87 u87 (f87 J) d87 Tryz.f87 (.l (.l (.r (.r .root)))) (Af (Af f 1 (.int .i64 n_1)) 2 (.bool b_2)) h = Af2 c k J (f 0) n_1 b_2 (f 6) (f 7) h := by kernel_rfl
theorem w87 (hc : Bg c) {n : Nat} {a : List AV} (hg : f87 (r87 c k n) 0 (Ab a) h) : zqs 87 a h k :=
 zqw hc q87 Tryz.func87 rfl (by kernel_rfl) (by kernel_rfl) k u87 (fun n => f87 (r87 c k n)) (fun L _ _ hl => match L, hl with
  | 0, hl => Bj hl fun _ hl => Cy hl fun _ hl => hl
  | 1, hl => Bj hl fun _ hl => Cy hl fun _ hl => hl
  | _ + 2, hl => hl) (fun n => ⟨
  fun f h hl => by
    refine Bi 1 hl fun _ hl => ?_; refine Cw 2 hl fun _ hl => ?_; exact Eq.mpr (Ba9 ..) hl,
  fun f h hl => by
    refine Bi 1 hl fun _ hl => ?_; refine Cw 2 hl fun _ hl => ?_; exact Eq.mpr (Ba8 ..) hl,
  trivial⟩) rfl hg
theorem w92 (hc : Bg c) {m : Nat} {a : List AV} (hg : Az env c q92 u92 d92 (Aw env Tryz.f92.results.toList k) m 0 (Ab a) h) : zqs 92 a h k := Ba mixed Br hc q92 Tryz.func92 rfl (by kernel_rfl) (by kernel_rfl) (by kernel_rfl) (by simp [u92]) hg
theorem w95 (hc : Bg c) {m : Nat} {a : List AV} (hg : Az env c q95 u95 d95 (Aw env Tryz.f95.results.toList k) m 0 (Ab a) h) : zqs 95 a h k := Ba mixed Br hc q95 Tryz.func95 rfl (by kernel_rfl) (by kernel_rfl) (by kernel_rfl) (by simp [u95]) hg
theorem w98 (hc : Bg c) {m : Nat} {a : List AV} (hg : Az env c q98 u98 d98 (Aw env Tryz.f98.results.toList k) m 0 (Ab a) h) : zqs 98 a h k := Ba mixed Br hc q98 Tryz.func98 rfl (by kernel_rfl) (by kernel_rfl) (by kernel_rfl) (by simp [u98]) hg
theorem Bfp (hc : Bg c) {m : Nat} {a : List AV} (hg : Az env c A2d A0m d100 (Aw env Tryz.f100.results.toList k) m 0 (Ab a) h) : zqs 100 a h k := Ba mixed Br hc A2d Tryz.func100 rfl (by kernel_rfl) (by kernel_rfl) (by kernel_rfl) (by simp [A0m]) hg
theorem Bfo (hc : Bg c) {m : Nat} {a : List AV} (hg : Az env c A2c A0l d101 (Aw env Tryz.f101.results.toList k) m 0 (Ab a) h) : zqs 101 a h k := Ba mixed Br hc A2c Tryz.func101 rfl (by kernel_rfl) (by kernel_rfl) (by kernel_rfl) (by simp [A0l]) hg
theorem Bfm (hc : Bg c) {m : Nat} {a : List AV} (hg : Az env c A2a A0j d103 (Aw env Tryz.f103.results.toList k) m 0 (Ab a) h) : zqs 103 a h k := Ba mixed Br hc A2a Tryz.func103 rfl (by kernel_rfl) (by kernel_rfl) (by kernel_rfl) (by simp [A0j]) hg
theorem Bfk (hc : Bg c) {m : Nat} {a : List AV} (hg : Az env c A18 A0h d105 (Aw env Tryz.f105.results.toList k) m 0 (Ab a) h) : zqs 105 a h k := Ba mixed Br hc A18 Tryz.func105 rfl (by kernel_rfl) (by kernel_rfl) (by kernel_rfl) (by simp [A0h]) hg
theorem A52 (J : Aum) (l_0 c_0 : Nat) (l_1 c_1 : Nat) : zqe c k A9x A8s (f112 J) d112 Tryz.f112 .root (Af (Af f 0 (.str l_0 c_0)) 1 (.str l_1 c_1)) h = Adt c k J l_0 c_0 l_1 c_1 h := by kernel_rfl
theorem A76 (hc : Bg c) {n : Nat} {a : List AV} (hg : f112 (Ap8 c k n) 0 (Ab a) h) : zqs 112 a h k :=
 zqw hc A9x Tryz.func112 rfl (by kernel_rfl) (by kernel_rfl) k A8s (fun n => f112 (Ap8 c k n)) (fun L _ _ hl => match L, hl with
  | 0, hl => Cq hl fun _ _ hl => Cq hl fun _ _ hl => hl
  | _ + 1, hl => hl) (fun n => ⟨
  fun f h hl => by
    refine Cp 0 hl fun _ _ hl => ?_; refine Cp 1 hl fun _ _ hl => ?_; exact Eq.mpr (A52 ..) hl,
  trivial⟩) rfl hg
theorem A5x (J : Auj) (l_0 c_0 : Nat) (l_1 c_1 : Nat) : zqe c k A9u A8p (f116 J) d116 Tryz.f116 .root (Af (Af f 0 (.str l_0 c_0)) 1 (.str l_1 c_1)) h = Adp c k J l_0 c_0 l_1 c_1 h := by kernel_rfl
theorem A72 (hc : Bg c) {n : Nat} {a : List AV} (hg : f116 (Ap5 c k n) 0 (Ab a) h) : zqs 116 a h k :=
 zqw hc A9u Tryz.func116 rfl (by kernel_rfl) (by kernel_rfl) k A8p (fun n => f116 (Ap5 c k n)) (fun L _ _ hl => match L, hl with
  | 0, hl => Cq hl fun _ _ hl => Cq hl fun _ _ hl => hl
  | _ + 1, hl => hl) (fun n => ⟨
  fun f h hl => by
    refine Cp 0 hl fun _ _ hl => ?_; refine Cp 1 hl fun _ _ hl => ?_; exact Eq.mpr (A5x ..) hl,
  trivial⟩) rfl hg
theorem A5w (J : Aui) (l_0 c_0 : Nat) (n_1 n_2 : Int) : zqe c k A9t A8o (f117 J) d117 Tryz.f117 .root (Af (Af (Af f 0 (.str l_0 c_0)) 1 (.int .i64 n_1)) 2 (.int .i64 n_2)) h = Ado c k J l_0 c_0 n_1 n_2 h := by kernel_rfl
theorem A71 (hc : Bg c) {n : Nat} {a : List AV} (hg : f117 (Ap4 c k n) 0 (Ab a) h) : zqs 117 a h k :=
 zqw hc A9t Tryz.func117 rfl (by kernel_rfl) (by kernel_rfl) k A8o (fun n => f117 (Ap4 c k n)) (fun L _ _ hl => match L, hl with
  | 0, hl => Cq hl fun _ _ hl => Bj hl fun _ hl => Bj hl fun _ hl => hl
  | _ + 1, hl => hl) (fun n => ⟨
  fun f h hl => by
    refine Cp 0 hl fun _ _ hl => ?_; refine Bi 1 hl fun _ hl => ?_; refine Bi 2 hl fun _ hl => ?_; exact Eq.mpr (A5w ..) hl,
  trivial⟩) rfl hg
theorem A5v (J : Afq) : zqe c k Avr Au1 (f127 J) d127 Tryz.f127 .root f h = Adn c k J (f 0) h := by kernel_rfl
theorem A5u (J : Afq) (n_4 : Int) : zqe c k Avr Au1 (f127 J) d127 Tryz.f127 (.l (.r (.l (.r (.r .root))))) (Af f 4 (.int .i64 n_4)) h = Xy c k J (f 0) (f 3) n_4 h := by kernel_rfl
theorem A5t (J : Afq) (n_4 : Int) : zqe c k Avr Au1 (f127 J) d127 Tryz.f127 (.r (.r (.l (.l (.r (.l (.r (.r .root)))))))) (Af f 4 (.int .i64 n_4)) h = Xx c k J (f 0) (f 3) n_4 h := by kernel_rfl
theorem A70 (hc : Bg c) {n : Nat} {a : List AV} (hg : f127 (Yh c k n) 0 (Ab a) h) : zqs 127 a h k :=
 zqw hc Avr Tryz.func127 rfl (by kernel_rfl) (by kernel_rfl) k Au1 (fun n => f127 (Yh c k n)) (fun L _ _ hl => match L, hl with
  | 0, hl => hl
  | 1, hl => Bj hl fun _ hl => hl
  | 2, hl => Bj hl fun _ hl => hl
  | _ + 3, hl => hl) (fun n => ⟨
  fun f h hl => Eq.mpr (A5v ..) hl,
  fun f h hl => by
    refine Bi 4 hl fun _ hl => ?_; exact Eq.mpr (A5u ..) hl,
  fun f h hl => by
    refine Bi 4 hl fun _ hl => ?_; exact Eq.mpr (A5t ..) hl,
  trivial⟩) rfl hg
theorem A5p (J : Auh) (n_1 : Int) : zqe c k A9s A8n (f129 J) d129 Tryz.f129 .root (Af f 1 (.int .i64 n_1)) h = Adj c k J (f 0) n_1 h := by kernel_rfl
theorem A7y (hc : Bg c) {n : Nat} {a : List AV} (hg : f129 (Ap3 c k n) 0 (Ab a) h) : zqs 129 a h k :=
 zqw hc A9s Tryz.func129 rfl (by kernel_rfl) (by kernel_rfl) k A8n (fun n => f129 (Ap3 c k n)) (fun L _ _ hl => match L, hl with
  | 0, hl => Bj hl fun _ hl => hl
  | _ + 1, hl => hl) (fun n => ⟨
  fun f h hl => by
    refine Bi 1 hl fun _ hl => ?_; exact Eq.mpr (A5p ..) hl,
  trivial⟩) rfl hg
theorem A5k (J : Auf) (n_0 : Int) : zqe c k A9q A8l (f132 J) d132 Tryz.f132 .root (Af f 0 (.int .u8 n_0)) h = Adf c k J n_0 h := by kernel_rfl
theorem A7v (hc : Bg c) {n : Nat} {a : List AV} (hg : f132 (Ap1 c k n) 0 (Ab a) h) : zqs 132 a h k :=
 zqw hc A9q Tryz.func132 rfl (by kernel_rfl) (by kernel_rfl) k A8l (fun n => f132 (Ap1 c k n)) (fun L _ _ hl => match L, hl with
  | 0, hl => Bj hl fun _ hl => hl
  | _ + 1, hl => hl) (fun n => ⟨
  fun f h hl => by
    refine Bi 0 hl fun _ hl => ?_; exact Eq.mpr (A5k ..) hl,
  trivial⟩) rfl hg
theorem A5j (J : Aue) (n_0 : Int) : zqe c k A9p A8k (f133 J) d133 Tryz.f133 .root (Af f 0 (.int .u8 n_0)) h = Ade c k J n_0 h := by kernel_rfl
theorem A7u (hc : Bg c) {n : Nat} {a : List AV} (hg : f133 (Ap0 c k n) 0 (Ab a) h) : zqs 133 a h k :=
 zqw hc A9p Tryz.func133 rfl (by kernel_rfl) (by kernel_rfl) k A8k (fun n => f133 (Ap0 c k n)) (fun L _ _ hl => match L, hl with
  | 0, hl => Bj hl fun _ hl => hl
  | _ + 1, hl => hl) (fun n => ⟨
  fun f h hl => by
    refine Bi 0 hl fun _ hl => ?_; exact Eq.mpr (A5j ..) hl,
  trivial⟩) rfl hg
theorem Bfi (hc : Bg c) {m : Nat} {a : List AV} (hg : Az env c A14 A0d d137 (Aw env Tryz.f137.results.toList k) m 0 (Ab a) h) : zqs 137 a h k := Ba mixed Br hc A14 Tryz.func137 rfl (by kernel_rfl) (by kernel_rfl) (by kernel_rfl) (by simp [A0d]) hg
theorem A5c (J : Auc) (b_1 : Bool) : zqe c k A9n A8i (f139 J) d139 Tryz.f139 .root (Af f 1 (.bool b_1)) h = Ac6 c k J (f 0) b_1 h := by kernel_rfl
theorem A7q (hc : Bg c) {n : Nat} {a : List AV} (hg : f139 (Apy c k n) 0 (Ab a) h) : zqs 139 a h k :=
 zqw hc A9n Tryz.func139 rfl (by kernel_rfl) (by kernel_rfl) k A8i (fun n => f139 (Apy c k n)) (fun L _ _ hl => match L, hl with
  | 0, hl => Cy hl fun _ hl => hl
  | _ + 1, hl => hl) (fun n => ⟨
  fun f h hl => by
    refine Cw 1 hl fun _ hl => ?_; exact Eq.mpr (A5c ..) hl,
  trivial⟩) rfl hg
theorem A5b (J : Aj9) : zqe c k A12 A0b (f140 J) d140 Tryz.f140 .root f h = Ac5 c k J (f 0) h := by kernel_rfl
theorem A5a (J : Aj9) (l_2 c_2 : Nat) (n_52 n_53 : Int) : zqe c k A12 A0b (f140 J) d140 Tryz.f140 (.l (.r (.l (.r (.r (.r .root)))))) (Af (Af (Af f 2 (.str l_2 c_2)) 52 (.int .i64 n_52)) 53 (.int .i64 n_53)) h = Ac4 c k J l_2 c_2 (f 51) n_52 n_53 h := by kernel_rfl
theorem A7p (hc : Bg c) {n : Nat} {a : List AV} (hg : f140 (Adv c k n) 0 (Ab a) h) : zqs 140 a h k :=
 zqw hc A12 Tryz.func140 rfl (by kernel_rfl) (by kernel_rfl) k A0b (fun n => f140 (Adv c k n)) (fun L _ _ hl => match L, hl with
  | 0, hl => hl
  | 1, hl => Cq hl fun _ _ hl => Bj hl fun _ hl => Bj hl fun _ hl => hl
  | _ + 2, hl => hl) (fun n => ⟨
  fun f h hl => Eq.mpr (A5b ..) hl,
  fun f h hl => by
    refine Cp 2 hl fun _ _ hl => ?_; refine Bi 52 hl fun _ hl => ?_; refine Bi 53 hl fun _ hl => ?_; exact Eq.mpr (A5a ..) hl,
  trivial⟩) rfl hg
theorem Bfg (hc : Bg c) {m : Nat} {a : List AV} (hg : Az env c A11 A0a d141 (Aw env Tryz.f141.results.toList k) m 0 (Ab a) h) : zqs 141 a h k := Ba mixed Br hc A11 Tryz.func141 rfl (by kernel_rfl) (by kernel_rfl) (by kernel_rfl) (by simp [A0a]) hg
theorem A49 (J : Afm) (l_1 c_1 : Nat) (b_4 : Bool) : zqe c k Avn Aux (f142 J) d142 Tryz.f142 .root (Af (Af f 1 (.str l_1 c_1)) 4 (.bool b_4)) h = Ac3 c k J (f 0) l_1 c_1 (f 2) (f 3) b_4 h := by kernel_rfl
theorem A48 (J : Afm) (l_1 c_1 : Nat) (b_11 b_103 : Bool) : zqe c k Avn Aux (f142 J) d142 Tryz.f142 (.r (.r (.r (.r (.r (.r (.r (.r (.r (.r (.r (.r (.r (.r (.r (.l (.r (.l (.r (.r (.r .root))))))))))))))))))))) (Af (Af (Af f 1 (.str l_1 c_1)) 11 (.bool b_11)) 103 (.bool b_103)) h = Ac2 c k J l_1 c_1 (f 7) (f 8) (f 10) b_11 b_103 h := by kernel_rfl
theorem A47 (J : Afm) (l_1 c_1 : Nat) (b_4 b_11 : Bool) (l_21 c_21 : Nat) (b_78 : Bool) : zqe c k Avn Aux (f142 J) d142 Tryz.f142 (.r (.r (.r (.r (.r (.r (.r (.r (.r (.r (.r (.r (.r (.l (.r (.l (.r (.r (.r .root))))))))))))))))))) (Af (Af (Af (Af (Af f 1 (.str l_1 c_1)) 4 (.bool b_4)) 11 (.bool b_11)) 21 (.str l_21 c_21)) 78 (.bool b_78)) h = Ac1 c k J (f 0) l_1 c_1 b_4 (f 7) (f 8) (f 10) b_11 (f 12) l_21 c_21 b_78 h := by kernel_rfl
theorem A7o (hc : Bg c) {n : Nat} {a : List AV} (hg : f142 (Yd c k n) 0 (Ab a) h) : zqs 142 a h k :=
 zqw hc Avn Tryz.func142 rfl (by kernel_rfl) (by kernel_rfl) k Aux (fun n => f142 (Yd c k n)) (fun L _ _ hl => match L, hl with
  | 0, hl => Cq hl fun _ _ hl => Cy hl fun _ hl => hl
  | 1, hl => Cq hl fun _ _ hl => Cy hl fun _ hl => Cy hl fun _ hl => hl
  | 2, hl => Cq hl fun _ _ hl => Cy hl fun _ hl => Cy hl fun _ hl => Cq hl fun _ _ hl => Cy hl fun _ hl => hl
  | _ + 3, hl => hl) (fun n => ⟨
  fun f h hl => by
    refine Cp 1 hl fun _ _ hl => ?_; refine Cw 4 hl fun _ hl => ?_; exact Eq.mpr (A49 ..) hl,
  fun f h hl => by
    refine Cp 1 hl fun _ _ hl => ?_; refine Cw 11 hl fun _ hl => ?_; refine Cw 103 hl fun _ hl => ?_; exact Eq.mpr (A48 ..) hl,
  fun f h hl => by
    refine Cp 1 hl fun _ _ hl => ?_; refine Cw 4 hl fun _ hl => ?_; refine Cw 11 hl fun _ hl => ?_; refine Cp 21 hl fun _ _ hl => ?_; refine Cw 78 hl fun _ hl => ?_; exact Eq.mpr (A47 ..) hl,
  trivial⟩) rfl hg
theorem Bfe (hc : Bg c) {m : Nat} {a : List AV} (hg : Az env c A1z Az8 d149 (Aw env Tryz.f149.results.toList k) m 0 (Ab a) h) : zqs 149 a h k := Ba mixed Br hc A1z Tryz.func149 rfl (by kernel_rfl) (by kernel_rfl) (by kernel_rfl) (by simp [Az8]) hg
theorem Bfc (hc : Bg c) {m : Nat} {a : List AV} (hg : Az env c A1x Az6 d155 (Aw env Tryz.f155.results.toList k) m 0 (Ab a) h) : zqs 155 a h k := Ba mixed Br hc A1x Tryz.func155 rfl (by kernel_rfl) (by kernel_rfl) (by kernel_rfl) (by simp [Az6]) hg
theorem Bfa (hc : Bg c) {m : Nat} {a : List AV} (hg : Az env c A1v Az4 d157 (Aw env Tryz.f157.results.toList k) m 0 (Ab a) h) : zqs 157 a h k := Ba mixed Br hc A1v Tryz.func157 rfl (by kernel_rfl) (by kernel_rfl) (by kernel_rfl) (by simp [Az4]) hg
theorem Be8 (hc : Bg c) {m : Nat} {a : List AV} (hg : Az env c A1t Az2 d159 (Aw env Tryz.f159.results.toList k) m 0 (Ab a) h) : zqs 159 a h k := Ba mixed Br hc A1t Tryz.func159 rfl (by kernel_rfl) (by kernel_rfl) (by kernel_rfl) (by simp [Az2]) hg
theorem A43 (J : Aua) (l_0 c_0 : Nat) (l_1 c_1 : Nat) : zqe c k A9l A8g (f172 J) d172 Tryz.f172 .root (Af (Af f 0 (.str l_0 c_0)) 1 (.str l_1 c_1)) h = Acx c k J l_0 c_0 l_1 c_1 h := by kernel_rfl
theorem A7l (hc : Bg c) {n : Nat} {a : List AV} (hg : f172 (Apw c k n) 0 (Ab a) h) : zqs 172 a h k :=
 zqw hc A9l Tryz.func172 rfl (by kernel_rfl) (by kernel_rfl) k A8g (fun n => f172 (Apw c k n)) (fun L _ _ hl => match L, hl with
  | 0, hl => Cq hl fun _ _ hl => Cq hl fun _ _ hl => hl
  | _ + 1, hl => hl) (fun n => ⟨
  fun f h hl => by
    refine Cp 0 hl fun _ _ hl => ?_; refine Cp 1 hl fun _ _ hl => ?_; exact Eq.mpr (A43 ..) hl,
  trivial⟩) rfl hg
theorem A42 (J : Ss) (l_0 c_0 : Nat) (n_1 n_2 : Int) : zqe c k Aiu Aih (f173 J) d173 Tryz.f173 .root (Af (Af (Af f 0 (.str l_0 c_0)) 1 (.int .i64 n_1)) 2 (.int .i64 n_2)) h = Acw c k J l_0 c_0 n_1 n_2 h := by kernel_rfl
theorem A41 (J : Ss) (n_1 : Int) (b_8 : Bool) (l_9 c_9 : Nat) (n_10 n_11 : Int) (b_12 : Bool) (n_13 n_100 n_101 : Int) : zqe c k Aiu Aih (f173 J) d173 Tryz.f173 (.l (.r (.l (.r (.r (.r (.r (.r (.r (.r (.r (.r (.r (.r .root)))))))))))))) (Af (Af (Af (Af (Af (Af (Af (Af (Af f 1 (.int .i64 n_1)) 8 (.bool b_8)) 9 (.str l_9 c_9)) 10 (.int .u64 n_10)) 11 (.int .u64 n_11)) 12 (.bool b_12)) 13 (.int .u64 n_13)) 100 (.int .i64 n_100)) 101 (.int .i64 n_101)) h = Acv c k J n_1 b_8 l_9 c_9 n_10 n_11 b_12 n_13 (f 99) n_100 n_101 h := by kernel_rfl
theorem A40 (J : Ss) (n_1 : Int) (b_8 : Bool) (l_9 c_9 : Nat) (n_10 n_11 : Int) (b_12 : Bool) (n_13 n_16 : Int) (n_100 n_101 : Int) : zqe c k Aiu Aih (f173 J) d173 Tryz.f173 (.r (.r (.r (.l (.l (.r (.r (.l (.l (.r (.l (.r (.r (.r (.r (.r (.r (.r (.r (.r (.r (.r .root)))))))))))))))))))))) (Af (Af (Af (Af (Af (Af (Af (Af (Af (Af f 1 (.int .i64 n_1)) 8 (.bool b_8)) 9 (.str l_9 c_9)) 10 (.int .u64 n_10)) 11 (.int .u64 n_11)) 12 (.bool b_12)) 13 (.int .u64 n_13)) 16 (.int .u8 n_16)) 100 (.int .i64 n_100)) 101 (.int .i64 n_101)) h = Acu c k J n_1 b_8 l_9 c_9 n_10 n_11 b_12 n_13 n_16 (f 99) n_100 n_101 h := by kernel_rfl
theorem A4z (J : Ss) (l_0 c_0 : Nat) (n_1 n_2 : Int) (b_8 : Bool) (l_9 c_9 : Nat) (n_10 : Int) : zqe c k Aiu Aih (f173 J) d173 Tryz.f173 (.r (.r (.r (.r (.r (.r (.r (.r .root)))))))) (Af (Af (Af (Af (Af (Af f 0 (.str l_0 c_0)) 1 (.int .i64 n_1)) 2 (.int .i64 n_2)) 8 (.bool b_8)) 9 (.str l_9 c_9)) 10 (.int .u64 n_10)) h = Acs c k J l_0 c_0 n_1 n_2 b_8 l_9 c_9 n_10 h := by kernel_rfl
theorem A4y (J : Ss) (l_0 c_0 : Nat) (n_1 n_2 : Int) (b_8 : Bool) (l_9 c_9 : Nat) : zqe c k Aiu Aih (f173 J) d173 Tryz.f173 (.r (.r (.r (.r (.r (.r .root)))))) (Af (Af (Af (Af (Af f 0 (.str l_0 c_0)) 1 (.int .i64 n_1)) 2 (.int .i64 n_2)) 8 (.bool b_8)) 9 (.str l_9 c_9)) h = Acr c k J l_0 c_0 n_1 n_2 b_8 l_9 c_9 h := by kernel_rfl
theorem A4x (J : Ss) (l_0 c_0 : Nat) (n_1 n_2 : Int) (b_8 : Bool) (l_9 c_9 : Nat) : zqe c k Aiu Aih (f173 J) d173 Tryz.f173 (.r (.r (.r (.r (.r .root))))) (Af (Af (Af (Af (Af f 0 (.str l_0 c_0)) 1 (.int .i64 n_1)) 2 (.int .i64 n_2)) 8 (.bool b_8)) 9 (.str l_9 c_9)) h = Acq c k J l_0 c_0 n_1 n_2 b_8 l_9 c_9 h := by kernel_rfl
theorem A7k (hc : Bg c) {n : Nat} {a : List AV} (hg : f173 (Om c k n) 0 (Ab a) h) : zqs 173 a h k :=
 zqw hc Aiu Tryz.func173 rfl (by kernel_rfl) (by kernel_rfl) k Aih (fun n => f173 (Om c k n)) (fun L _ _ hl => match L, hl with
  | 0, hl => Cq hl fun _ _ hl => Bj hl fun _ hl => Bj hl fun _ hl => hl
  | 1, hl => Bj hl fun _ hl => Cy hl fun _ hl => Cq hl fun _ _ hl => Bj hl fun _ hl => Bj hl fun _ hl => Cy hl fun _ hl => Bj hl fun _ hl => Bj hl fun _ hl => Bj hl fun _ hl => hl
  | 2, hl => Bj hl fun _ hl => Cy hl fun _ hl => Cq hl fun _ _ hl => Bj hl fun _ hl => Bj hl fun _ hl => Cy hl fun _ hl => Bj hl fun _ hl => Bj hl fun _ hl => Bj hl fun _ hl => Bj hl fun _ hl => hl
  | 3, hl => Cq hl fun _ _ hl => Bj hl fun _ hl => Bj hl fun _ hl => Cy hl fun _ hl => Cq hl fun _ _ hl => Bj hl fun _ hl => hl
  | 4, hl => Cq hl fun _ _ hl => Bj hl fun _ hl => Bj hl fun _ hl => Cy hl fun _ hl => Cq hl fun _ _ hl => hl
  | 5, hl => Cq hl fun _ _ hl => Bj hl fun _ hl => Bj hl fun _ hl => Cy hl fun _ hl => Cq hl fun _ _ hl => hl
  | _ + 6, hl => hl) (fun n => ⟨
  fun f h hl => by
    refine Cp 0 hl fun _ _ hl => ?_; refine Bi 1 hl fun _ hl => ?_; refine Bi 2 hl fun _ hl => ?_; exact Eq.mpr (A42 ..) hl,
  fun f h hl => by
    refine Bi 1 hl fun _ hl => ?_; refine Cw 8 hl fun _ hl => ?_; refine Cp 9 hl fun _ _ hl => ?_; refine Bi 10 hl fun _ hl => ?_; refine Bi 11 hl fun _ hl => ?_; refine Cw 12 hl fun _ hl => ?_; refine Bi 13 hl fun _ hl => ?_; refine Bi 100 hl fun _ hl => ?_; refine Bi 101 hl fun _ hl => ?_; exact Eq.mpr (A41 ..) hl,
  fun f h hl => by
    refine Bi 1 hl fun _ hl => ?_; refine Cw 8 hl fun _ hl => ?_; refine Cp 9 hl fun _ _ hl => ?_; refine Bi 10 hl fun _ hl => ?_; refine Bi 11 hl fun _ hl => ?_; refine Cw 12 hl fun _ hl => ?_; refine Bi 13 hl fun _ hl => ?_; refine Bi 16 hl fun _ hl => ?_; refine Bi 100 hl fun _ hl => ?_; refine Bi 101 hl fun _ hl => ?_; exact Eq.mpr (A40 ..) hl,
  fun f h hl => by
    refine Cp 0 hl fun _ _ hl => ?_; refine Bi 1 hl fun _ hl => ?_; refine Bi 2 hl fun _ hl => ?_; refine Cw 8 hl fun _ hl => ?_; refine Cp 9 hl fun _ _ hl => ?_; refine Bi 10 hl fun _ hl => ?_; exact Eq.mpr (A4z ..) hl,
  fun f h hl => by
    refine Cp 0 hl fun _ _ hl => ?_; refine Bi 1 hl fun _ hl => ?_; refine Bi 2 hl fun _ hl => ?_; refine Cw 8 hl fun _ hl => ?_; refine Cp 9 hl fun _ _ hl => ?_; exact Eq.mpr (A4y ..) hl,
  fun f h hl => by
    refine Cp 0 hl fun _ _ hl => ?_; refine Bi 1 hl fun _ hl => ?_; refine Bi 2 hl fun _ hl => ?_; refine Cw 8 hl fun _ hl => ?_; refine Cp 9 hl fun _ _ hl => ?_; exact Eq.mpr (A4x ..) hl,
  trivial⟩) rfl hg
theorem A4w (J : Aj7) (n_0 : Int) : zqe c k A1q Azz (f181 J) d181 Tryz.f181 .root (Af f 0 (.int .u8 n_0)) h = Acp c k J n_0 h := by kernel_rfl
theorem A4v (J : Aj7) (n_0 n_4 : Int) : zqe c k A1q Azz (f181 J) d181 Tryz.f181 (.l (.r (.l (.r .root)))) (Af (Af f 0 (.int .u8 n_0)) 4 (.int .i64 n_4)) h = Aco c k J n_0 n_4 h := by kernel_rfl
theorem A7j (hc : Bg c) {n : Nat} {a : List AV} (hg : f181 (Agd c k n) 0 (Ab a) h) : zqs 181 a h k :=
 zqw hc A1q Tryz.func181 rfl (by kernel_rfl) (by kernel_rfl) k Azz (fun n => f181 (Agd c k n)) (fun L _ _ hl => match L, hl with
  | 0, hl => Bj hl fun _ hl => hl
  | 1, hl => Bj hl fun _ hl => Bj hl fun _ hl => hl
  | _ + 2, hl => hl) (fun n => ⟨
  fun f h hl => by
    refine Bi 0 hl fun _ hl => ?_; exact Eq.mpr (A4w ..) hl,
  fun f h hl => by
    refine Bi 0 hl fun _ hl => ?_; refine Bi 4 hl fun _ hl => ?_; exact Eq.mpr (A4v ..) hl,
  trivial⟩) rfl hg
theorem Be6 (hc : Bg c) {m : Nat} {a : List AV} (hg : Az env c A1p Azy d183 (Aw env Tryz.f183.results.toList k) m 0 (Ab a) h) : zqs 183 a h k := Ba mixed Br hc A1p Tryz.func183 rfl (by kernel_rfl) (by kernel_rfl) (by kernel_rfl) (by simp [Azy]) hg
theorem A4t (J : Aj6) : zqe c k A1o Azx (f184 J) d184 Tryz.f184 .root f h = Acm c k J (f 0) h := by kernel_rfl
theorem A4s (J : Aj6) (b_3 : Bool) : zqe c k A1o Azx (f184 J) d184 Tryz.f184 (.r (.r (.r .root))) (Af f 3 (.bool b_3)) h = Acl c k J (f 0) (f 2) b_3 h := by kernel_rfl
theorem A7h (hc : Bg c) {n : Nat} {a : List AV} (hg : f184 (Adu c k n) 0 (Ab a) h) : zqs 184 a h k :=
 zqw hc A1o Tryz.func184 rfl (by kernel_rfl) (by kernel_rfl) k Azx (fun n => f184 (Adu c k n)) (fun L _ _ hl => match L, hl with
  | 0, hl => hl
  | 1, hl => Cy hl fun _ hl => hl
  | _ + 2, hl => hl) (fun n => ⟨
  fun f h hl => Eq.mpr (A4t ..) hl,
  fun f h hl => by
    refine Cw 3 hl fun _ hl => ?_; exact Eq.mpr (A4s ..) hl,
  trivial⟩) rfl hg
theorem A4r (J : At8) (l_1 c_1 : Nat) : zqe c k A9j A8e (f185 J) d185 Tryz.f185 .root (Af f 1 (.str l_1 c_1)) h = Ack c k J (f 0) l_1 c_1 h := by kernel_rfl
theorem A7g (hc : Bg c) {n : Nat} {a : List AV} (hg : f185 (Apu c k n) 0 (Ab a) h) : zqs 185 a h k :=
 zqw hc A9j Tryz.func185 rfl (by kernel_rfl) (by kernel_rfl) k A8e (fun n => f185 (Apu c k n)) (fun L _ _ hl => match L, hl with
  | 0, hl => Cq hl fun _ _ hl => hl
  | _ + 1, hl => hl) (fun n => ⟨
  fun f h hl => by
    refine Cp 1 hl fun _ _ hl => ?_; exact Eq.mpr (A4r ..) hl,
  trivial⟩) rfl hg
theorem A4p (J : At6) (l_0 c_0 : Nat) (n_2 : Int) : zqe c k A9h A8c (f187 J) d187 Tryz.f187 .root (Af (Af f 0 (.str l_0 c_0)) 2 (.int .u64 n_2)) h = Aci c k J l_0 c_0 (f 1) n_2 h := by kernel_rfl
theorem A7e (hc : Bg c) {n : Nat} {a : List AV} (hg : f187 (Aps c k n) 0 (Ab a) h) : zqs 187 a h k :=
 zqw hc A9h Tryz.func187 rfl (by kernel_rfl) (by kernel_rfl) k A8c (fun n => f187 (Aps c k n)) (fun L _ _ hl => match L, hl with
  | 0, hl => Cq hl fun _ _ hl => Bj hl fun _ hl => hl
  | _ + 1, hl => hl) (fun n => ⟨
  fun f h hl => by
    refine Cp 0 hl fun _ _ hl => ?_; refine Bi 2 hl fun _ hl => ?_; exact Eq.mpr (A4p ..) hl,
  trivial⟩) rfl hg
theorem A4o (J : Aj5) (l_0 c_0 : Nat) (n_1 n_2 : Int) (b_3 : Bool) : zqe c k A1n Azw (f188 J) d188 Tryz.f188 .root (Af (Af (Af (Af f 0 (.str l_0 c_0)) 1 (.int .u64 n_1)) 2 (.int .u64 n_2)) 3 (.bool b_3)) h = Ach c k J l_0 c_0 n_1 n_2 b_3 h := by kernel_rfl
theorem A4n (J : Aj5) (l_0 c_0 : Nat) (n_1 n_2 : Int) (b_9 : Bool) : zqe c k A1n Azw (f188 J) d188 Tryz.f188 (.r (.r (.r .root))) (Af (Af (Af (Af f 0 (.str l_0 c_0)) 1 (.int .u64 n_1)) 2 (.int .u64 n_2)) 9 (.bool b_9)) h = Acg c k J l_0 c_0 n_1 n_2 b_9 h := by kernel_rfl
theorem A7d (hc : Bg c) {n : Nat} {a : List AV} (hg : f188 (Agc c k n) 0 (Ab a) h) : zqs 188 a h k :=
 zqw hc A1n Tryz.func188 rfl (by kernel_rfl) (by kernel_rfl) k Azw (fun n => f188 (Agc c k n)) (fun L _ _ hl => match L, hl with
  | 0, hl => Cq hl fun _ _ hl => Bj hl fun _ hl => Bj hl fun _ hl => Cy hl fun _ hl => hl
  | 1, hl => Cq hl fun _ _ hl => Bj hl fun _ hl => Bj hl fun _ hl => Cy hl fun _ hl => hl
  | _ + 2, hl => hl) (fun n => ⟨
  fun f h hl => by
    refine Cp 0 hl fun _ _ hl => ?_; refine Bi 1 hl fun _ hl => ?_; refine Bi 2 hl fun _ hl => ?_; refine Cw 3 hl fun _ hl => ?_; exact Eq.mpr (A4o ..) hl,
  fun f h hl => by
    refine Cp 0 hl fun _ _ hl => ?_; refine Bi 1 hl fun _ hl => ?_; refine Bi 2 hl fun _ hl => ?_; refine Cw 9 hl fun _ hl => ?_; exact Eq.mpr (A4n ..) hl,
  trivial⟩) rfl hg
theorem Be4 (hc : Bg c) {m : Nat} {a : List AV} (hg : Az env c A1l Azu d191 (Aw env Tryz.f191.results.toList k) m 0 (Ab a) h) : zqs 191 a h k := Ba mixed Br hc A1l Tryz.func191 rfl (by kernel_rfl) (by kernel_rfl) (by kernel_rfl) (by simp [Azu]) hg
theorem Be2 (hc : Bg c) {m : Nat} {a : List AV} (hg : Az env c A1j Azs d194 (Aw env Tryz.f194.results.toList k) m 0 (Ab a) h) : zqs 194 a h k := Ba mixed Br hc A1j Tryz.func194 rfl (by kernel_rfl) (by kernel_rfl) (by kernel_rfl) (by simp [Azs]) hg
theorem Be0 (hc : Bg c) {m : Nat} {a : List AV} (hg : Az env c A1h Azq d196 (Aw env Tryz.f196.results.toList k) m 0 (Ab a) h) : zqs 196 a h k := Ba mixed Br hc A1h Tryz.func196 rfl (by kernel_rfl) (by kernel_rfl) (by kernel_rfl) (by simp [Azq]) hg
theorem Bey (hc : Bg c) {m : Nat} {a : List AV} (hg : Az env c A1f Azo d206 (Aw env Tryz.f206.results.toList k) m 0 (Ab a) h) : zqs 206 a h k := Ba mixed Br hc A1f Tryz.func206 rfl (by kernel_rfl) (by kernel_rfl) (by kernel_rfl) (by simp [Azo]) hg
theorem A4m (J : At5) (n_1 : Int) : zqe c k A9g A8b (f215 J) d215 Tryz.f215 .root (Af f 1 (.int .u8 n_1)) h = Acf c k J (f 0) n_1 h := by kernel_rfl
theorem A7c (hc : Bg c) {n : Nat} {a : List AV} (hg : f215 (Apr c k n) 0 (Ab a) h) : zqs 215 a h k :=
 zqw hc A9g Tryz.func215 rfl (by kernel_rfl) (by kernel_rfl) k A8b (fun n => f215 (Apr c k n)) (fun L _ _ hl => match L, hl with
  | 0, hl => Bj hl fun _ hl => hl
  | _ + 1, hl => hl) (fun n => ⟨
  fun f h hl => by
    refine Bi 1 hl fun _ hl => ?_; exact Eq.mpr (A4m ..) hl,
  trivial⟩) rfl hg
theorem A4l (J : Aj4) (l_0 c_0 : Nat) : zqe c k A1e Azn (f219 J) d219 Tryz.f219 .root (Af f 0 (.str l_0 c_0)) h = Ace c k J l_0 c_0 (f 1) h := by kernel_rfl
theorem A4k (J : Aj4) (l_0 c_0 : Nat) : zqe c k A1e Azn (f219 J) d219 Tryz.f219 (.l (.l (.r .root))) (Af f 0 (.str l_0 c_0)) h = Xv c k J l_0 c_0 (f 1) h := by kernel_rfl
theorem A7b (hc : Bg c) {n : Nat} {a : List AV} (hg : f219 (Agb c k n) 0 (Ab a) h) : zqs 219 a h k :=
 zqw hc A1e Tryz.func219 rfl (by kernel_rfl) (by kernel_rfl) k Azn (fun n => f219 (Agb c k n)) (fun L _ _ hl => match L, hl with
  | 0, hl => Cq hl fun _ _ hl => hl
  | 1, hl => Cq hl fun _ _ hl => hl
  | _ + 2, hl => hl) (fun n => ⟨
  fun f h hl => by
    refine Cp 0 hl fun _ _ hl => ?_; exact Eq.mpr (A4l ..) hl,
  fun f h hl => by
    refine Cp 0 hl fun _ _ hl => ?_; exact Eq.mpr (A4k ..) hl,
  trivial⟩) rfl hg
theorem Bew (hc : Bg c) {m : Nat} {a : List AV} (hg : Az env c A1b Azk d235 (Aw env Tryz.f235.results.toList k) m 0 (Ab a) h) : zqs 235 a h k := Ba mixed Br hc A1b Tryz.func235 rfl (by kernel_rfl) (by kernel_rfl) (by kernel_rfl) (by simp [Azk]) hg
theorem Beu (hc : Bg c) {m : Nat} {a : List AV} (hg : Az env c A09 Azi d248 (Aw env Tryz.f248.results.toList k) m 0 (Ab a) h) : zqs 248 a h k := Ba mixed Br hc A09 Tryz.func248 rfl (by kernel_rfl) (by kernel_rfl) (by kernel_rfl) (by simp [Azi]) hg
theorem Bes (hc : Bg c) {m : Nat} {a : List AV} (hg : Az env c A07 Azg d250 (Aw env Tryz.f250.results.toList k) m 0 (Ab a) h) : zqs 250 a h k := Ba mixed Br hc A07 Tryz.func250 rfl (by kernel_rfl) (by kernel_rfl) (by kernel_rfl) (by simp [Azg]) hg
theorem A4f (J : At2) (l_0 c_0 : Nat) : zqe c k A9d A78 (f265 J) d265 Tryz.f265 .root (Af f 0 (.str l_0 c_0)) h = Ab8 c k J l_0 c_0 h := by kernel_rfl
theorem A67 (hc : Bg c) {n : Nat} {a : List AV} (hg : f265 (Apn c k n) 0 (Ab a) h) : zqs 265 a h k :=
 zqw hc A9d Tryz.func265 rfl (by kernel_rfl) (by kernel_rfl) k A78 (fun n => f265 (Apn c k n)) (fun L _ _ hl => match L, hl with
  | 0, hl => Cq hl fun _ _ hl => hl
  | _ + 1, hl => hl) (fun n => ⟨
  fun f h hl => by
    refine Cp 0 hl fun _ _ hl => ?_; exact Eq.mpr (A4f ..) hl,
  trivial⟩) rfl hg
theorem Beq (hc : Bg c) {m : Nat} {a : List AV} (hg : Az env c A05 Aze d276 (Aw env Tryz.f276.results.toList k) m 0 (Ab a) h) : zqs 276 a h k := Ba mixed Br hc A05 Tryz.func276 rfl (by kernel_rfl) (by kernel_rfl) (by kernel_rfl) (by simp [Aze]) hg
theorem Beo (hc : Bg c) {m : Nat} {a : List AV} (hg : Az env c A03 Azc d286 (Aw env Tryz.f286.results.toList k) m 0 (Ab a) h) : zqs 286 a h k := Ba mixed Br hc A03 Tryz.func286 rfl (by kernel_rfl) (by kernel_rfl) (by kernel_rfl) (by simp [Azc]) hg
theorem Bem (hc : Bg c) {m : Nat} {a : List AV} (hg : Az env c A01 Aza d302 (Aw env Tryz.f302.results.toList k) m 0 (Ab a) h) : zqs 302 a h k := Ba mixed Br hc A01 Tryz.func302 rfl (by kernel_rfl) (by kernel_rfl) (by kernel_rfl) (by simp [Aza]) hg
theorem Bek (hc : Bg c) {m : Nat} {a : List AV} (hg : Az env c A0z Ay8 d307 (Aw env Tryz.f307.results.toList k) m 0 (Ab a) h) : zqs 307 a h k := Ba mixed Br hc A0z Tryz.func307 rfl (by kernel_rfl) (by kernel_rfl) (by kernel_rfl) (by simp [Ay8]) hg
end Go.Den
