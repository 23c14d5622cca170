/-
  A part of the proof: the pieces are what the program Ap8.
-/
import Derived.Test.YtcnmehbkpaoolaaGreatDoorRunA1
import Derived.KernelRfl
namespace Go.Den
open Go.Proofs
set_option maxRecDepth 100000
variable {c : CF} {k : KV} {f : FT} {h : H}
theorem Bfi (J : J20) (l_0 c_0 : Nat) : zqe c k q20 u20 (f20 J) d20 Tryz.f20 .root (Ag f 0 (.str l_0 c_0)) h = Ang c k J l_0 c_0 h := by kernel_rfl
theorem w20 (hc : zqco c) {n : Nat} {a : List AV} (hg : f20 (r20 c k n) 0 (Ac a) h) : zqs 20 a h k :=
 zqw hc q20 Tryz.func20 rfl (by kernel_rfl) (by kernel_rfl) k u20 (fun n => f20 (r20 c k n)) (fun L _ _ hl => match L, hl with
  | 0, hl => zqnS hl fun _ _ hl => hl
  | _ + 1, hl => hl) (fun n => ⟨
  fun f h hl => by
    refine zqrS 0 hl fun _ _ hl => ?_; exact Eq.mpr (Bfi ..) hl,
  trivial⟩) rfl hg
theorem Be9 (J : J35) : zqe c k q35 u35 (f35 J) d35 Tryz.f35 .root f h = Am6 c k J (f 0) (f 1) h := by kernel_rfl
theorem w35 (hc : zqco c) {n : Nat} {a : List AV} (hg : f35 (r35 c k n) 0 (Ac a) h) : zqs 35 a h k :=
 zqw hc q35 Tryz.func35 rfl (by kernel_rfl) (by kernel_rfl) k u35 (fun n => f35 (r35 c k n)) (fun L _ _ hl => match L, hl with
  | 0, hl => hl
  | _ + 1, hl => hl) (fun n => ⟨
  fun f h hl => Eq.mpr (Be9 ..) hl,
  trivial⟩) rfl hg
theorem Be7 (J : J43) (l_1 c_1 : Nat) : zqe c k q43 u43 (f43 J) d43 Tryz.f43 .root (Ag f 1 (.str l_1 c_1)) h = Ahk c k J (f 0) l_1 c_1 h := by kernel_rfl
theorem w43 (hc : zqco c) {n : Nat} {a : List AV} (hg : f43 (r43 c k n) 0 (Ac a) h) : zqs 43 a h k :=
 zqw hc q43 Tryz.func43 rfl (by kernel_rfl) (by kernel_rfl) k u43 (fun n => f43 (r43 c k n)) (fun L _ _ hl => match L, hl with
  | 0, hl => zqnS hl fun _ _ hl => hl
  | _ + 1, hl => hl) (fun n => ⟨
  fun f h hl => by
    refine zqrS 1 hl fun _ _ hl => ?_; exact Eq.mpr (Be7 ..) hl,
  trivial⟩) rfl hg
theorem Be0 (J : J59) (l_0 c_0 : Nat) : zqe c k q59 u59 (f59 J) d59 Tryz.f59 .root (Ag f 0 (.str l_0 c_0)) h = Am0 c k J l_0 c_0 h := by kernel_rfl
theorem Bez (J : J59) (l_0 c_0 : Nat) (l_5 c_5 : Nat) : zqe c k q59 u59 (f59 J) d59 Tryz.f59 (.lab (.r .root) 1) (Ag (Ag f 0 (.str l_0 c_0)) 5 (.str l_5 c_5)) h = Ahj c k J l_0 c_0 (f 4) l_5 c_5 h := by kernel_rfl
theorem Bey (J : J59) : zqe c k q59 u59 (f59 J) d59 Tryz.f59 (.lab (.r .root) 0) f h = Ahi c k J  h := by kernel_rfl
theorem Bex (J : J59) (l_0 c_0 : Nat) (l_5 c_5 : Nat) (n_8 n_9 : Int) : zqe c k q59 u59 (f59 J) d59 Tryz.f59 (.r (.l (.r (.r (.r (.r (.r (.r (.r (.l (.r .root))))))))))) (Ag (Ag (Ag (Ag f 0 (.str l_0 c_0)) 5 (.str l_5 c_5)) 8 (.int .u8 n_8)) 9 (.int .i64 n_9)) h = Amz c k J l_0 c_0 (f 4) l_5 c_5 n_8 n_9 h := by kernel_rfl
theorem w59 (hc : zqco c) {n : Nat} {a : List AV} (hg : f59 (r59 c k n) 0 (Ac a) h) : zqs 59 a h k :=
 zqw hc q59 Tryz.func59 rfl (by kernel_rfl) (by kernel_rfl) k u59 (fun n => f59 (r59 c k n)) (fun L _ _ hl => match L, hl with
  | 0, hl => zqnS hl fun _ _ hl => hl
  | 1, hl => zqnS hl fun _ _ hl => zqnS hl fun _ _ hl => hl
  | 2, hl => hl
  | 3, hl => zqnS hl fun _ _ hl => zqnS hl fun _ _ hl => zqnI hl fun _ hl => zqnI hl fun _ hl => hl
  | _ + 4, hl => hl) (fun n => ⟨
  fun f h hl => by
    refine zqrS 0 hl fun _ _ hl => ?_; exact Eq.mpr (Be0 ..) hl,
  fun f h hl => by
    refine zqrS 0 hl fun _ _ hl => ?_; refine zqrS 5 hl fun _ _ hl => ?_; exact Eq.mpr (Bez ..) hl,
  fun f h hl => Eq.mpr (Bey ..) hl,
  fun f h hl => by
    refine zqrS 0 hl fun _ _ hl => ?_; refine zqrS 5 hl fun _ _ hl => ?_; refine zqrI 8 hl fun _ hl => ?_; refine zqrI 9 hl fun _ hl => ?_; exact Eq.mpr (Bex ..) hl,
  trivial⟩) rfl hg
theorem Bew (J : J60) (l_0 c_0 : Nat) : zqe c k q60 u60 (f60 J) d60 Tryz.f60 .root (Ag f 0 (.str l_0 c_0)) h = Amy c k J l_0 c_0 h := by kernel_rfl
theorem Bev (J : J60) (l_0 c_0 : Nat) (n_9 n_10 : Int) : zqe c k q60 u60 (f60 J) d60 Tryz.f60 (.l (.r (.l (.r .root)))) (Ag (Ag (Ag f 0 (.str l_0 c_0)) 9 (.int .i64 n_9)) 10 (.int .i64 n_10)) h = Amx c k J l_0 c_0 (f 8) n_9 n_10 h := by kernel_rfl
theorem w60 (hc : zqco c) {n : Nat} {a : List AV} (hg : f60 (r60 c k n) 0 (Ac a) h) : zqs 60 a h k :=
 zqw hc q60 Tryz.func60 rfl (by kernel_rfl) (by kernel_rfl) k u60 (fun n => f60 (r60 c k n)) (fun L _ _ hl => match L, hl with
  | 0, hl => zqnS hl fun _ _ hl => hl
  | 1, hl => zqnS hl fun _ _ hl => zqnI hl fun _ hl => zqnI hl fun _ hl => hl
  | _ + 2, hl => hl) (fun n => ⟨
  fun f h hl => by
    refine zqrS 0 hl fun _ _ hl => ?_; exact Eq.mpr (Bew ..) hl,
  fun f h hl => by
    refine zqrS 0 hl fun _ _ hl => ?_; refine zqrI 9 hl fun _ hl => ?_; refine zqrI 10 hl fun _ hl => ?_; exact Eq.mpr (Bev ..) hl,
  trivial⟩) rfl hg
theorem Beu (J : J61) (l_1 c_1 : Nat) : zqe c k q61 u61 (f61 J) d61 Tryz.f61 .root (Ag f 1 (.str l_1 c_1)) h = Ahh c k J (f 0) l_1 c_1 h := by kernel_rfl
theorem w61 (hc : zqco c) {n : Nat} {a : List AV} (hg : f61 (r61 c k n) 0 (Ac a) h) : zqs 61 a h k :=
 zqw hc q61 Tryz.func61 rfl (by kernel_rfl) (by kernel_rfl) k u61 (fun n => f61 (r61 c k n)) (fun L _ _ hl => match L, hl with
  | 0, hl => zqnS hl fun _ _ hl => hl
  | _ + 1, hl => hl) (fun n => ⟨
  fun f h hl => by
    refine zqrS 1 hl fun _ _ hl => ?_; exact Eq.mpr (Beu ..) hl,
  trivial⟩) rfl hg
theorem Ber (J : J64) (l_0 c_0 : Nat) : zqe c k q64 u64 (f64 J) d64 Tryz.f64 .root (Ag f 0 (.str l_0 c_0)) h = Amv c k J l_0 c_0 h := by kernel_rfl
theorem Beq (J : J64) (l_4 c_4 : Nat) (b_5 b_6 : Bool) (n_7 : Int) (l_8 c_8 : Nat) : zqe c k q64 u64 (f64 J) d64 Tryz.f64 (.r (.r (.r (.r (.r .root))))) (Ag (Ag (Ag (Ag (Ag f 4 (.str l_4 c_4)) 5 (.bool b_5)) 6 (.bool b_6)) 7 (.int .i64 n_7)) 8 (.str l_8 c_8)) h = Amu c k J (f 2) l_4 c_4 b_5 b_6 n_7 l_8 c_8 h := by kernel_rfl
theorem w64 (hc : zqco c) {n : Nat} {a : List AV} (hg : f64 (r64 c k n) 0 (Ac a) h) : zqs 64 a h k :=
 zqw hc q64 Tryz.func64 rfl (by kernel_rfl) (by kernel_rfl) k u64 (fun n => f64 (r64 c k n)) (fun L _ _ hl => match L, hl with
  | 0, hl => zqnS hl fun _ _ hl => hl
  | 1, hl => zqnS hl fun _ _ hl => zqnB hl fun _ hl => zqnB hl fun _ hl => zqnI hl fun _ hl => zqnS hl fun _ _ hl => hl
  | _ + 2, hl => hl) (fun n => ⟨
  fun f h hl => by
    refine zqrS 0 hl fun _ _ hl => ?_; exact Eq.mpr (Ber ..) hl,
  fun f h hl => by
    refine zqrS 4 hl fun _ _ hl => ?_; refine zqrB 5 hl fun _ hl => ?_; refine zqrB 6 hl fun _ hl => ?_; refine zqrI 7 hl fun _ hl => ?_; refine zqrS 8 hl fun _ _ hl => ?_; exact Eq.mpr (Beq ..) hl,
  trivial⟩) rfl hg
theorem Bep (J : J65) (l_0 c_0 : Nat) : zqe c k q65 u65 (f65 J) d65 Tryz.f65 .root (Ag f 0 (.str l_0 c_0)) h = Amt c k J l_0 c_0 h := by kernel_rfl
theorem Beo (J : J65) (l_3 c_3 : Nat) (l_4 c_4 : Nat) (l_5 c_5 : Nat) (n_6 : Int) (b_7 : Bool) : zqe c k q65 u65 (f65 J) d65 Tryz.f65 (.r (.r (.r (.r (.r (.r (.r .root))))))) (Ag (Ag (Ag (Ag (Ag f 3 (.str l_3 c_3)) 4 (.str l_4 c_4)) 5 (.str l_5 c_5)) 6 (.int .i64 n_6)) 7 (.bool b_7)) h = Ams c k J l_3 c_3 l_4 c_4 l_5 c_5 n_6 b_7 h := by kernel_rfl
theorem Ben (J : J65) (l_3 c_3 : Nat) (l_4 c_4 : Nat) (l_5 c_5 : Nat) : zqe c k q65 u65 (f65 J) d65 Tryz.f65 (.r (.r (.r .root))) (Ag (Ag (Ag f 3 (.str l_3 c_3)) 4 (.str l_4 c_4)) 5 (.str l_5 c_5)) h = Amr c k J l_3 c_3 l_4 c_4 l_5 c_5 h := by kernel_rfl
theorem w65 (hc : zqco c) {n : Nat} {a : List AV} (hg : f65 (r65 c k n) 0 (Ac a) h) : zqs 65 a h k :=
 zqw hc q65 Tryz.func65 rfl (by kernel_rfl) (by kernel_rfl) k u65 (fun n => f65 (r65 c k n)) (fun L _ _ hl => match L, hl with
  | 0, hl => zqnS hl fun _ _ hl => hl
  | 1, hl => zqnS hl fun _ _ hl => zqnS hl fun _ _ hl => zqnS hl fun _ _ hl => zqnI hl fun _ hl => zqnB hl fun _ hl => hl
  | 2, hl => zqnS hl fun _ _ hl => zqnS hl fun _ _ hl => zqnS hl fun _ _ hl => hl
  | _ + 3, hl => hl) (fun n => ⟨
  fun f h hl => by
    refine zqrS 0 hl fun _ _ hl => ?_; exact Eq.mpr (Bep ..) hl,
  fun f h hl => by
    refine zqrS 3 hl fun _ _ hl => ?_; refine zqrS 4 hl fun _ _ hl => ?_; refine zqrS 5 hl fun _ _ hl => ?_; refine zqrI 6 hl fun _ hl => ?_; refine zqrB 7 hl fun _ hl => ?_; exact Eq.mpr (Beo ..) hl,
  fun f h hl => by
    refine zqrS 3 hl fun _ _ hl => ?_; refine zqrS 4 hl fun _ _ hl => ?_; refine zqrS 5 hl fun _ _ hl => ?_; exact Eq.mpr (Ben ..) hl,
  trivial⟩) rfl hg
theorem Bem (J : J66) (l_0 c_0 : Nat) : zqe c k q66 u66 (f66 J) d66 Tryz.f66 .root (Ag f 0 (.str l_0 c_0)) h = Amq c k J l_0 c_0 h := by kernel_rfl
theorem Bel (J : J66) (l_4 c_4 : Nat) (l_6 c_6 : Nat) (n_9 n_52 n_53 : Int) : zqe c k q66 u66 (f66 J) d66 Tryz.f66 (.l (.r (.l (.r (.l (.r (.l (.r (.r (.r (.r (.r .root)))))))))))) (Ag (Ag (Ag (Ag (Ag f 4 (.str l_4 c_4)) 6 (.str l_6 c_6)) 9 (.int .u32 n_9)) 52 (.int .i64 n_52)) 53 (.int .i64 n_53)) h = Amp c k J (f 2) l_4 c_4 l_6 c_6 n_9 n_52 n_53 h := by kernel_rfl
theorem Bek (J : J66) (l_6 c_6 : Nat) (n_8 : Int) : zqe c k q66 u66 (f66 J) d66 Tryz.f66 (.r (.r (.r (.r (.r (.r .root)))))) (Ag (Ag f 6 (.str l_6 c_6)) 8 (.int .i64 n_8)) h = Amo c k J (f 2) l_6 c_6 n_8 h := by kernel_rfl
theorem w66 (hc : zqco c) {n : Nat} {a : List AV} (hg : f66 (r66 c k n) 0 (Ac a) h) : zqs 66 a h k :=
 zqw hc q66 Tryz.func66 rfl (by kernel_rfl) (by kernel_rfl) k u66 (fun n => f66 (r66 c k n)) (fun L _ _ hl => match L, hl with
  | 0, hl => zqnS hl fun _ _ hl => hl
  | 1, hl => zqnS hl fun _ _ hl => zqnS hl fun _ _ hl => zqnI hl fun _ hl => zqnI hl fun _ hl => zqnI hl fun _ hl => hl
  | 2, hl => zqnS hl fun _ _ hl => zqnI hl fun _ hl => hl
  | _ + 3, hl => hl) (fun n => ⟨
  fun f h hl => by
    refine zqrS 0 hl fun _ _ hl => ?_; exact Eq.mpr (Bem ..) hl,
  fun f h hl => by
    refine zqrS 4 hl fun _ _ hl => ?_; refine zqrS 6 hl fun _ _ hl => ?_; refine zqrI 9 hl fun _ hl => ?_; refine zqrI 52 hl fun _ hl => ?_; refine zqrI 53 hl fun _ hl => ?_; exact Eq.mpr (Bel ..) hl,
  fun f h hl => by
    refine zqrS 6 hl fun _ _ hl => ?_; refine zqrI 8 hl fun _ hl => ?_; exact Eq.mpr (Bek ..) hl,
  trivial⟩) rfl hg
theorem Bej (J : J67) : zqe c k q67 u67 (f67 J) d67 Tryz.f67 .root f h = Amn c k J (f 0) h := by kernel_rfl
theorem w67 (hc : zqco c) {n : Nat} {a : List AV} (hg : f67 (r67 c k n) 0 (Ac a) h) : zqs 67 a h k :=
 zqw hc q67 Tryz.func67 rfl (by kernel_rfl) (by kernel_rfl) k u67 (fun n => f67 (r67 c k n)) (fun L _ _ hl => match L, hl with
  | 0, hl => hl
  | _ + 1, hl => hl) (fun n => ⟨
  fun f h hl => Eq.mpr (Bej ..) hl,
  trivial⟩) rfl hg
theorem Bei (J : J74) : zqe c k q74 u74 (f74 J) d74 Tryz.f74 .root f h = Amm c k J (f 0) (f 1) h := by kernel_rfl
theorem w74 (hc : zqco c) {n : Nat} {a : List AV} (hg : f74 (r74 c k n) 0 (Ac a) h) : zqs 74 a h k :=
 zqw hc q74 Tryz.func74 rfl (by kernel_rfl) (by kernel_rfl) k u74 (fun n => f74 (r74 c k n)) (fun L _ _ hl => match L, hl with
  | 0, hl => hl
  | _ + 1, hl => hl) (fun n => ⟨
  fun f h hl => Eq.mpr (Bei ..) hl,
  trivial⟩) rfl hg
theorem w75 (hc : zqco c) {m : Nat} {a : List AV} (hg : Kt env c q75 u75 d75 (Hq env Tryz.f75.results.toList k) m 0 (Ac a) h) : zqs 75 a h k := Kw mixed Jy hc q75 Tryz.func75 rfl (by kernel_rfl) (by kernel_rfl) (by kernel_rfl) (by simp [u75]) hg
theorem Beh (J : J77) (l_0 c_0 : Nat) : zqe c k q77 u77 (f77 J) d77 Tryz.f77 .root (Ag f 0 (.str l_0 c_0)) h = Aml c k J l_0 c_0 h := by kernel_rfl
theorem w77 (hc : zqco c) {n : Nat} {a : List AV} (hg : f77 (r77 c k n) 0 (Ac a) h) : zqs 77 a h k :=
 zqw hc q77 Tryz.func77 rfl (by kernel_rfl) (by kernel_rfl) k u77 (fun n => f77 (r77 c k n)) (fun L _ _ hl => match L, hl with
  | 0, hl => zqnS hl fun _ _ hl => hl
  | _ + 1, hl => hl) (fun n => ⟨
  fun f h hl => by
    refine zqrS 0 hl fun _ _ hl => ?_; exact Eq.mpr (Beh ..) hl,
  trivial⟩) rfl hg
theorem Bec (J : J80) (n_1 : Int) : zqe c k q80 u80 (f80 J) d80 Tryz.f80 .root (Ag f 1 (.int .i64 n_1)) h = Amh c k J (f 0) n_1 h := by kernel_rfl
theorem Beb (J : J80) (n_9 : Int) : zqe c k q80 u80 (f80 J) d80 Tryz.f80 (.l (.l (.r (.l (.r (.l (.r (.r (.r .root))))))))) (Ag f 9 (.int .i64 n_9)) h = Amg c k J (f 0) n_9 h := by kernel_rfl
theorem Bea (J : J80) (n_1 : Int) : zqe c k q80 u80 (f80 J) d80 Tryz.f80 (.r (.r (.r .root))) (Ag f 1 (.int .i64 n_1)) h = Amf c k J (f 0) n_1 h := by kernel_rfl
theorem w80 (hc : zqco c) {n : Nat} {a : List AV} (hg : f80 (r80 c k n) 0 (Ac a) h) : zqs 80 a h k :=
 zqw hc q80 Tryz.func80 rfl (by kernel_rfl) (by kernel_rfl) k u80 (fun n => f80 (r80 c k n)) (fun L _ _ hl => match L, hl with
  | 0, hl => zqnI hl fun _ hl => hl
  | 1, hl => zqnI hl fun _ hl => hl
  | 2, hl => zqnI hl fun _ hl => hl
  | _ + 3, hl => hl) (fun n => ⟨
  fun f h hl => by
    refine zqrI 1 hl fun _ hl => ?_; exact Eq.mpr (Bec ..) hl,
  fun f h hl => by
    refine zqrI 9 hl fun _ hl => ?_; exact Eq.mpr (Beb ..) hl,
  fun f h hl => by
    refine zqrI 1 hl fun _ hl => ?_; exact Eq.mpr (Bea ..) hl,
  trivial⟩) rfl hg
theorem Bd9 (J : J81) : zqe c k q81 u81 (f81 J) d81 Tryz.f81 .root f h = Ame c k J (f 0) h := by kernel_rfl
theorem Bd8 (J : J81) (n_4 : Int) : zqe c k q81 u81 (f81 J) d81 Tryz.f81 (.l (.r (.l (.r (.r .root))))) (Ag f 4 (.int .i64 n_4)) h = Amd c k J (f 0) (f 3) n_4 h := by kernel_rfl
theorem w81 (hc : zqco c) {n : Nat} {a : List AV} (hg : f81 (r81 c k n) 0 (Ac a) h) : zqs 81 a h k :=
 zqw hc q81 Tryz.func81 rfl (by kernel_rfl) (by kernel_rfl) k u81 (fun n => f81 (r81 c k n)) (fun L _ _ hl => match L, hl with
  | 0, hl => hl
  | 1, hl => zqnI hl fun _ hl => hl
  | _ + 2, hl => hl) (fun n => ⟨
  fun f h hl => Eq.mpr (Bd9 ..) hl,
  fun f h hl => by
    refine zqrI 4 hl fun _ hl => ?_; exact Eq.mpr (Bd8 ..) hl,
  trivial⟩) rfl hg
theorem A7u (J : Axl) (n_1 : Int) : zqe c k Bch Bbb (f107 J) d107 Tryz.f107 .root (Ag f 1 (.int .u8 n_1)) h = Afc c k J (f 0) n_1 h := by kernel_rfl
theorem Baf (hc : zqco c) {n : Nat} {a : List AV} (hg : f107 (Asq c k n) 0 (Ac a) h) : zqs 107 a h k :=
 zqw hc Bch Tryz.func107 rfl (by kernel_rfl) (by kernel_rfl) k Bbb (fun n => f107 (Asq c k n)) (fun L _ _ hl => match L, hl with
  | 0, hl => zqnI hl fun _ hl => hl
  | _ + 1, hl => hl) (fun n => ⟨
  fun f h hl => by
    refine zqrI 1 hl fun _ hl => ?_; exact Eq.mpr (A7u ..) hl,
  trivial⟩) rfl hg
theorem A7t (J : Ag1) (l_0 c_0 : Nat) : zqe c k Ayj Axx (f108 J) d108 Tryz.f108 .root (Ag f 0 (.str l_0 c_0)) h = Afb c k J l_0 c_0 h := by kernel_rfl
theorem A7s (J : Ag1) (n_5 n_6 n_8 : Int) : zqe c k Ayj Axx (f108 J) d108 Tryz.f108 (.l (.r (.l (.r (.r (.r (.r (.r (.r (.r .root)))))))))) (Ag (Ag (Ag f 5 (.int .i64 n_5)) 6 (.int .i64 n_6)) 8 (.int .i64 n_8)) h = Afa c k J n_5 n_6 n_8 (f 38) h := by kernel_rfl
theorem A7r (J : Ag1) (l_0 c_0 : Nat) (n_5 n_6 n_7 : Int) : zqe c k Ayj Axx (f108 J) d108 Tryz.f108 (.r (.r (.r (.r (.r .root))))) (Ag (Ag (Ag (Ag f 0 (.str l_0 c_0)) 5 (.int .i64 n_5)) 6 (.int .i64 n_6)) 7 (.int .i64 n_7)) h = Ae9 c k J l_0 c_0 n_5 n_6 n_7 h := by kernel_rfl
theorem Bae (hc : zqco c) {n : Nat} {a : List AV} (hg : f108 (Zl c k n) 0 (Ac a) h) : zqs 108 a h k :=
 zqw hc Ayj Tryz.func108 rfl (by kernel_rfl) (by kernel_rfl) k Axx (fun n => f108 (Zl c k n)) (fun L _ _ hl => match L, hl with
  | 0, hl => zqnS hl fun _ _ hl => hl
  | 1, hl => zqnI hl fun _ hl => zqnI hl fun _ hl => zqnI hl fun _ hl => hl
  | 2, hl => zqnS hl fun _ _ hl => zqnI hl fun _ hl => zqnI hl fun _ hl => zqnI hl fun _ hl => hl
  | _ + 3, hl => hl) (fun n => ⟨
  fun f h hl => by
    refine zqrS 0 hl fun _ _ hl => ?_; exact Eq.mpr (A7t ..) hl,
  fun f h hl => by
    refine zqrI 5 hl fun _ hl => ?_; refine zqrI 6 hl fun _ hl => ?_; refine zqrI 8 hl fun _ hl => ?_; exact Eq.mpr (A7s ..) hl,
  fun f h hl => by
    refine zqrS 0 hl fun _ _ hl => ?_; refine zqrI 5 hl fun _ hl => ?_; refine zqrI 6 hl fun _ hl => ?_; refine zqrI 7 hl fun _ hl => ?_; exact Eq.mpr (A7r ..) hl,
  trivial⟩) rfl hg
theorem A7q (J : Axk) (l_0 c_0 : Nat) (l_1 c_1 : Nat) : zqe c k Bcg Bba (f109 J) d109 Tryz.f109 .root (Ag (Ag f 0 (.str l_0 c_0)) 1 (.str l_1 c_1)) h = Ae8 c k J l_0 c_0 l_1 c_1 h := by kernel_rfl
theorem Bad (hc : zqco c) {n : Nat} {a : List AV} (hg : f109 (Asp c k n) 0 (Ac a) h) : zqs 109 a h k :=
 zqw hc Bcg Tryz.func109 rfl (by kernel_rfl) (by kernel_rfl) k Bba (fun n => f109 (Asp c k n)) (fun L _ _ hl => match L, hl with
  | 0, hl => zqnS hl fun _ _ hl => zqnS hl fun _ _ hl => hl
  | _ + 1, hl => hl) (fun n => ⟨
  fun f h hl => by
    refine zqrS 0 hl fun _ _ hl => ?_; refine zqrS 1 hl fun _ _ hl => ?_; exact Eq.mpr (A7q ..) hl,
  trivial⟩) rfl hg
theorem A7p (J : Axj) : zqe c k Bcf Ba9 (f110 J) d110 Tryz.f110 .root f h = Ae7 c k J (f 0) h := by kernel_rfl
theorem Bac (hc : zqco c) {n : Nat} {a : List AV} (hg : f110 (Aso c k n) 0 (Ac a) h) : zqs 110 a h k :=
 zqw hc Bcf Tryz.func110 rfl (by kernel_rfl) (by kernel_rfl) k Ba9 (fun n => f110 (Aso c k n)) (fun L _ _ hl => match L, hl with
  | 0, hl => hl
  | _ + 1, hl => hl) (fun n => ⟨
  fun f h hl => Eq.mpr (A7p ..) hl,
  trivial⟩) rfl hg
theorem A7n (J : Axh) (l_0 c_0 : Nat) (l_1 c_1 : Nat) : zqe c k Bcd Ba7 (f112 J) d112 Tryz.f112 .root (Ag (Ag f 0 (.str l_0 c_0)) 1 (.str l_1 c_1)) h = Ae5 c k J l_0 c_0 l_1 c_1 h := by kernel_rfl
theorem Baa (hc : zqco c) {n : Nat} {a : List AV} (hg : f112 (Asm c k n) 0 (Ac a) h) : zqs 112 a h k :=
 zqw hc Bcd Tryz.func112 rfl (by kernel_rfl) (by kernel_rfl) k Ba7 (fun n => f112 (Asm c k n)) (fun L _ _ hl => match L, hl with
  | 0, hl => zqnS hl fun _ _ hl => zqnS hl fun _ _ hl => hl
  | _ + 1, hl => hl) (fun n => ⟨
  fun f h hl => by
    refine zqrS 0 hl fun _ _ hl => ?_; refine zqrS 1 hl fun _ _ hl => ?_; exact Eq.mpr (A7n ..) hl,
  trivial⟩) rfl hg
theorem A7k (J : Axg) (l_0 c_0 : Nat) : zqe c k Bcc Ba6 (f114 J) d114 Tryz.f114 .root (Ag f 0 (.str l_0 c_0)) h = Ae2 c k J l_0 c_0 h := by kernel_rfl
theorem A98 (hc : zqco c) {n : Nat} {a : List AV} (hg : f114 (Asl c k n) 0 (Ac a) h) : zqs 114 a h k :=
 zqw hc Bcc Tryz.func114 rfl (by kernel_rfl) (by kernel_rfl) k Ba6 (fun n => f114 (Asl c k n)) (fun L _ _ hl => match L, hl with
  | 0, hl => zqnS hl fun _ _ hl => hl
  | _ + 1, hl => hl) (fun n => ⟨
  fun f h hl => by
    refine zqrS 0 hl fun _ _ hl => ?_; exact Eq.mpr (A7k ..) hl,
  trivial⟩) rfl hg
theorem A7i (J : Axe) (l_0 c_0 : Nat) (l_1 c_1 : Nat) : zqe c k Bca Ba4 (f116 J) d116 Tryz.f116 .root (Ag (Ag f 0 (.str l_0 c_0)) 1 (.str l_1 c_1)) h = Ae1 c k J l_0 c_0 l_1 c_1 h := by kernel_rfl
theorem A96 (hc : zqco c) {n : Nat} {a : List AV} (hg : f116 (Asi c k n) 0 (Ac a) h) : zqs 116 a h k :=
 zqw hc Bca Tryz.func116 rfl (by kernel_rfl) (by kernel_rfl) k Ba4 (fun n => f116 (Asi c k n)) (fun L _ _ hl => match L, hl with
  | 0, hl => zqnS hl fun _ _ hl => zqnS hl fun _ _ hl => hl
  | _ + 1, hl => hl) (fun n => ⟨
  fun f h hl => by
    refine zqrS 0 hl fun _ _ hl => ?_; refine zqrS 1 hl fun _ _ hl => ?_; exact Eq.mpr (A7i ..) hl,
  trivial⟩) rfl hg
theorem A7e (J : Axc) : zqe c k Bb8 Ba2 (f119 J) d119 Tryz.f119 .root f h = Aex c k J (f 0) h := by kernel_rfl
theorem A93 (hc : zqco c) {n : Nat} {a : List AV} (hg : f119 (Asg c k n) 0 (Ac a) h) : zqs 119 a h k :=
 zqw hc Bb8 Tryz.func119 rfl (by kernel_rfl) (by kernel_rfl) k Ba2 (fun n => f119 (Asg c k n)) (fun L _ _ hl => match L, hl with
  | 0, hl => hl
  | _ + 1, hl => hl) (fun n => ⟨
  fun f h hl => Eq.mpr (A7e ..) hl,
  trivial⟩) rfl hg
theorem A7c (J : Axa) : zqe c k Bb6 Ba0 (f122 J) d122 Tryz.f122 .root f h = Aev c k J (f 0) h := by kernel_rfl
theorem A91 (hc : zqco c) {n : Nat} {a : List AV} (hg : f122 (Ase c k n) 0 (Ac a) h) : zqs 122 a h k :=
 zqw hc Bb6 Tryz.func122 rfl (by kernel_rfl) (by kernel_rfl) k Ba0 (fun n => f122 (Ase c k n)) (fun L _ _ hl => match L, hl with
  | 0, hl => hl
  | _ + 1, hl => hl) (fun n => ⟨
  fun f h hl => Eq.mpr (A7c ..) hl,
  trivial⟩) rfl hg
theorem A7b (J : Ag0) : zqe c k Ayi Axw (f127 J) d127 Tryz.f127 .root f h = Aeu c k J (f 0) h := by kernel_rfl
theorem A7a (J : Ag0) (n_4 : Int) : zqe c k Ayi Axw (f127 J) d127 Tryz.f127 (.l (.r (.l (.r (.r .root))))) (Ag f 4 (.int .i64 n_4)) h = Za c k J (f 0) (f 3) n_4 h := by kernel_rfl
theorem A69 (J : Ag0) (n_4 : Int) : zqe c k Ayi Axw (f127 J) d127 Tryz.f127 (.r (.r (.l (.l (.r (.l (.r (.r .root)))))))) (Ag f 4 (.int .i64 n_4)) h = Yz c k J (f 0) (f 3) n_4 h := by kernel_rfl
theorem A90 (hc : zqco c) {n : Nat} {a : List AV} (hg : f127 (Zk c k n) 0 (Ac a) h) : zqs 127 a h k :=
 zqw hc Ayi Tryz.func127 rfl (by kernel_rfl) (by kernel_rfl) k Axw (fun n => f127 (Zk c k n)) (fun L _ _ hl => match L, hl with
  | 0, hl => hl
  | 1, hl => zqnI hl fun _ hl => hl
  | 2, hl => zqnI hl fun _ hl => hl
  | _ + 3, hl => hl) (fun n => ⟨
  fun f h hl => Eq.mpr (A7b ..) hl,
  fun f h hl => by
    refine zqrI 4 hl fun _ hl => ?_; exact Eq.mpr (A7a ..) hl,
  fun f h hl => by
    refine zqrI 4 hl fun _ hl => ?_; exact Eq.mpr (A69 ..) hl,
  trivial⟩) rfl hg
theorem A68 (J : Agz) (l_0 c_0 : Nat) : zqe c k Ayh Axv (f128 J) d128 Tryz.f128 .root (Ag f 0 (.str l_0 c_0)) h = Aet c k J l_0 c_0 h := by kernel_rfl
theorem A67 (J : Agz) (l_0 c_0 : Nat) (n_4 : Int) : zqe c k Ayh Axv (f128 J) d128 Tryz.f128 (.l (.r (.l (.r (.r .root))))) (Ag (Ag f 0 (.str l_0 c_0)) 4 (.int .i64 n_4)) h = Aes c k J l_0 c_0 (f 3) n_4 h := by kernel_rfl
theorem A66 (J : Agz) (l_0 c_0 : Nat) (n_4 : Int) : zqe c k Ayh Axv (f128 J) d128 Tryz.f128 (.r (.l (.r (.l (.l (.r (.l (.r (.r .root))))))))) (Ag (Ag f 0 (.str l_0 c_0)) 4 (.int .i64 n_4)) h = Aer c k J l_0 c_0 (f 3) n_4 h := by kernel_rfl
theorem A9z (hc : zqco c) {n : Nat} {a : List AV} (hg : f128 (Zj c k n) 0 (Ac a) h) : zqs 128 a h k :=
 zqw hc Ayh Tryz.func128 rfl (by kernel_rfl) (by kernel_rfl) k Axv (fun n => f128 (Zj c k n)) (fun L _ _ hl => match L, hl with
  | 0, hl => zqnS hl fun _ _ hl => hl
  | 1, hl => zqnS hl fun _ _ hl => zqnI hl fun _ hl => hl
  | 2, hl => zqnS hl fun _ _ hl => zqnI hl fun _ hl => hl
  | _ + 3, hl => hl) (fun n => ⟨
  fun f h hl => by
    refine zqrS 0 hl fun _ _ hl => ?_; exact Eq.mpr (A68 ..) hl,
  fun f h hl => by
    refine zqrS 0 hl fun _ _ hl => ?_; refine zqrI 4 hl fun _ hl => ?_; exact Eq.mpr (A67 ..) hl,
  fun f h hl => by
    refine zqrS 0 hl fun _ _ hl => ?_; refine zqrI 4 hl fun _ hl => ?_; exact Eq.mpr (A66 ..) hl,
  trivial⟩) rfl hg
theorem A64 (J : Aw8) (n_1 : Int) : zqe c k Bb4 Bay (f130 J) d130 Tryz.f130 .root (Ag f 1 (.int .i64 n_1)) h = Aep c k J (f 0) n_1 h := by kernel_rfl
theorem A9x (hc : zqco c) {n : Nat} {a : List AV} (hg : f130 (Asc c k n) 0 (Ac a) h) : zqs 130 a h k :=
 zqw hc Bb4 Tryz.func130 rfl (by kernel_rfl) (by kernel_rfl) k Bay (fun n => f130 (Asc c k n)) (fun L _ _ hl => match L, hl with
  | 0, hl => zqnI hl fun _ hl => hl
  | _ + 1, hl => hl) (fun n => ⟨
  fun f h hl => by
    refine zqrI 1 hl fun _ hl => ?_; exact Eq.mpr (A64 ..) hl,
  trivial⟩) rfl hg
theorem A6y (J : Al6) (n_1 : Int) : zqe c k A29 A2i (f134 J) d134 Tryz.f134 .root (Ag f 1 (.int .i64 n_1)) h = Aek c k J (f 0) n_1 h := by kernel_rfl
theorem A6x (J : Al6) (n_5 : Int) : zqe c k A29 A2i (f134 J) d134 Tryz.f134 (.l (.r (.r (.r .root)))) (Ag f 5 (.int .i64 n_5)) h = Aej c k J (f 0) n_5 h := by kernel_rfl
theorem A9t (hc : zqco c) {n : Nat} {a : List AV} (hg : f134 (Aht c k n) 0 (Ac a) h) : zqs 134 a h k :=
 zqw hc A29 Tryz.func134 rfl (by kernel_rfl) (by kernel_rfl) k A2i (fun n => f134 (Aht c k n)) (fun L _ _ hl => match L, hl with
  | 0, hl => zqnI hl fun _ hl => hl
  | 1, hl => zqnI hl fun _ hl => hl
  | _ + 2, hl => hl) (fun n => ⟨
  fun f h hl => by
    refine zqrI 1 hl fun _ hl => ?_; exact Eq.mpr (A6y ..) hl,
  fun f h hl => by
    refine zqrI 5 hl fun _ hl => ?_; exact Eq.mpr (A6x ..) hl,
  trivial⟩) rfl hg
theorem A6r (J : Tg) (l_0 c_0 : Nat) : zqe c k Akl Aj3 (f161 J) d161 Tryz.f161 .root (Ag f 0 (.str l_0 c_0)) h = Aed c k J l_0 c_0 h := by kernel_rfl
theorem A6q (J : Tg) (l_0 c_0 : Nat) (b_3 b_4 : Bool) (n_5 : Int) : zqe c k Akl Aj3 (f161 J) d161 Tryz.f161 (.l (.r (.l (.r (.r .root))))) (Ag (Ag (Ag (Ag f 0 (.str l_0 c_0)) 3 (.bool b_3)) 4 (.bool b_4)) 5 (.int .i64 n_5)) h = Aec c k J l_0 c_0 b_3 b_4 n_5 h := by kernel_rfl
theorem A6p (J : Tg) (l_0 c_0 : Nat) (n_8 n_9 : Int) : zqe c k Akl Aj3 (f161 J) d161 Tryz.f161 (.l (.r (.l (.r (.r (.r (.r (.l (.r (.l (.r (.r (.r .root))))))))))))) (Ag (Ag (Ag f 0 (.str l_0 c_0)) 8 (.int .i64 n_8)) 9 (.int .i64 n_9)) h = Aeb c k J l_0 c_0 (f 7) n_8 n_9 h := by kernel_rfl
theorem A6o (J : Tg) (l_0 c_0 : Nat) (n_9 n_10 : Int) : zqe c k Akl Aj3 (f161 J) d161 Tryz.f161 (.r (.r (.l (.r (.r (.l (.l (.r (.l (.l (.r (.l (.r (.r (.r (.r (.l (.r (.l (.r (.r (.r .root)))))))))))))))))))))) (Ag (Ag (Ag f 0 (.str l_0 c_0)) 9 (.int .i64 n_9)) 10 (.int .u8 n_10)) h = Aea c k J l_0 c_0 (f 7) n_9 n_10 h := by kernel_rfl
theorem A6n (J : Tg) (l_0 c_0 : Nat) (n_8 n_9 : Int) : zqe c k Akl Aj3 (f161 J) d161 Tryz.f161 (.r (.r (.l (.l (.r (.l (.r (.r (.r (.r (.l (.r (.l (.r (.r (.r .root)))))))))))))))) (Ag (Ag (Ag f 0 (.str l_0 c_0)) 8 (.int .i64 n_8)) 9 (.int .i64 n_9)) h = Yx c k J l_0 c_0 (f 7) n_8 n_9 h := by kernel_rfl
theorem A6m (J : Tg) (l_0 c_0 : Nat) (b_3 b_4 : Bool) : zqe c k Akl Aj3 (f161 J) d161 Tryz.f161 (.r (.r (.r .root))) (Ag (Ag (Ag f 0 (.str l_0 c_0)) 3 (.bool b_3)) 4 (.bool b_4)) h = Ad9 c k J l_0 c_0 b_3 b_4 h := by kernel_rfl
theorem A9p (hc : zqco c) {n : Nat} {a : List AV} (hg : f161 (Nc c k n) 0 (Ac a) h) : zqs 161 a h k :=
 zqw hc Akl Tryz.func161 rfl (by kernel_rfl) (by kernel_rfl) k Aj3 (fun n => f161 (Nc c k n)) (fun L _ _ hl => match L, hl with
  | 0, hl => zqnS hl fun _ _ hl => hl
  | 1, hl => zqnS hl fun _ _ hl => zqnB hl fun _ hl => zqnB hl fun _ hl => zqnI hl fun _ hl => hl
  | 2, hl => zqnS hl fun _ _ hl => zqnI hl fun _ hl => zqnI hl fun _ hl => hl
  | 3, hl => zqnS hl fun _ _ hl => zqnI hl fun _ hl => zqnI hl fun _ hl => hl
  | 4, hl => zqnS hl fun _ _ hl => zqnI hl fun _ hl => zqnI hl fun _ hl => hl
  | 5, hl => zqnS hl fun _ _ hl => zqnB hl fun _ hl => zqnB hl fun _ hl => hl
  | _ + 6, hl => hl) (fun n => ⟨
  fun f h hl => by
    refine zqrS 0 hl fun _ _ hl => ?_; exact Eq.mpr (A6r ..) hl,
  fun f h hl => by
    refine zqrS 0 hl fun _ _ hl => ?_; refine zqrB 3 hl fun _ hl => ?_; refine zqrB 4 hl fun _ hl => ?_; refine zqrI 5 hl fun _ hl => ?_; exact Eq.mpr (A6q ..) hl,
  fun f h hl => by
    refine zqrS 0 hl fun _ _ hl => ?_; refine zqrI 8 hl fun _ hl => ?_; refine zqrI 9 hl fun _ hl => ?_; exact Eq.mpr (A6p ..) hl,
  fun f h hl => by
    refine zqrS 0 hl fun _ _ hl => ?_; refine zqrI 9 hl fun _ hl => ?_; refine zqrI 10 hl fun _ hl => ?_; exact Eq.mpr (A6o ..) hl,
  fun f h hl => by
    refine zqrS 0 hl fun _ _ hl => ?_; refine zqrI 8 hl fun _ hl => ?_; refine zqrI 9 hl fun _ hl => ?_; exact Eq.mpr (A6n ..) hl,
  fun f h hl => by
    refine zqrS 0 hl fun _ _ hl => ?_; refine zqrB 3 hl fun _ hl => ?_; refine zqrB 4 hl fun _ hl => ?_; exact Eq.mpr (A6m ..) hl,
  trivial⟩) rfl hg
theorem A6j (J : Aw1) (l_1 c_1 : Nat) : zqe c k Bbx Bar (f166 J) d166 Tryz.f166 .root (Ag f 1 (.str l_1 c_1)) h = Ad6 c k J (f 0) l_1 c_1 h := by kernel_rfl
theorem A9m (hc : zqco c) {n : Nat} {a : List AV} (hg : f166 (Ar5 c k n) 0 (Ac a) h) : zqs 166 a h k :=
 zqw hc Bbx Tryz.func166 rfl (by kernel_rfl) (by kernel_rfl) k Bar (fun n => f166 (Ar5 c k n)) (fun L _ _ hl => match L, hl with
  | 0, hl => zqnS hl fun _ _ hl => hl
  | _ + 1, hl => hl) (fun n => ⟨
  fun f h hl => by
    refine zqrS 1 hl fun _ _ hl => ?_; exact Eq.mpr (A6j ..) hl,
  trivial⟩) rfl hg
theorem Bii (hc : zqco c) {m : Nat} {a : List AV} (hg : Kt env c A27 A2g d168 (Hq env Tryz.f168.results.toList k) m 0 (Ac a) h) : zqs 168 a h k := Kw mixed Jy hc A27 Tryz.func168 rfl (by kernel_rfl) (by kernel_rfl) (by kernel_rfl) (by simp [A2g]) hg
theorem A6g (J : Aw0) (l_0 c_0 : Nat) (l_1 c_1 : Nat) : zqe c k Bbw Baq (f171 J) d171 Tryz.f171 .root (Ag (Ag f 0 (.str l_0 c_0)) 1 (.str l_1 c_1)) h = Ad3 c k J l_0 c_0 l_1 c_1 h := by kernel_rfl
theorem A9k (hc : zqco c) {n : Nat} {a : List AV} (hg : f171 (Ar4 c k n) 0 (Ac a) h) : zqs 171 a h k :=
 zqw hc Bbw Tryz.func171 rfl (by kernel_rfl) (by kernel_rfl) k Baq (fun n => f171 (Ar4 c k n)) (fun L _ _ hl => match L, hl with
  | 0, hl => zqnS hl fun _ _ hl => zqnS hl fun _ _ hl => hl
  | _ + 1, hl => hl) (fun n => ⟨
  fun f h hl => by
    refine zqrS 0 hl fun _ _ hl => ?_; refine zqrS 1 hl fun _ _ hl => ?_; exact Eq.mpr (A6g ..) hl,
  trivial⟩) rfl hg
theorem A6e (J : Tf) (l_0 c_0 : Nat) (n_1 n_2 : Int) : zqe c k Akk Aj2 (f173 J) d173 Tryz.f173 .root (Ag (Ag (Ag f 0 (.str l_0 c_0)) 1 (.int .i64 n_1)) 2 (.int .i64 n_2)) h = Ad1 c k J l_0 c_0 n_1 n_2 h := by kernel_rfl
theorem A6d (J : Tf) (n_1 : Int) (b_8 : Bool) (l_9 c_9 : Nat) (n_10 n_11 : Int) (b_12 : Bool) (n_13 n_100 n_101 : Int) : zqe c k Akk Aj2 (f173 J) d173 Tryz.f173 (.l (.r (.l (.r (.r (.r (.r (.r (.r (.r (.r (.r (.r (.r .root)))))))))))))) (Ag (Ag (Ag (Ag (Ag (Ag (Ag (Ag (Ag f 1 (.int .i64 n_1)) 8 (.bool b_8)) 9 (.str l_9 c_9)) 10 (.int .u64 n_10)) 11 (.int .u64 n_11)) 12 (.bool b_12)) 13 (.int .u64 n_13)) 100 (.int .i64 n_100)) 101 (.int .i64 n_101)) h = Ad0 c k J n_1 b_8 l_9 c_9 n_10 n_11 b_12 n_13 (f 99) n_100 n_101 h := by kernel_rfl
theorem A6c (J : Tf) (n_1 : Int) (b_8 : Bool) (l_9 c_9 : Nat) (n_10 n_11 : Int) (b_12 : Bool) (n_13 n_16 : Int) (n_100 n_101 : Int) : zqe c k Akk Aj2 (f173 J) d173 Tryz.f173 (.r (.r (.r (.l (.l (.r (.r (.l (.l (.r (.l (.r (.r (.r (.r (.r (.r (.r (.r (.r (.r (.r .root)))))))))))))))))))))) (Ag (Ag (Ag (Ag (Ag (Ag (Ag (Ag (Ag (Ag f 1 (.int .i64 n_1)) 8 (.bool b_8)) 9 (.str l_9 c_9)) 10 (.int .u64 n_10)) 11 (.int .u64 n_11)) 12 (.bool b_12)) 13 (.int .u64 n_13)) 16 (.int .u8 n_16)) 100 (.int .i64 n_100)) 101 (.int .i64 n_101)) h = Adz c k J n_1 b_8 l_9 c_9 n_10 n_11 b_12 n_13 n_16 (f 99) n_100 n_101 h := by kernel_rfl
theorem A6b (J : Tf) (l_0 c_0 : Nat) (n_1 n_2 : Int) (b_8 : Bool) (l_9 c_9 : Nat) (n_10 : Int) : zqe c k Akk Aj2 (f173 J) d173 Tryz.f173 (.r (.r (.r (.r (.r (.r (.r (.r .root)))))))) (Ag (Ag (Ag (Ag (Ag (Ag f 0 (.str l_0 c_0)) 1 (.int .i64 n_1)) 2 (.int .i64 n_2)) 8 (.bool b_8)) 9 (.str l_9 c_9)) 10 (.int .u64 n_10)) h = Ady c k J l_0 c_0 n_1 n_2 b_8 l_9 c_9 n_10 h := by kernel_rfl
theorem A6a (J : Tf) (l_0 c_0 : Nat) (n_1 n_2 : Int) (b_8 : Bool) (l_9 c_9 : Nat) : zqe c k Akk Aj2 (f173 J) d173 Tryz.f173 (.r (.r (.r (.r (.r (.r .root)))))) (Ag (Ag (Ag (Ag (Ag f 0 (.str l_0 c_0)) 1 (.int .i64 n_1)) 2 (.int .i64 n_2)) 8 (.bool b_8)) 9 (.str l_9 c_9)) h = Adx c k J l_0 c_0 n_1 n_2 b_8 l_9 c_9 h := by kernel_rfl
theorem A59 (J : Tf) (l_0 c_0 : Nat) (n_1 n_2 : Int) (b_8 : Bool) (l_9 c_9 : Nat) : zqe c k Akk Aj2 (f173 J) d173 Tryz.f173 (.r (.r (.r (.r (.r .root))))) (Ag (Ag (Ag (Ag (Ag f 0 (.str l_0 c_0)) 1 (.int .i64 n_1)) 2 (.int .i64 n_2)) 8 (.bool b_8)) 9 (.str l_9 c_9)) h = Adw c k J l_0 c_0 n_1 n_2 b_8 l_9 c_9 h := by kernel_rfl
theorem A9i (hc : zqco c) {n : Nat} {a : List AV} (hg : f173 (Ot c k n) 0 (Ac a) h) : zqs 173 a h k :=
 zqw hc Akk Tryz.func173 rfl (by kernel_rfl) (by kernel_rfl) k Aj2 (fun n => f173 (Ot c k n)) (fun L _ _ hl => match L, hl with
  | 0, hl => zqnS hl fun _ _ hl => zqnI hl fun _ hl => zqnI hl fun _ hl => hl
  | 1, hl => zqnI hl fun _ hl => zqnB hl fun _ hl => zqnS hl fun _ _ hl => zqnI hl fun _ hl => zqnI hl fun _ hl => zqnB hl fun _ hl => zqnI hl fun _ hl => zqnI hl fun _ hl => zqnI hl fun _ hl => hl
  | 2, hl => zqnI hl fun _ hl => zqnB hl fun _ hl => zqnS hl fun _ _ hl => zqnI hl fun _ hl => zqnI hl fun _ hl => zqnB hl fun _ hl => zqnI hl fun _ hl => zqnI hl fun _ hl => zqnI hl fun _ hl => zqnI hl fun _ hl => hl
  | 3, hl => zqnS hl fun _ _ hl => zqnI hl fun _ hl => zqnI hl fun _ hl => zqnB hl fun _ hl => zqnS hl fun _ _ hl => zqnI hl fun _ hl => hl
  | 4, hl => zqnS hl fun _ _ hl => zqnI hl fun _ hl => zqnI hl fun _ hl => zqnB hl fun _ hl => zqnS hl fun _ _ hl => hl
  | 5, hl => zqnS hl fun _ _ hl => zqnI hl fun _ hl => zqnI hl fun _ hl => zqnB hl fun _ hl => zqnS hl fun _ _ hl => hl
  | _ + 6, hl => hl) (fun n => ⟨
  fun f h hl => by
    refine zqrS 0 hl fun _ _ hl => ?_; refine zqrI 1 hl fun _ hl => ?_; refine zqrI 2 hl fun _ hl => ?_; exact Eq.mpr (A6e ..) hl,
  fun f h hl => by
    refine zqrI 1 hl fun _ hl => ?_; refine zqrB 8 hl fun _ hl => ?_; refine zqrS 9 hl fun _ _ hl => ?_; refine zqrI 10 hl fun _ hl => ?_; refine zqrI 11 hl fun _ hl => ?_; refine zqrB 12 hl fun _ hl => ?_; refine zqrI 13 hl fun _ hl => ?_; refine zqrI 100 hl fun _ hl => ?_; refine zqrI 101 hl fun _ hl => ?_; exact Eq.mpr (A6d ..) hl,
  fun f h hl => by
    refine zqrI 1 hl fun _ hl => ?_; refine zqrB 8 hl fun _ hl => ?_; refine zqrS 9 hl fun _ _ hl => ?_; refine zqrI 10 hl fun _ hl => ?_; refine zqrI 11 hl fun _ hl => ?_; refine zqrB 12 hl fun _ hl => ?_; refine zqrI 13 hl fun _ hl => ?_; refine zqrI 16 hl fun _ hl => ?_; refine zqrI 100 hl fun _ hl => ?_; refine zqrI 101 hl fun _ hl => ?_; exact Eq.mpr (A6c ..) hl,
  fun f h hl => by
    refine zqrS 0 hl fun _ _ hl => ?_; refine zqrI 1 hl fun _ hl => ?_; refine zqrI 2 hl fun _ hl => ?_; refine zqrB 8 hl fun _ hl => ?_; refine zqrS 9 hl fun _ _ hl => ?_; refine zqrI 10 hl fun _ hl => ?_; exact Eq.mpr (A6b ..) hl,
  fun f h hl => by
    refine zqrS 0 hl fun _ _ hl => ?_; refine zqrI 1 hl fun _ hl => ?_; refine zqrI 2 hl fun _ hl => ?_; refine zqrB 8 hl fun _ hl => ?_; refine zqrS 9 hl fun _ _ hl => ?_; exact Eq.mpr (A6a ..) hl,
  fun f h hl => by
    refine zqrS 0 hl fun _ _ hl => ?_; refine zqrI 1 hl fun _ hl => ?_; refine zqrI 2 hl fun _ hl => ?_; refine zqrB 8 hl fun _ hl => ?_; refine zqrS 9 hl fun _ _ hl => ?_; exact Eq.mpr (A59 ..) hl,
  trivial⟩) rfl hg
theorem e177_0 (J : J177) : zqe c k q177 u177 (f177 J) d177 Tryz.f177 .root f h = s177_0 c k J (f 0) h := by kernel_rfl
theorem w177 (hc : zqco c) {n : Nat} {a : List AV} (hg : f177 (Bi2 c k n) 0 (Ac a) h) : zqs 177 a h k :=
 zqw hc q177 Tryz.func177 rfl (by kernel_rfl) (by kernel_rfl) k u177 (fun n => f177 (Bi2 c k n)) (fun L _ _ hl => match L, hl with
  | 0, hl => hl
  | _ + 1, hl => hl) (fun n => ⟨
  fun f h hl => Eq.mpr (e177_0 ..) hl,
  trivial⟩) rfl hg
theorem Bme (hc : zqco c) {n : Nat} {a : List AV} (hg : f177 (Bi2 c k n) 0 (Ac a) h) : zqsd 177 a h k :=
 zqwd hc q177 Tryz.func177 rfl (by kernel_rfl) (by kernel_rfl) k u177 (fun n => f177 (Bi2 c k n)) (fun L _ _ hl => match L, hl with
  | 0, hl => hl
  | _ + 1, hl => hl) (fun n => ⟨
  fun f h hl => Eq.mpr (e177_0 ..) hl,
  trivial⟩) rfl hg
theorem A58 (J : Al4) (n_0 : Int) : zqe c k A24 A2d (f181 J) d181 Tryz.f181 .root (Ag f 0 (.int .u8 n_0)) h = Adv c k J n_0 h := by kernel_rfl
theorem A57 (J : Al4) (n_0 n_4 : Int) : zqe c k A24 A2d (f181 J) d181 Tryz.f181 (.l (.r (.l (.r .root)))) (Ag (Ag f 0 (.int .u8 n_0)) 4 (.int .i64 n_4)) h = Adu c k J n_0 n_4 h := by kernel_rfl
theorem A9h (hc : zqco c) {n : Nat} {a : List AV} (hg : f181 (Ahr c k n) 0 (Ac a) h) : zqs 181 a h k :=
 zqw hc A24 Tryz.func181 rfl (by kernel_rfl) (by kernel_rfl) k A2d (fun n => f181 (Ahr c k n)) (fun L _ _ hl => match L, hl with
  | 0, hl => zqnI hl fun _ hl => hl
  | 1, hl => zqnI hl fun _ hl => zqnI hl fun _ hl => hl
  | _ + 2, hl => hl) (fun n => ⟨
  fun f h hl => by
    refine zqrI 0 hl fun _ hl => ?_; exact Eq.mpr (A58 ..) hl,
  fun f h hl => by
    refine zqrI 0 hl fun _ hl => ?_; refine zqrI 4 hl fun _ hl => ?_; exact Eq.mpr (A57 ..) hl,
  trivial⟩) rfl hg
theorem A55 (J : Awx) (l_0 c_0 : Nat) (n_1 : Int) : zqe c k Bbt Ban (f207 J) d207 Tryz.f207 .root (Ag (Ag f 0 (.str l_0 c_0)) 1 (.int .u8 n_1)) h = Ads c k J l_0 c_0 n_1 h := by kernel_rfl
theorem A9f (hc : zqco c) {n : Nat} {a : List AV} (hg : f207 (Ar1 c k n) 0 (Ac a) h) : zqs 207 a h k :=
 zqw hc Bbt Tryz.func207 rfl (by kernel_rfl) (by kernel_rfl) k Ban (fun n => f207 (Ar1 c k n)) (fun L _ _ hl => match L, hl with
  | 0, hl => zqnS hl fun _ _ hl => zqnI hl fun _ hl => hl
  | _ + 1, hl => hl) (fun n => ⟨
  fun f h hl => by
    refine zqrS 0 hl fun _ _ hl => ?_; refine zqrI 1 hl fun _ hl => ?_; exact Eq.mpr (A55 ..) hl,
  trivial⟩) rfl hg
theorem Big (hc : zqco c) {m : Nat} {a : List AV} (hg : Kt env c A22 A2b d214 (Hq env Tryz.f214.results.toList k) m 0 (Ac a) h) : zqs 214 a h k := Kw mixed Jy hc A22 Tryz.func214 rfl (by kernel_rfl) (by kernel_rfl) (by kernel_rfl) (by simp [A2b]) hg
theorem A51 (J : Al2) (l_0 c_0 : Nat) : zqe c k A21 A2a (f219 J) d219 Tryz.f219 .root (Ag f 0 (.str l_0 c_0)) h = Ado c k J l_0 c_0 (f 1) h := by kernel_rfl
theorem A50 (J : Al2) (l_0 c_0 : Nat) : zqe c k A21 A2a (f219 J) d219 Tryz.f219 (.l (.l (.r .root))) (Ag f 0 (.str l_0 c_0)) h = Yw c k J l_0 c_0 (f 1) h := by kernel_rfl
theorem A9c (hc : zqco c) {n : Nat} {a : List AV} (hg : f219 (Ahq c k n) 0 (Ac a) h) : zqs 219 a h k :=
 zqw hc A21 Tryz.func219 rfl (by kernel_rfl) (by kernel_rfl) k A2a (fun n => f219 (Ahq c k n)) (fun L _ _ hl => match L, hl with
  | 0, hl => zqnS hl fun _ _ hl => hl
  | 1, hl => zqnS hl fun _ _ hl => hl
  | _ + 2, hl => hl) (fun n => ⟨
  fun f h hl => by
    refine zqrS 0 hl fun _ _ hl => ?_; exact Eq.mpr (A51 ..) hl,
  fun f h hl => by
    refine zqrS 0 hl fun _ _ hl => ?_; exact Eq.mpr (A50 ..) hl,
  trivial⟩) rfl hg
theorem A5z (J : Awv) (n_0 : Int) : zqe c k Bbr Bal (f221 J) d221 Tryz.f221 .root (Ag f 0 (.int .u8 n_0)) h = Adn c k J n_0 h := by kernel_rfl
theorem A9b (hc : zqco c) {n : Nat} {a : List AV} (hg : f221 (Arz c k n) 0 (Ac a) h) : zqs 221 a h k :=
 zqw hc Bbr Tryz.func221 rfl (by kernel_rfl) (by kernel_rfl) k Bal (fun n => f221 (Arz c k n)) (fun L _ _ hl => match L, hl with
  | 0, hl => zqnI hl fun _ hl => hl
  | _ + 1, hl => hl) (fun n => ⟨
  fun f h hl => by
    refine zqrI 0 hl fun _ hl => ?_; exact Eq.mpr (A5z ..) hl,
  trivial⟩) rfl hg
theorem A5y (J : Awu) (l_0 c_0 : Nat) (l_1 c_1 : Nat) : zqe c k Bbq Bak (f224 J) d224 Tryz.f224 .root (Ag (Ag f 0 (.str l_0 c_0)) 1 (.str l_1 c_1)) h = Adm c k J l_0 c_0 l_1 c_1 h := by kernel_rfl
theorem A9a (hc : zqco c) {n : Nat} {a : List AV} (hg : f224 (Ary c k n) 0 (Ac a) h) : zqs 224 a h k :=
 zqw hc Bbq Tryz.func224 rfl (by kernel_rfl) (by kernel_rfl) k Bak (fun n => f224 (Ary c k n)) (fun L _ _ hl => match L, hl with
  | 0, hl => zqnS hl fun _ _ hl => zqnS hl fun _ _ hl => hl
  | _ + 1, hl => hl) (fun n => ⟨
  fun f h hl => by
    refine zqrS 0 hl fun _ _ hl => ?_; refine zqrS 1 hl fun _ _ hl => ?_; exact Eq.mpr (A5y ..) hl,
  trivial⟩) rfl hg
theorem Bie (hc : zqco c) {m : Nat} {a : List AV} (hg : Kt env c A2z A18 d228 (Hq env Tryz.f228.results.toList k) m 0 (Ac a) h) : zqs 228 a h k := Kw mixed Jy hc A2z Tryz.func228 rfl (by kernel_rfl) (by kernel_rfl) (by kernel_rfl) (by simp [A18]) hg
theorem Bic (hc : zqco c) {m : Nat} {a : List AV} (hg : Kt env c A2x A16 d263 (Hq env Tryz.f263.results.toList k) m 0 (Ac a) h) : zqs 263 a h k := Kw mixed Jy hc A2x Tryz.func263 rfl (by kernel_rfl) (by kernel_rfl) (by kernel_rfl) (by simp [A16]) hg
end Go.Den
