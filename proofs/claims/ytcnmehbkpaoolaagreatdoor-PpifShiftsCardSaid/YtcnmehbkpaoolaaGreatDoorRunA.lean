/-
  A part of the proof: the tables of the program.
-/
import Derived.Test.YtcnmehbkpaoolaaGreatDoorDenQ
import Derived.Test.YtcnmehbkpaoolaaGreatDoorProg
import Derived.KernelRfl
noncomputable section
namespace Go.Den
open Go.RowKit
def Alj (cuts : Ax) (L : Nat) : Pos := List.rec .root (fun c _ ih => Bool.rec ih c.1 (Nat.beq c.2 L)) cuts
def Az (E : Env) (call : CF) (pls : An) (cuts : Ax) (c0 : Code) (K : KX') (m : Nat) : Jump := Nat.rec noJ (fun _ J L f h => Ix E call pls cuts J c0 K (Alj cuts L) f h) m
def A2j (cuts : Ax) : Bool := Ri (fun c => Pos.beq (Alj cuts c.2) c.1) cuts
theorem Ba {P : Program} {E : Env} {G : Nat} (hm : P.follows .mixedOrders = true) (ok : Bs P E) {call : CF} (hcall : Gb P (CP E) G (fun p => p) call) (pls : An) {fid : FuncId} {fn : Func} {c : Code} (hf : P.funcs[fid]? = some fn) (hb : fn.body = some c) (hname : (fn.name == "runtime.NumGoroutine") = false)
    (hk : Gi P E pls fn.ntmps G true c = true) {k : KV} {cuts : Ax} (hc : A2j cuts = true) (hr : (.root, 0) ∈ cuts) {n : Nat} {args : List AV} {h : H} (hg : Az E call pls cuts c (Aw E fn.results.toList k) n 0 (Ab args) h) : SW P G (.func fid) args h k := by
  refine Ayb hm ok hcall pls hf hb hname hk k cuts (Az E call pls cuts c (Aw E fn.results.toList k)) (fun _ _ _ h => h) (fun n p L hl f h hj => ?_) hr hg
  have hp : Alj cuts L = p := Pos.beq_eq (Fi.1 hc _ hl)
  have hj : Ix E call pls cuts (Az E call pls cuts c (Aw E fn.results.toList k) n) c (Aw E fn.results.toList k) (Alj cuts L) f h := hj
  rwa [hp] at hj
end Go.Den
noncomputable section
namespace Go.Den
open Go.Proofs
set_option maxRecDepth 100000
theorem Vf {f : FT} {d : Nat} {v : AV} (h : f d = v) : Af f d v = f := by
  funext u
  rw [Gp]
  by_cases e : u = d
  · rw [if_pos e, ← h, e]
  · rw [if_neg e]
def env : Env := Aho Tryz.prog []
def G : Nat := 12
theorem mixed : Tryz.prog.follows .mixedOrders = true := by kernel_rfl
theorem Br : Bs Tryz.prog env := Ase (by kernel_rfl)
def Aqm : Ob FT := rowOf 38 [(.str 0 0), (.int .i64 (Int.ofNat 0)), (.int .i64 (Int.ofNat 0))]
def A93 : Ob FT := rowOf 43 [(.int .i64 (Int.ofNat 0)), (.str 0 0), (.bool false), (.str 0 0), (.int .i64 (Int.ofNat 0)), (.int .i64 (Int.ofNat 0)), (.bool false), .Cd]
def Bjv : Ob FT := rowOf 48 [(.int .i64 (Int.ofNat 0)), (.str 0 0), (.int .i64 (Int.ofNat 0)), (.int .i64 (Int.ofNat 0))]
def Dd : Ob FT := rowOf 55 [(.int .u64 (Int.ofNat 0)), (.bool false)]
def Bju : Ob FT := rowOf 71 [.Cd, .Cd, (.bool false), .Cd]
def Aqn : Ob FT := rowOf 114 [.Cd, (.int .i64 (Int.ofNat 0)), (.int .i64 (Int.ofNat 0)), (.bool false)]
def Bjr : Ob FT := rowOf 132 [(.str 0 0), (.bool false), (.bool false), .Cd, .Cd, (.str 0 0), (.int .i64 (Int.ofNat 0)), (.int .i64 (Int.ofNat 0))]
def Bjq : Ob FT := rowOf 136 [(.str 0 0), (.bool false), (.bool false), .Cd, .Cd, (.str 0 0), (.int .i64 (Int.ofNat 0)), (.int .i64 (Int.ofNat 0))]
def Bjp : Ob FT := rowOf 201 [.Jt]
def Bjo : Ob FT := rowOf 215 [(.int .i64 (Int.ofNat 0)), (.str 0 0), (.bool false), (.str 0 0), (.int .i64 (Int.ofNat 0)), (.int .i64 (Int.ofNat 0)), (.bool false), .Cd, .Cd]
def Ax1 : Ob FT := rowOf 264 [(.bool false), (.bool false), (.bool false), (.bool false), (.bool false), (.bool false), (.bool false), (.bool false), (.bool false), (.bool false), (.bool false), (.bool false), (.bool false), (.bool false), (.bool false), (.bool false), (.bool false), (.bool false), (.bool false), (.bool false), (.bool false), (.bool false), (.bool false), (.bool false), (.bool false), (.bool false), (.bool false), (.bool false), (.bool false), (.bool false), (.bool false), (.bool false), (.bool false), (.bool false), (.bool false), (.bool false), (.bool false), (.bool false), (.bool false), (.bool false), (.bool false), (.bool false), (.bool false), (.bool false), (.bool false), (.bool false), (.bool false), (.bool false), (.bool false), (.bool false), (.bool false), (.bool false), (.bool false), (.bool false), (.bool false), (.bool false), (.bool false), (.bool false), (.bool false), (.bool false), (.bool false), (.bool false), (.bool false), (.bool false), (.bool false), (.bool false), (.bool false), (.bool false), (.bool false), (.bool false), (.bool false), (.bool false), (.bool false), (.bool false), (.bool false), (.bool false), (.bool false), (.bool false), (.bool false), (.bool false), (.bool false), (.bool false), (.bool false), (.bool false), (.bool false), (.bool false), (.bool false), (.bool false), (.bool false), (.bool false), (.bool false), (.bool false), (.bool false), (.bool false), (.bool false), (.bool false), (.bool false), (.bool false), (.bool false), (.bool false), (.bool false), (.bool false), (.bool false), (.bool false), (.bool false), (.bool false), (.bool false), (.bool false), (.bool false), (.bool false), (.bool false), (.bool false), (.bool false), (.bool false), (.bool false), (.bool false), (.bool false), (.bool false), (.bool false), (.bool false), (.bool false), (.bool false), (.bool false), (.bool false), (.bool false), (.bool false), (.bool false), (.bool false), (.bool false), (.bool false), (.bool false), (.bool false), (.bool false), (.bool false), (.bool false), (.bool false), (.bool false), (.bool false), (.bool false), (.bool false), (.bool false), (.bool false), (.bool false), (.bool false), (.bool false), (.bool false), (.bool false), (.bool false), (.bool false), (.bool false), (.bool false), (.bool false), (.bool false), (.bool false), (.bool false), (.bool false), (.bool false), (.bool false), (.bool false), (.bool false), (.bool false), (.bool false), (.bool false), (.bool false), (.bool false), (.bool false), (.bool false), (.bool false), (.bool false), (.bool false), (.bool false), (.bool false), (.bool false), (.bool false), (.bool false), (.bool false), (.bool false), (.bool false), (.bool false), (.bool false), (.bool false), (.bool false), (.bool false), (.bool false), (.bool false), (.bool false), (.bool false), (.bool false), (.bool false), (.bool false), (.bool false), (.bool false), (.bool false), (.bool false), (.bool false), (.bool false), (.bool false), (.bool false), (.bool false), (.bool false), (.bool false), (.bool false), (.bool false), (.bool false), (.bool false), (.bool false), (.bool false), (.bool false), (.bool false), (.bool false), (.bool false), (.bool false), (.bool false), (.bool false), (.bool false), (.bool false), (.bool false), (.bool false), (.bool false), (.bool false), (.bool false), (.bool false), (.bool false), (.bool false), (.bool false), (.bool false), (.bool false), (.bool false), (.bool false), (.bool false), (.bool false), (.bool false), (.bool false), (.bool false), (.bool false), (.bool false), (.bool false), (.bool false), (.bool false), (.bool false), (.bool false), (.bool false), (.bool false), (.bool false), (.bool false), (.bool false), (.bool false), (.bool false), (.bool false), (.bool false), (.bool false), (.bool false), (.bool false), (.bool false), (.bool false), (.bool false)]
def Bjn : Ob FT := rowOf 391 [.Cd, (.bool false), (.str 0 0), (.int .i64 (Int.ofNat 0)), (.int .i64 (Int.ofNat 0))]
abbrev Bg (c : CF) : Prop := Gb Tryz.prog (CP env) G (fun p => p) c
abbrev zqs (i : Nat) (a : List AV) (h : H) (k : KV) : Prop := SW Tryz.prog G (.func i) a h k
abbrev zqe (c : CF) (k : KV) (q : An) (u : Ax) (F : Jump) (d : Code) (fn : Func) (p : Pos) (f : FT) (h : H) : Prop := Ix env c q u F d (Aw env fn.results.toList k) p f h
theorem Bi {E : Env} {c : CF} {q : An} {u : Ax} {J : Jump} {d : Code} {R : KX'} {p : Pos} {h : H} {f : FT} (i : Nat) {t : IntKind} {K : Int → Prop} (hl : asI t (f i) K) (g : ∀ n, K n → Ix E c q u J d R p (Af f i (.int t n)) h) : Ix E c q u J d R p f h := by
  obtain ⟨n, e, hn⟩ := Rb hl
  have hp := g n hn
  rwa [Vf e] at hp
theorem Cw {E : Env} {c : CF} {q : An} {u : Ax} {J : Jump} {d : Code} {R : KX'} {p : Pos} {h : H} {f : FT} (i : Nat) {K : Bool → Prop} (hl : asB (f i) K) (g : ∀ b, K b → Ix E c q u J d R p (Af f i (.bool b)) h) : Ix E c q u J d R p f h := by
  obtain ⟨n, e, hn⟩ := Gq hl
  have hp := g n hn
  rwa [Vf e] at hp
theorem Cp {E : Env} {c : CF} {q : An} {u : Ax} {J : Jump} {d : Code} {R : KX'} {p : Pos} {h : H} {f : FT} (i : Nat) {K : Nat → Nat → Prop} (hl : asS (f i) K) (g : ∀ a b, K a b → Ix E c q u J d R p (Af f i (.str a b)) h) : Ix E c q u J d R p f h := by
  obtain ⟨a, b, e, hn⟩ := Km hl
  have hp := g a b hn
  rwa [Vf e] at hp
theorem Bj {t : IntKind} {v : AV} {K : Int → Prop} (hl : asI t v K) (h : ∀ n, K n → False) : False := by
  obtain ⟨_, _, e⟩ := Rb hl
  exact h _ e
theorem Cy {v : AV} {K : Bool → Prop} (hl : asB v K) (h : ∀ n, K n → False) : False := by
  obtain ⟨_, _, e⟩ := Gq hl
  exact h _ e
theorem Cq {v : AV} {K : Nat → Nat → Prop} (hl : asS v K) (h : ∀ l c, K l c → False) : False := by
  obtain ⟨_, _, _, e⟩ := Km hl
  exact h _ _ e
def zqA (Q : Pos → Nat → Prop) : Ax → Prop
  | [] => True
  | p :: t => Q p.1 p.2 ∧ zqA Q t
theorem zqa {Q : Pos → Nat → Prop} : ∀ {l : Ax}, zqA Q l → ∀ p L, (p, L) ∈ l → Q p L
  | _ :: _, ⟨a, _⟩, _, _, .head _ => a
  | _ :: _, ⟨_, b⟩, _, _, .tail _ h => zqa b _ _ h
theorem zqw {c : CF} (hc : Bg c) (q : An) {i : Nat} {fn : Func} {d : Code} (hf : Tryz.prog.funcs[i]? = some fn) (hb : fn.body = some d) (hn : (fn.name == "runtime.NumGoroutine") = false) (ho : Gi Tryz.prog env q fn.ntmps G true d = true) (k : KV) (u : Ax) (J : Nat → Jump) (hz : ∀ L f h, ¬ J 0 L f h) (hs : ∀ n, zqA (fun p L => ∀ f h, J (n + 1) L f h → Ix env c q u (J n) d (Aw env fn.results.toList k) p f h) u) (hr : u.head? = some (.root, 0)) {n : Nat} {a : List AV} {h : H} (hg : J n 0 (Ab a) h) : zqs i a h k :=
  Ayb mixed Br hc q hf hb hn ho k u J hz (fun n => zqa (hs n)) (List.mem_of_mem_head? hr) hg
end Go.Den
