/-
 Proof. the tables of the program.
-/
import Derived.Test.YtheajahjkmfeaaaGreatDoorItp
import Derived.Test.YtheajahjkmfeaaaGreatDoorProg
import Derived.KernelRfl
noncomputable section
namespace Go.Den
open Go.Proofs
set_option maxRecDepth 100000
theorem Li{f:FT}{d:Nat}{v:AV}(h:f d=v):Ao f d v=f:=by
 funext u
 rw[Hr]
 by_cases e:u=d
 · rw[if_pos e,←h,e]
 · rw[if_neg e]
def env:Env:=Ai9 Tryz.prog []
def G:Nat:=9
theorem mixed:Tryz.prog.follows .mixedOrders=true:=by kernel_rfl
theorem Dn:Cg Tryz.prog env:=Awj (by kernel_rfl)
def ob4:Ob FT:=rowOf 4 [(.bool false)]
def A7j:Ob FT:=rowOf 34 [.Ai,.Ai,.Ai,.Ai,(.bool false)]
def Aak:Ob FT:=rowOf 41 [(.str 0 0),(.int .i64 (Int.ofNat 0)),(.int .i64 (Int.ofNat 0))]
def Aaj:Ob FT:=rowOf 44 [(.int .i64 (Int.ofNat 0)),(.str 0 0),(.bool false),(.str 0 0),(.int .i64 (Int.ofNat 0)),(.int .i64 (Int.ofNat 0)),(.bool false),.Ai]
def Bpp:Ob FT:=rowOf 73 [(.str 0 0),(.str 0 0),(.int .i64 (Int.ofNat 0)),(.int .i64 (Int.ofNat 0)),(.bool false)]
def A25:Ob FT:=rowOf 105 [.Ai,.Ai,.Ai]
def Bd9:Ob FT:=rowOf 111 [.Ai,.Ai,(.bool false),.Ai]
def Bd8:Ob FT:=rowOf 112 [.Cm]
def Aun:Ob FT:=rowOf 124 [(.int .i64 (Int.ofNat 0)),(.str 0 0),(.bool false),(.str 0 0),(.int .i64 (Int.ofNat 0)),(.int .i64 (Int.ofNat 0)),(.bool false),.Ai,.Ai]
def Aal:Ob FT:=rowOf 150 [.Ai,(.int .i64 (Int.ofNat 0)),(.int .i64 (Int.ofNat 0)),(.bool false)]
def Ut:Ob FT:=rowOf 165 [(.int .u8 (Int.ofNat 0)),(.int .i64 (Int.ofNat 0)),(.int .i64 (Int.ofNat 0))]
def Xs:Ob FT:=rowOf 183 [.Cm,.Ai]
def Bpk:Ob FT:=rowOf 206 [(.int .i64 (Int.ofNat 0)),(.str 0 0),(.int .i64 (Int.ofNat 0)),(.int .i64 (Int.ofNat 0))]
def Bpj:Ob FT:=rowOf 219 [(.str 0 0),(.bool false),(.bool false),.Ai,.Ai,(.str 0 0),(.int .i64 (Int.ofNat 0)),(.int .i64 (Int.ofNat 0))]
def Bpi:Ob FT:=rowOf 308 [.Ai,(.bool false),(.str 0 0),(.int .i64 (Int.ofNat 0)),(.int .i64 (Int.ofNat 0))]
abbrev Bi(c:CF):Prop:=Fb Tryz.prog (CP env) G (fun p=>p) c
abbrev zqs(i:Nat)(a:List AV)(h:H)(k:KV):Prop:=SW Tryz.prog G (.func i) a h k
abbrev A4l(i:Nat)(a:List AV)(h:H)(k:KV):Prop:=SWD Tryz.prog G i a h k
abbrev zqe(c:CF)(k:KV)(q:Aq)(u:Bb)(F:Jump)(d:Code)(fn:Func)(p:Pos)(f:FT)(h:H):Prop:=Il env c q u F d (Cr env fn.results.toList k) p f h
theorem By{E:Env}{c:CF}{q:Aq}{u:Bb}{J:Jump}{d:Code}{R:KX'}{p:Pos}{h:H}{f:FT}(i:Nat){t:IntKind}{K:Int→Prop}(hl:asI t (f i) K)(g:∀n,K n→Il E c q u J d R p (Ao f i (.int t n)) h):Il E c q u J d R p f h:=by
 obtain⟨n,e,hn⟩:=Si hl
 have hp:=g n hn
 rwa [Li e] at hp
theorem Ya{E:Env}{c:CF}{q:Aq}{u:Bb}{J:Jump}{d:Code}{R:KX'}{p:Pos}{h:H}{f:FT}(i:Nat){K:Bool→Prop}(hl:asB (f i) K)(g:∀b,K b→Il E c q u J d R p (Ao f i (.bool b)) h):Il E c q u J d R p f h:=by
 obtain⟨n,e,hn⟩:=Gx hl
 have hp:=g n hn
 rwa [Li e] at hp
theorem Dk{E:Env}{c:CF}{q:Aq}{u:Bb}{J:Jump}{d:Code}{R:KX'}{p:Pos}{h:H}{f:FT}(i:Nat){K:Nat→Nat→Prop}(hl:asS (f i) K)(g:∀a b,K a b→Il E c q u J d R p (Ao f i (.str a b)) h):Il E c q u J d R p f h:=by
 obtain⟨a,b,e,hn⟩:=Lb hl
 have hp:=g a b hn
 rwa [Li e] at hp
theorem Bz{t:IntKind}{v:AV}{K:Int→Prop}(hl:asI t v K)(h:∀n,K n→False):False:=by
 obtain⟨_,_,e⟩:=Si hl
 exact h _ e
theorem Yb{v:AV}{K:Bool→Prop}(hl:asB v K)(h:∀n,K n→False):False:=by
 obtain⟨_,_,e⟩:=Gx hl
 exact h _ e
theorem Dl{v:AV}{K:Nat→Nat→Prop}(hl:asS v K)(h:∀l c,K l c→False):False:=by
 obtain⟨_,_,_,e⟩:=Lb hl
 exact h _ _ e
def zqA(Q:Pos→Nat→Prop):Bb→Prop
 |[]=>True
 |p::t=>Q p.1 p.2∧zqA Q t
theorem zqa{Q:Pos→Nat→Prop}:∀{l:Bb},zqA Q l→∀p L,(p,L)∈l→Q p L
 |_::_,⟨a,_⟩,_,_,.head _=>a
 |_::_,⟨_,b⟩,_,_,.tail _ h=>zqa b _ _ h
theorem zqw {c : CF} (hc : Bi c) (q : Aq) {i : Nat} {fn : Func} {d : Code} (hf : Tryz.prog.funcs[i]? = some fn) (hb : fn.body = some d) (hn : (fn.name == "runtime.NumGoroutine") = false) (ho : Gk Tryz.prog env q fn.ntmps G true d = true) (k : KV) (u : Bb) (J : Nat → Jump) (hz : ∀ L f h, ¬ J 0 L f h) (hs : ∀ n, zqA (fun p L => ∀ f h, J (n + 1) L f h → Il env c q u (J n) d (Cr env fn.results.toList k) p f h) u) (hr : u.head? = some (.root, 0)) {n : Nat} {a : List AV} {h : H} (hg : J n 0 (Ab a) h) : zqs i a h k :=
 A3l mixed Dn hc q hf hb hn ho k u J hz (fun n=>zqa (hs n)) (List.mem_of_mem_head? hr) hg
theorem Bbn {c : CF} (hc : Bi c) (q : Aq) {i : Nat} {fn : Func} {d : Code} (hf : Tryz.prog.funcs[i]? = some fn) (hb : fn.body = some d) (hn : (fn.name == "runtime.NumGoroutine") = false) (ho : Gk Tryz.prog env q fn.ntmps G true d = true) (k : KV) (u : Bb) (J : Nat → Jump) (hz : ∀ L f h, ¬ J 0 L f h) (hs : ∀ n, zqA (fun p L => ∀ f h, J (n + 1) L f h → Il env c q u (J n) d (Cr env fn.results.toList k) p f h) u) (hr : u.head? = some (.root, 0)) {n : Nat} {a : List AV} {h : H} (hg : J n 0 (Ab a) h) : A4l i a h k :=
 A8v mixed Dn hc q hf hb hn ho k u J hz (fun n=>zqa (hs n)) (List.mem_of_mem_head? hr) hg
end Go.Den
