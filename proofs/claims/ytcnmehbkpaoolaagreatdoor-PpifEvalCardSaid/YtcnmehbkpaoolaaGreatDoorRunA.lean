/-
 Proof.
-/
import Derived.Test.YtcnmehbkpaoolaaGreatDoorDenQ
import Derived.Test.YtcnmehbkpaoolaaGreatDoorProg
import Derived.KernelRfl
noncomputable section
namespace Go.Den
open Go.RowKit
def Amv(cuts:Ay)(L:Nat):Pos:=List.rec .root (fun c _ ih=>Bool.rec ih c.1 (Nat.beq c.2 L)) cuts
def Az(E:Env)(call:CF)(pls:Aj)(cuts:Ay)(c0:Code)(K:KX')(m:Nat):Jump:=Nat.rec noJ (fun _ J L f h=>Jd E call pls cuts J c0 K (Amv cuts L) f h) m
def A4d(cuts:Ay):Bool:=Sf (fun c=>Pos.beq (Amv cuts c.2) c.1) cuts
theorem Ba {P : Program} {E : Env} {G : Nat} (hm : P.follows .mixedOrders = true) (ok : Cc P E) {call : CF} (hcall : Gm P (CP E) G (fun p => p) call) (pls : Aj) {fid : FuncId} {fn : Func} {c : Code} (hf : P.funcs[fid]? = some fn) (hb : fn.body = some c) (hname : (fn.name == "runtime.NumGoroutine") = false)
 (hk:Gj P E pls fn.ntmps G true c=true) {k:KV} {cuts:Ay} (hc:A4d cuts=true) (hr:(.root,0)∈cuts) {n:Nat} {args:List AV} {h:H} (hg:Az E call pls cuts c (As E fn.results.toList k) n 0 (Ab args) h):SW P G (.func fid) args h k:=by
 refine Azb hm ok hcall pls hf hb hname hk k cuts (Az E call pls cuts c (As E fn.results.toList k)) (fun _ _ _ h=>h) (fun n p L hl f h hj=>?_) hr hg
 have hp:Amv cuts L=p:=Pos.beq_eq (Fp.1 hc _ hl)
 have hj:Jd E call pls cuts (Az E call pls cuts c (As E fn.results.toList k) n) c (As E fn.results.toList k) (Amv cuts L) f h:=hj
 rwa [hp] at hj
end Go.Den
noncomputable section
namespace Go.Den
open Go.Proofs
set_option maxRecDepth 100000
theorem Vu{f:FT}{d:Nat}{v:AV}(h:f d=v):Ah f d v=f:=by
 funext u
 rw[Hh]
 by_cases e:u=d
 · rw[if_pos e,←h,e]
 · rw[if_neg e]
def env:Env:=Aim Tryz.prog []
def G:Nat:=12
theorem mixed:Tryz.prog.follows .mixedOrders=true:=by kernel_rfl
theorem Bn:Cc Tryz.prog env:=Att (by kernel_rfl)
def Bl3:Ob FT:=rowOf 38 [(.str 0 0),(.int .i64 (Int.ofNat 0)),(.int .i64 (Int.ofNat 0))]
def Aw6:Ob FT:=rowOf 43 [(.int .i64 (Int.ofNat 0)),(.str 0 0),(.bool false),(.str 0 0),(.int .i64 (Int.ofNat 0)),(.int .i64 (Int.ofNat 0)),(.bool false),.Cy]
def Bl2:Ob FT:=rowOf 48 [(.int .i64 (Int.ofNat 0)),(.str 0 0),(.int .i64 (Int.ofNat 0)),(.int .i64 (Int.ofNat 0))]
def Ek:Ob FT:=rowOf 55 [(.int .u64 (Int.ofNat 0)),(.bool false)]
def Bl1:Ob FT:=rowOf 71 [.Cy,.Cy,(.bool false),.Cy]
def Blx:Ob FT:=rowOf 114 [.Cy,(.int .i64 (Int.ofNat 0)),(.int .i64 (Int.ofNat 0)),(.bool false)]
def Blw:Ob FT:=rowOf 132 [(.str 0 0),(.bool false),(.bool false),.Cy,.Cy,(.str 0 0),(.int .i64 (Int.ofNat 0)),(.int .i64 (Int.ofNat 0))]
def Blv:Ob FT:=rowOf 136 [(.str 0 0),(.bool false),(.bool false),.Cy,.Cy,(.str 0 0),(.int .i64 (Int.ofNat 0)),(.int .i64 (Int.ofNat 0))]
def Am3:Ob FT:=rowOf 149 [.Gk,.Cy]
def Blu:Ob FT:=rowOf 201 [.Gk]
def Blt:Ob FT:=rowOf 215 [(.int .i64 (Int.ofNat 0)),(.str 0 0),(.bool false),(.str 0 0),(.int .i64 (Int.ofNat 0)),(.int .i64 (Int.ofNat 0)),(.bool false),.Cy,.Cy]
def Ayw:Ob FT:=rowOf 264 [(.bool false),(.bool false),(.bool false),(.bool false),(.bool false),(.bool false),(.bool false),(.bool false),(.bool false),(.bool false),(.bool false),(.bool false),(.bool false),(.bool false),(.bool false),(.bool false),(.bool false),(.bool false),(.bool false),(.bool false),(.bool false),(.bool false),(.bool false),(.bool false),(.bool false),(.bool false),(.bool false),(.bool false),(.bool false),(.bool false),(.bool false),(.bool false),(.bool false),(.bool false),(.bool false),(.bool false),(.bool false),(.bool false),(.bool false),(.bool false),(.bool false),(.bool false),(.bool false),(.bool false),(.bool false),(.bool false),(.bool false),(.bool false),(.bool false),(.bool false),(.bool false),(.bool false),(.bool false),(.bool false),(.bool false),(.bool false),(.bool false),(.bool false),(.bool false),(.bool false),(.bool false),(.bool false),(.bool false),(.bool false),(.bool false),(.bool false),(.bool false),(.bool false),(.bool false),(.bool false),(.bool false),(.bool false),(.bool false),(.bool false),(.bool false),(.bool false),(.bool false),(.bool false),(.bool false),(.bool false),(.bool false),(.bool false),(.bool false),(.bool false),(.bool false),(.bool false),(.bool false),(.bool false),(.bool false),(.bool false),(.bool false),(.bool false),(.bool false),(.bool false),(.bool false),(.bool false),(.bool false),(.bool false),(.bool false),(.bool false),(.bool false),(.bool false),(.bool false),(.bool false),(.bool false),(.bool false),(.bool false),(.bool false),(.bool false),(.bool false),(.bool false),(.bool false),(.bool false),(.bool false),(.bool false),(.bool false),(.bool false),(.bool false),(.bool false),(.bool false),(.bool false),(.bool false),(.bool false),(.bool false),(.bool false),(.bool false),(.bool false),(.bool false),(.bool false),(.bool false),(.bool false),(.bool false),(.bool false),(.bool false),(.bool false),(.bool false),(.bool false),(.bool false),(.bool false),(.bool false),(.bool false),(.bool false),(.bool false),(.bool false),(.bool false),(.bool false),(.bool false),(.bool false),(.bool false),(.bool false),(.bool false),(.bool false),(.bool false),(.bool false),(.bool false),(.bool false),(.bool false),(.bool false),(.bool false),(.bool false),(.bool false),(.bool false),(.bool false),(.bool false),(.bool false),(.bool false),(.bool false),(.bool false),(.bool false),(.bool false),(.bool false),(.bool false),(.bool false),(.bool false),(.bool false),(.bool false),(.bool false),(.bool false),(.bool false),(.bool false),(.bool false),(.bool false),(.bool false),(.bool false),(.bool false),(.bool false),(.bool false),(.bool false),(.bool false),(.bool false),(.bool false),(.bool false),(.bool false),(.bool false),(.bool false),(.bool false),(.bool false),(.bool false),(.bool false),(.bool false),(.bool false),(.bool false),(.bool false),(.bool false),(.bool false),(.bool false),(.bool false),(.bool false),(.bool false),(.bool false),(.bool false),(.bool false),(.bool false),(.bool false),(.bool false),(.bool false),(.bool false),(.bool false),(.bool false),(.bool false),(.bool false),(.bool false),(.bool false),(.bool false),(.bool false),(.bool false),(.bool false),(.bool false),(.bool false),(.bool false),(.bool false),(.bool false),(.bool false),(.bool false),(.bool false),(.bool false),(.bool false),(.bool false),(.bool false),(.bool false),(.bool false),(.bool false),(.bool false),(.bool false),(.bool false),(.bool false),(.bool false),(.bool false),(.bool false),(.bool false),(.bool false),(.bool false),(.bool false),(.bool false),(.bool false),(.bool false)]
def Bls:Ob FT:=rowOf 391 [.Cy,(.bool false),(.str 0 0),(.int .i64 (Int.ofNat 0)),(.int .i64 (Int.ofNat 0))]
abbrev Be(c:CF):Prop:=Gm Tryz.prog (CP env) G (fun p=>p) c
abbrev zqs(i:Nat)(a:List AV)(h:H)(k:KV):Prop:=SW Tryz.prog G (.func i) a h k
abbrev zqe(c:CF)(k:KV)(q:Aj)(u:Ay)(F:Jump)(d:Code)(fn:Func)(p:Pos)(f:FT)(h:H):Prop:=Jd env c q u F d (As env fn.results.toList k) p f h
theorem Bp{E:Env}{c:CF}{q:Aj}{u:Ay}{J:Jump}{d:Code}{R:KX'}{p:Pos}{h:H}{f:FT}(i:Nat){t:IntKind}{K:Int→Prop}(hl:asI t (f i) K)(g:∀n,K n→Jd E c q u J d R p (Ah f i (.int t n)) h):Jd E c q u J d R p f h:=by
 obtain⟨n,e,hn⟩:=Rt hl
 have hp:=g n hn
 rwa [Vu e] at hp
theorem Gb{E:Env}{c:CF}{q:Aj}{u:Ay}{J:Jump}{d:Code}{R:KX'}{p:Pos}{h:H}{f:FT}(i:Nat){K:Bool→Prop}(hl:asB (f i) K)(g:∀b,K b→Jd E c q u J d R p (Ah f i (.bool b)) h):Jd E c q u J d R p f h:=by
 obtain⟨n,e,hn⟩:=Hl hl
 have hp:=g n hn
 rwa [Vu e] at hp
theorem Bu{E:Env}{c:CF}{q:Aj}{u:Ay}{J:Jump}{d:Code}{R:KX'}{p:Pos}{h:H}{f:FT}(i:Nat){K:Nat→Nat→Prop}(hl:asS (f i) K)(g:∀a b,K a b→Jd E c q u J d R p (Ah f i (.str a b)) h):Jd E c q u J d R p f h:=by
 obtain⟨a,b,e,hn⟩:=Kx hl
 have hp:=g a b hn
 rwa [Vu e] at hp
theorem Bq{t:IntKind}{v:AV}{K:Int→Prop}(hl:asI t v K)(h:∀n,K n→False):False:=by
 obtain⟨_,_,e⟩:=Rt hl
 exact h _ e
theorem Gc{v:AV}{K:Bool→Prop}(hl:asB v K)(h:∀n,K n→False):False:=by
 obtain⟨_,_,e⟩:=Hl hl
 exact h _ e
theorem Bv{v:AV}{K:Nat→Nat→Prop}(hl:asS v K)(h:∀l c,K l c→False):False:=by
 obtain⟨_,_,_,e⟩:=Kx hl
 exact h _ _ e
def zqA(Q:Pos→Nat→Prop):Ay→Prop
 |[]=>True
 |p::t=>Q p.1 p.2∧zqA Q t
theorem zqa{Q:Pos→Nat→Prop}:∀{l:Ay},zqA Q l→∀p L,(p,L)∈l→Q p L
 |_::_,⟨a,_⟩,_,_,.head _=>a
 |_::_,⟨_,b⟩,_,_,.tail _ h=>zqa b _ _ h
theorem zqw {c : CF} (hc : Be c) (q : Aj) {i : Nat} {fn : Func} {d : Code} (hf : Tryz.prog.funcs[i]? = some fn) (hb : fn.body = some d) (hn : (fn.name == "runtime.NumGoroutine") = false) (ho : Gj Tryz.prog env q fn.ntmps G true d = true) (k : KV) (u : Ay) (J : Nat → Jump) (hz : ∀ L f h, ¬ J 0 L f h) (hs : ∀ n, zqA (fun p L => ∀ f h, J (n + 1) L f h → Jd env c q u (J n) d (As env fn.results.toList k) p f h) u) (hr : u.head? = some (.root, 0)) {n : Nat} {a : List AV} {h : H} (hg : J n 0 (Ab a) h) : zqs i a h k :=
 Azb mixed Bn hc q hf hb hn ho k u J hz (fun n=>zqa (hs n)) (List.mem_of_mem_head? hr) hg
end Go.Den
