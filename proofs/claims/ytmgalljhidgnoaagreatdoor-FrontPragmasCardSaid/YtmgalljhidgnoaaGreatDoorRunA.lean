/-
 Proof. the tables of the program.
-/
import Derived.Test.YtmgalljhidgnoaaGreatDoorItp
import Derived.Test.YtmgalljhidgnoaaGreatDoorProg
import Derived.KernelRfl
open Int renaming ofNat → vJ
noncomputable section
namespace Go.Den
open Go.Proofs
set_option maxRecDepth 100000
theorem JE{f:FT}{d:Nat}{v:U}(h:f d=v):Aq f d v=f:=by
 funext u;rw[EE];by_cases e:u=d
 · rw[if_pos e,←h,e]
 · rw[if_neg e]
def env:Env:=SQ Tryz.prog []
def G:Nat:=9
theorem mixed:Tryz.prog.follows .mixedOrders=true:=by kernel_rfl
theorem AO:Bt Tryz.prog env:=jH (by kernel_rfl)
def ob4:Ob FT:=rowOf 4 [(.bool false)]
def Big:Ob FT:=rowOf 32 [.Af]
def qt:Ob FT:=rowOf 34 [.Af,.Af,.Af,.Af,(.bool false)]
def lL:Ob FT:=rowOf 43 [.Af,(.int .i64 (vJ 0)),(.int .i64 (vJ 0)),(.bool false)]
def Mz:Ob FT:=rowOf 45 [(.str 0 0),(.int .i64 (vJ 0)),(.int .i64 (vJ 0))]
def Kw:Ob FT:=rowOf 48 [(.int .i64 (vJ 0)),(.str 0 0),(.bool false),(.str 0 0),(.int .i64 (vJ 0)),(.int .i64 (vJ 0)),(.bool false),.Af]
def Bih:Ob FT:=rowOf 52 [(.int .i64 (vJ 0)),(.str 0 0),(.int .i64 (vJ 0)),(.int .i64 (vJ 0))]
def tF:Ob FT:=rowOf 110 [.Af,.Af,.Af]
def Auj:Ob FT:=rowOf 116 [.Af,.Af,(.bool false),.Af]
def Avk:Ob FT:=rowOf 117 [.Bn]
def dm:Ob FT:=rowOf 131 [(.int .i64 (vJ 0)),(.str 0 0),(.bool false),(.str 0 0),(.int .i64 (vJ 0)),(.int .i64 (vJ 0)),(.bool false),.Af,.Af]
def MQ:Ob FT:=rowOf 157 [.Af,(.int .i64 (vJ 0)),(.int .i64 (vJ 0)),(.bool false)]
def Kg:Ob FT:=rowOf 172 [(.int .u8 (vJ 0)),(.int .i64 (vJ 0)),(.int .i64 (vJ 0))]
def Is:Ob FT:=rowOf 197 [.Bn,.Af]
def Bib:Ob FT:=rowOf 223 [(.str 0 0),(.bool false),(.bool false),.Af,.Af,(.str 0 0),(.int .i64 (vJ 0)),(.int .i64 (vJ 0))]
def Bid:Ob FT:=rowOf 313 [.Af,(.bool false),(.str 0 0),(.int .i64 (vJ 0)),(.int .i64 (vJ 0))]
def Bif:Ob FT:=rowOf 329 [(.int .u64 (vJ 0)),(.bool false)]
def Bia:Ob FT:=rowOf 333 [(.str 0 0),(.bool false)]
def Bic:Ob FT:=rowOf 416 [(.bool false),(.bool false),(.bool false),(.bool false),(.bool false),(.bool false),(.bool false),(.bool false),(.bool false),(.bool false),(.bool false),(.bool false),(.bool false),(.bool false),(.bool false),(.bool false),(.bool false),(.bool false),(.bool false),(.bool false),(.bool false),(.bool false),(.bool false),(.bool false),(.bool false),(.bool false),(.bool false),(.bool false),(.bool false),(.bool false),(.bool false),(.bool false),(.bool false),(.bool false),(.bool false),(.bool false),(.bool false),(.bool false),(.bool false),(.bool false),(.bool false),(.bool false),(.bool false),(.bool false),(.bool false),(.bool false),(.bool false),(.bool false),(.bool false),(.bool false),(.bool false),(.bool false),(.bool false),(.bool false),(.bool false),(.bool false),(.bool false),(.bool false),(.bool false),(.bool false),(.bool false),(.bool false),(.bool false),(.bool false),(.bool false),(.bool false),(.bool false),(.bool false),(.bool false),(.bool false),(.bool false),(.bool false),(.bool false),(.bool false),(.bool false),(.bool false),(.bool false),(.bool false),(.bool false),(.bool false),(.bool false),(.bool false),(.bool false),(.bool false),(.bool false),(.bool false),(.bool false),(.bool false),(.bool false),(.bool false),(.bool false),(.bool false),(.bool false),(.bool false),(.bool false),(.bool false),(.bool false),(.bool false),(.bool false),(.bool false),(.bool false),(.bool false),(.bool false),(.bool false),(.bool false),(.bool false),(.bool false),(.bool false),(.bool false),(.bool false),(.bool false),(.bool false),(.bool false),(.bool false),(.bool false),(.bool false),(.bool false),(.bool false),(.bool false),(.bool false),(.bool false),(.bool false),(.bool false),(.bool false),(.bool false),(.bool false),(.bool false),(.bool false),(.bool false),(.bool false),(.bool false),(.bool false),(.bool false),(.bool false),(.bool false),(.bool false),(.bool false),(.bool false),(.bool false),(.bool false),(.bool false),(.bool false),(.bool false),(.bool false),(.bool false),(.bool false),(.bool false),(.bool false),(.bool false),(.bool false),(.bool false),(.bool false),(.bool false),(.bool false),(.bool false),(.bool false),(.bool false),(.bool false),(.bool false),(.bool false),(.bool false),(.bool false),(.bool false),(.bool false),(.bool false),(.bool false),(.bool false),(.bool false),(.bool false),(.bool false),(.bool false),(.bool false),(.bool false),(.bool false),(.bool false),(.bool false),(.bool false),(.bool false),(.bool false),(.bool false),(.bool false),(.bool false),(.bool false),(.bool false),(.bool false),(.bool false),(.bool false),(.bool false),(.bool false),(.bool false),(.bool false),(.bool false),(.bool false),(.bool false),(.bool false),(.bool false),(.bool false),(.bool false),(.bool false),(.bool false),(.bool false),(.bool false),(.bool false),(.bool false),(.bool false),(.bool false),(.bool false),(.bool false),(.bool false),(.bool false),(.bool false),(.bool false),(.bool false),(.bool false),(.bool false),(.bool false),(.bool false),(.bool false),(.bool false),(.bool false),(.bool false),(.bool false),(.bool false),(.bool false),(.bool false),(.bool false),(.bool false),(.bool false),(.bool false),(.bool false),(.bool false),(.bool false),(.bool false),(.bool false),(.bool false),(.bool false),(.bool false),(.bool false),(.bool false),(.bool false),(.bool false),(.bool false),(.bool false),(.bool false),(.bool false),(.bool false),(.bool false),(.bool false),(.bool false),(.bool false),(.bool false),(.bool false),(.bool false),(.bool false),(.bool false),(.bool false)]
abbrev Ay(c:CF):Prop:=C4 Tryz.prog (CP env) G (λp=>p) c
abbrev Al(i:Nat)(a:List U)(h:H)(k:KV):Prop:=SW Tryz.prog G (.func i) a h k
abbrev pc(i:Nat)(a:List U)(h:H)(k:KV):Prop:=SWD Tryz.prog G i a h k
abbrev Bb(c:CF)(k:KV)(q:Ak)(u:As)(F:Jump)(d:Code)(fn:Func)(p:Pos)(f:FT)(h:H):Prop:=EL env c q u F d (Ax env fn.results.toList k) p f h
theorem AU{a:Env}{b:CF}{q:Ak}{c:As}{J:Jump}{d:Code}{g:Fp}{p:Pos}{h:H}{f:FT}(i:Nat){t:IntKind}{K:Int→Prop}(j:Ar t (f i) K)(k:∀n,K n→EL a b q c J d g p (Aq f i (.int t n)) h):EL a b q c J d g p f h:=by obtain⟨n,e,l⟩:=Ja j;have m:=k n l;rwa [JE e] at m
theorem Ha{a:Env}{b:CF}{q:Ak}{c:As}{J:Jump}{d:Code}{g:Fp}{p:Pos}{h:H}{f:FT}(i:Nat){K:Bool→Prop}(j:Be (f i) K)(k:∀l,K l→EL a b q c J d g p (Aq f i (.bool l)) h):EL a b q c J d g p f h:=by obtain⟨n,e,m⟩:=Ec j;have o:=k n m;rwa [JE e] at o
theorem BT{b:Env}{c:CF}{q:Ak}{d:As}{J:Jump}{g:Code}{h:Fp}{p:Pos}{i:H}{f:FT}(j:Nat){K:Nat→Nat→Prop}(k:Bv (f j) K)(l:∀a m,K a m→EL b c q d J g h p (Aq f j (.str a m)) i):EL b c q d J g h p f i:=by obtain⟨a,m,e,n⟩:=Gx k;have o:=l a m n;rwa [JE e] at o
theorem AT{t:IntKind}{v:U}{K:Int→Prop}(a:Ar t v K)(b:∀n,K n→False):False:=by obtain⟨_,_,e⟩:=Ja a;exact b _ e
theorem Hh{v:U}{K:Bool→Prop}(a:Be v K)(b:∀n,K n→False):False:=by obtain⟨_,_,e⟩:=Ec a;exact b _ e
theorem BV{v:U}{K:Nat→Nat→Prop}(a:Bv v K)(b:∀l c,K l c→False):False:=by obtain⟨_,_,_,e⟩:=Gx a;exact b _ _ e
def zqA(Q:Pos→Nat→Prop):As→Prop
 |[]=>True
 |p::t=>Q p.1 p.2∧zqA Q t
theorem zqa{Q:Pos→Nat→Prop}:∀{l:As},zqA Q l→∀p L,(p,L)∈l→Q p L
 |_::_,⟨a,_⟩,_,_,.head _=>a
 |_::_,⟨_,b⟩,_,_,.tail _ h=>zqa b _ _ h
theorem BR {b : CF} (c : Ay b) (q : Ak) {d : Nat} {fn : Func} {g : Code} (h : Tryz.prog.funcs[d]? = some fn) (i : fn.body = some g) (j : (fn.name == "runtime.NumGoroutine") = false) (k : DN Tryz.prog env q fn.ntmps G true g = true) (l : KV) (m : As) (J : Nat → Jump) (o : ∀ r f s, ¬ J 0 r f s) (t : ∀ n, zqA (λp r => ∀ f s, J (n + 1) r f s → EL env b q m (J n) g (Ax env fn.results.toList l) p f s) m) (u : m.head? = some (.root, 0)) {n : Nat} {a : List U} {s : H} (v : J n 0 (Ab a) s) : Al d a s l :=
 pH mixed AO c q h i j k l m J o (λn=>zqa (t n)) (List.mem_of_mem_head? u) v
theorem Aoa {b : CF} (c : Ay b) (q : Ak) {d : Nat} {fn : Func} {g : Code} (h : Tryz.prog.funcs[d]? = some fn) (i : fn.body = some g) (j : (fn.name == "runtime.NumGoroutine") = false) (k : DN Tryz.prog env q fn.ntmps G true g = true) (l : KV) (m : As) (J : Nat → Jump) (o : ∀ r f s, ¬ J 0 r f s) (t : ∀ n, zqA (λp r => ∀ f s, J (n + 1) r f s → EL env b q m (J n) g (Ax env fn.results.toList l) p f s) m) (u : m.head? = some (.root, 0)) {n : Nat} {a : List U} {s : H} (v : J n 0 (Ab a) s) : pc d a s l :=
 Ahw mixed AO c q h i j k l m J o (λn=>zqa (t n)) (List.mem_of_mem_head? u) v
end Go.Den
