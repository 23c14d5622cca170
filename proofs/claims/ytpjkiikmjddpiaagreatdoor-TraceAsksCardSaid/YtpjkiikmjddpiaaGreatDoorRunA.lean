/-
  A part of the proof: the tables of the program.
-/
import Derived.Test.YtpjkiikmjddpiaaGreatDoorItp
import Derived.Test.YtpjkiikmjddpiaaGreatDoorProg
import Derived.KernelRfl
namespace Go.Den
set_option maxRecDepth 100000
theorem fset_self{f:FT}{d:Nat}{v:AV}(h:f d=v):fset f d v=f:=by
  funext u
  rw[fset_eq]
  by_cases e:u=d
  · rw[if_pos e,←h,e]
  · rw[if_neg e]
noncomputable def env:Env:=envOf Go.Proofs.Tryz.prog []
def G:Nat:=9
theorem mixed:Go.Proofs.Tryz.prog.follows .mixedOrders=true:=by kernel_rfl
theorem envOk:EnvOk Go.Proofs.Tryz.prog env:=envOk_of (by kernel_rfl)

noncomputable def ob3:Ob FT:=rowOf 3 [(.int .i64 (Int.ofNat 0))]
noncomputable def ob4:Ob FT:=rowOf 4 [(.bool false)]
noncomputable def ob25:Ob FT:=rowOf 25 [(.str 0 0),(.int .i64 (Int.ofNat 0)),(.int .i64 (Int.ofNat 0))]
noncomputable def ob38:Ob FT:=rowOf 38 [(.int .i64 (Int.ofNat 0)),(.str 0 0),(.bool false),(.str 0 0),(.int .i64 (Int.ofNat 0)),(.int .i64 (Int.ofNat 0)),(.bool false),.nils]
noncomputable def ob41:Ob FT:=rowOf 41 [(.str 0 0),(.str 0 0),(.int .i64 (Int.ofNat 0)),(.int .i64 (Int.ofNat 0)),(.bool false)]
noncomputable def ob48:Ob FT:=rowOf 48 [.nils]
noncomputable def ob50:Ob FT:=rowOf 50 [.nils,.nils,.nils,.nils,(.bool false)]
noncomputable def ob116:Ob FT:=rowOf 116 [.nils,.nils,.nils]
noncomputable def ob122:Ob FT:=rowOf 122 [.nils,.nils,(.bool false),.nils]
noncomputable def ob123:Ob FT:=rowOf 123 [.nilp]
noncomputable def ob135:Ob FT:=rowOf 135 [(.int .i64 (Int.ofNat 0)),(.str 0 0),(.bool false),(.str 0 0),(.int .i64 (Int.ofNat 0)),(.int .i64 (Int.ofNat 0)),(.bool false),.nils,.nils]
noncomputable def ob160:Ob FT:=rowOf 160 [.nilp,.nils]
noncomputable def ob163:Ob FT:=rowOf 163 [(.int .u8 (Int.ofNat 0)),(.int .i64 (Int.ofNat 0)),(.int .i64 (Int.ofNat 0))]
noncomputable def ob182:Ob FT:=rowOf 182 [.nils,(.int .i64 (Int.ofNat 0)),(.int .i64 (Int.ofNat 0)),(.bool false)]
noncomputable def ob216:Ob FT:=rowOf 216 [(.int .i64 (Int.ofNat 0)),(.str 0 0),(.int .i64 (Int.ofNat 0)),(.int .i64 (Int.ofNat 0))]
noncomputable def ob229:Ob FT:=rowOf 229 [(.str 0 0),(.bool false),(.bool false),.nils,.nils,(.str 0 0),(.int .i64 (Int.ofNat 0)),(.int .i64 (Int.ofNat 0))]
noncomputable def ob269:Ob FT:=rowOf 269 [(.int .i64 (Int.ofNat 0)),(.int .i64 (Int.ofNat 0))]
noncomputable def ob295:Ob FT:=rowOf 295 [(.int .u64 (Int.ofNat 0))]
noncomputable def ob317:Ob FT:=rowOf 317 [.nils,(.bool false),(.str 0 0),(.int .i64 (Int.ofNat 0)),(.int .i64 (Int.ofNat 0))]
noncomputable def ob326:Ob FT:=rowOf 326 [(.int .u8 (Int.ofNat 0)),(.int .u8 (Int.ofNat 0))]
noncomputable def ob332:Ob FT:=rowOf 332 [(.int .u64 (Int.ofNat 0)),(.bool false)]
noncomputable def ob336:Ob FT:=rowOf 336 [(.str 0 0),(.bool false)]
noncomputable def ob379:Ob FT:=rowOf 379 [(.int .u8 (Int.ofNat 0)),(.int .u8 (Int.ofNat 0)),(.int .u8 (Int.ofNat 0)),(.int .u8 (Int.ofNat 0)),(.int .u8 (Int.ofNat 0)),(.int .u8 (Int.ofNat 0)),(.int .u8 (Int.ofNat 0)),(.int .u8 (Int.ofNat 0)),(.int .u8 (Int.ofNat 0)),(.int .u8 (Int.ofNat 0)),(.int .u8 (Int.ofNat 0)),(.int .u8 (Int.ofNat 0)),(.int .u8 (Int.ofNat 0)),(.int .u8 (Int.ofNat 0)),(.int .u8 (Int.ofNat 0)),(.int .u8 (Int.ofNat 0)),(.int .u8 (Int.ofNat 0)),(.int .u8 (Int.ofNat 0)),(.int .u8 (Int.ofNat 0)),(.int .u8 (Int.ofNat 0)),(.int .u8 (Int.ofNat 0)),(.int .u8 (Int.ofNat 0)),(.int .u8 (Int.ofNat 0)),(.int .u8 (Int.ofNat 0))]
noncomputable def ob404:Ob FT:=rowOf 404 [(.int .u8 (Int.ofNat 0)),(.int .u8 (Int.ofNat 0)),(.int .u8 (Int.ofNat 0)),(.int .u8 (Int.ofNat 0)),(.int .u8 (Int.ofNat 0)),(.int .u8 (Int.ofNat 0)),(.int .u8 (Int.ofNat 0)),(.int .u8 (Int.ofNat 0)),(.int .u8 (Int.ofNat 0)),(.int .u8 (Int.ofNat 0)),(.int .u8 (Int.ofNat 0)),(.int .u8 (Int.ofNat 0)),(.int .u8 (Int.ofNat 0)),(.int .u8 (Int.ofNat 0)),(.int .u8 (Int.ofNat 0)),(.int .u8 (Int.ofNat 0)),(.int .u8 (Int.ofNat 0)),(.int .u8 (Int.ofNat 0)),(.int .u8 (Int.ofNat 0)),(.int .u8 (Int.ofNat 0)),(.int .u8 (Int.ofNat 0)),(.int .u8 (Int.ofNat 0)),(.int .u8 (Int.ofNat 0)),(.int .u8 (Int.ofNat 0)),(.int .u8 (Int.ofNat 0)),(.int .u8 (Int.ofNat 0)),(.int .u8 (Int.ofNat 0)),(.int .u8 (Int.ofNat 0)),(.int .u8 (Int.ofNat 0)),(.int .u8 (Int.ofNat 0)),(.int .u8 (Int.ofNat 0)),(.int .u8 (Int.ofNat 0)),(.int .u8 (Int.ofNat 0)),(.int .u8 (Int.ofNat 0)),(.int .u8 (Int.ofNat 0)),(.int .u8 (Int.ofNat 0)),(.int .u8 (Int.ofNat 0)),(.int .u8 (Int.ofNat 0)),(.int .u8 (Int.ofNat 0)),(.int .u8 (Int.ofNat 0)),(.int .u8 (Int.ofNat 0)),(.int .u8 (Int.ofNat 0)),(.int .u8 (Int.ofNat 0)),(.int .u8 (Int.ofNat 0)),(.int .u8 (Int.ofNat 0)),(.int .u8 (Int.ofNat 0)),(.int .u8 (Int.ofNat 0)),(.int .u8 (Int.ofNat 0)),(.int .u8 (Int.ofNat 0)),(.int .u8 (Int.ofNat 0)),(.int .u8 (Int.ofNat 0)),(.int .u8 (Int.ofNat 0)),(.int .u8 (Int.ofNat 0)),(.int .u8 (Int.ofNat 0)),(.int .u8 (Int.ofNat 0)),(.int .u8 (Int.ofNat 0)),(.int .u8 (Int.ofNat 0)),(.int .u8 (Int.ofNat 0)),(.int .u8 (Int.ofNat 0)),(.int .u8 (Int.ofNat 0)),(.int .u8 (Int.ofNat 0)),(.int .u8 (Int.ofNat 0)),(.int .u8 (Int.ofNat 0)),(.int .u8 (Int.ofNat 0)),(.int .u8 (Int.ofNat 0))]
noncomputable def ob417:Ob FT:=rowOf 417 [(.bool false),(.bool false),(.bool false),(.bool false),(.bool false),(.bool false),(.bool false),(.bool false),(.bool false),(.bool false),(.bool false),(.bool false),(.bool false),(.bool false),(.bool false),(.bool false),(.bool false),(.bool false),(.bool false),(.bool false),(.bool false),(.bool false),(.bool false),(.bool false),(.bool false),(.bool false),(.bool false),(.bool false),(.bool false),(.bool false),(.bool false),(.bool false),(.bool false),(.bool false),(.bool false),(.bool false),(.bool false),(.bool false),(.bool false),(.bool false),(.bool false),(.bool false),(.bool false),(.bool false),(.bool false),(.bool false),(.bool false),(.bool false),(.bool false),(.bool false),(.bool false),(.bool false),(.bool false),(.bool false),(.bool false),(.bool false),(.bool false),(.bool false),(.bool false),(.bool false),(.bool false),(.bool false),(.bool false),(.bool false),(.bool false),(.bool false),(.bool false),(.bool false),(.bool false),(.bool false),(.bool false),(.bool false),(.bool false),(.bool false),(.bool false),(.bool false),(.bool false),(.bool false),(.bool false),(.bool false),(.bool false),(.bool false),(.bool false),(.bool false),(.bool false),(.bool false),(.bool false),(.bool false),(.bool false),(.bool false),(.bool false),(.bool false),(.bool false),(.bool false),(.bool false),(.bool false),(.bool false),(.bool false),(.bool false),(.bool false),(.bool false),(.bool false),(.bool false),(.bool false),(.bool false),(.bool false),(.bool false),(.bool false),(.bool false),(.bool false),(.bool false),(.bool false),(.bool false),(.bool false),(.bool false),(.bool false),(.bool false),(.bool false),(.bool false),(.bool false),(.bool false),(.bool false),(.bool false),(.bool false),(.bool false),(.bool false),(.bool false),(.bool false),(.bool false),(.bool false),(.bool false),(.bool false),(.bool false),(.bool false),(.bool false),(.bool false),(.bool false),(.bool false),(.bool false),(.bool false),(.bool false),(.bool false),(.bool false),(.bool false),(.bool false),(.bool false),(.bool false),(.bool false),(.bool false),(.bool false),(.bool false),(.bool false),(.bool false),(.bool false),(.bool false),(.bool false),(.bool false),(.bool false),(.bool false),(.bool false),(.bool false),(.bool false),(.bool false),(.bool false),(.bool false),(.bool false),(.bool false),(.bool false),(.bool false),(.bool false),(.bool false),(.bool false),(.bool false),(.bool false),(.bool false),(.bool false),(.bool false),(.bool false),(.bool false),(.bool false),(.bool false),(.bool false),(.bool false),(.bool false),(.bool false),(.bool false),(.bool false),(.bool false),(.bool false),(.bool false),(.bool false),(.bool false),(.bool false),(.bool false),(.bool false),(.bool false),(.bool false),(.bool false),(.bool false),(.bool false),(.bool false),(.bool false),(.bool false),(.bool false),(.bool false),(.bool false),(.bool false),(.bool false),(.bool false),(.bool false),(.bool false),(.bool false),(.bool false),(.bool false),(.bool false),(.bool false),(.bool false),(.bool false),(.bool false),(.bool false),(.bool false),(.bool false),(.bool false),(.bool false),(.bool false),(.bool false),(.bool false),(.bool false),(.bool false),(.bool false),(.bool false),(.bool false),(.bool false),(.bool false),(.bool false),(.bool false),(.bool false),(.bool false),(.bool false),(.bool false),(.bool false),(.bool false),(.bool false),(.bool false),(.bool false),(.bool false),(.bool false),(.bool false),(.bool false),(.bool false),(.bool false),(.bool false),(.bool false),(.bool false),(.bool false),(.bool false)]
abbrev zqco(c:Caller Prop FT):Prop:=CallOk Go.Proofs.Tryz.prog (CP env) G (fun p=>p) c
abbrev zqs(i:Nat)(a:List AV)(h:H)(k:KV):Prop:=SW Go.Proofs.Tryz.prog G (.func i) a h k
abbrev zqsd(i:Nat)(a:List AV)(h:H)(k:KV):Prop:=SWD Go.Proofs.Tryz.prog G i a h k
abbrev zqe(c:Caller Prop FT)(k:KV)(q:Plans)(u:Cuts)(F:Jump)(d:Code)(fn:Func)(p:Pos)(f:FT)(h:H):Prop:=chunkA env c q u F d (retA env fn.results.toList k) p f h
theorem zqrI{E:Env}{c:Caller Prop FT}{q:Plans}{u:Cuts}{J:Jump}{d:Code}{R:KX'}{p:Pos}{h:H}{f:FT}(i:Nat){t:IntKind}{K:Int→Prop}(hl:asI t (f i) K)(g:∀n,K n→chunkA E c q u J d R p (fset f i (.int t n)) h):chunkA E c q u J d R p f h:=by
  obtain⟨n,e,hn⟩:=asI_inv hl
  have hp:=g n hn
  rwa [fset_self e] at hp
theorem zqrB{E:Env}{c:Caller Prop FT}{q:Plans}{u:Cuts}{J:Jump}{d:Code}{R:KX'}{p:Pos}{h:H}{f:FT}(i:Nat){K:Bool→Prop}(hl:asB (f i) K)(g:∀b,K b→chunkA E c q u J d R p (fset f i (.bool b)) h):chunkA E c q u J d R p f h:=by
  obtain⟨n,e,hn⟩:=asB_inv hl
  have hp:=g n hn
  rwa [fset_self e] at hp
theorem zqrS{E:Env}{c:Caller Prop FT}{q:Plans}{u:Cuts}{J:Jump}{d:Code}{R:KX'}{p:Pos}{h:H}{f:FT}(i:Nat){K:Nat→Nat→Prop}(hl:asS (f i) K)(g:∀a b,K a b→chunkA E c q u J d R p (fset f i (.str a b)) h):chunkA E c q u J d R p f h:=by
  obtain⟨a,b,e,hn⟩:=asS_inv hl
  have hp:=g a b hn
  rwa [fset_self e] at hp
theorem zqnI{t:IntKind}{v:AV}{K:Int→Prop}(hl:asI t v K)(h:∀n,K n→False):False:=by
  obtain⟨_,_,e⟩:=asI_inv hl
  exact h _ e
theorem zqnB{v:AV}{K:Bool→Prop}(hl:asB v K)(h:∀n,K n→False):False:=by
  obtain⟨_,_,e⟩:=asB_inv hl
  exact h _ e
theorem zqnS{v:AV}{K:Nat→Nat→Prop}(hl:asS v K)(h:∀l c,K l c→False):False:=by
  obtain⟨_,_,_,e⟩:=asS_inv hl
  exact h _ _ e
def zqA(Q:Pos→Nat→Prop):Cuts→Prop
  |[]=>True
  |p::t=>Q p.1 p.2∧zqA Q t
theorem zqa{Q:Pos→Nat→Prop}:∀{l:Cuts},zqA Q l→∀p L,(p,L)∈l→Q p L
  |_::_,⟨a,_⟩,_,_,.head _=>a
  |_::_,⟨_,b⟩,_,_,.tail _ h=>zqa b _ _ h
theorem zqw {c : Caller Prop FT} (hc : zqco c) (q : Plans) {i : Nat} {fn : Func} {d : Code} (hf : Go.Proofs.Tryz.prog.funcs[i]? = some fn) (hb : fn.body = some d) (hn : (fn.name == "runtime.NumGoroutine") = false) (ho : okCode Go.Proofs.Tryz.prog env q fn.ntmps G true d = true) (k : KV) (u : Cuts) (J : Nat → Jump) (hz : ∀ L f h, ¬ J 0 L f h) (hs : ∀ n, zqA (fun p L => ∀ f h, J (n + 1) L f h → chunkA env c q u (J n) d (retA env fn.results.toList k) p f h) u) (hr : u.head? = some (.root, 0)) {n : Nat} {a : List AV} {h : H} (hg : J n 0 (finit a) h) : zqs i a h k :=
  fn_ok mixed envOk hc q hf hb hn ho k u J hz (fun n=>zqa (hs n)) (List.mem_of_mem_head? hr) hg
theorem zqwd {c : Caller Prop FT} (hc : zqco c) (q : Plans) {i : Nat} {fn : Func} {d : Code} (hf : Go.Proofs.Tryz.prog.funcs[i]? = some fn) (hb : fn.body = some d) (hn : (fn.name == "runtime.NumGoroutine") = false) (ho : okCode Go.Proofs.Tryz.prog env q fn.ntmps G true d = true) (k : KV) (u : Cuts) (J : Nat → Jump) (hz : ∀ L f h, ¬ J 0 L f h) (hs : ∀ n, zqA (fun p L => ∀ f h, J (n + 1) L f h → chunkA env c q u (J n) d (retA env fn.results.toList k) p f h) u) (hr : u.head? = some (.root, 0)) {n : Nat} {a : List AV} {h : H} (hg : J n 0 (finit a) h) : zqsd i a h k :=
  fnD_ok mixed envOk hc q hf hb hn ho k u J hz (fun n=>zqa (hs n)) (List.mem_of_mem_head? hr) hg
end Go.Den
