/-
  A part of the proof: PF4, PF5, PF6, PF7.
-/
import Derived.Test.YtpjkiikmjddpiaaGreatDoorStrs
namespace Go.Den
open Go.RowKit
set_option maxRecDepth 100000
theorem joinB_or{a b:Bool}{h:H}{k:Bool→H→Prop}:joinB (fun k1=>gate false a (k1 b h) (k1 true h)) k=k (a||b) h:=by
  cases a<;>rfl
theorem joinB_and{a b:Bool}{h:H}{k:Bool→H→Prop}:joinB (fun k1=>gate true a (k1 b h) (k1 false h)) k=k (a&&b) h:=by
  cases a<;>rfl
theorem eqN(n:Nat):ibeq (Int.ofNat n) (Int.ofNat 0)=decide (n=0):=by
  rw[ibeq_eq,Bool.eq_iff_iff,beq_iff_eq,decide_eq_true_eq]
  exact⟨fun h=>Int.ofNat.inj h,fun h=>by rw[h]⟩
end Go.Den
namespace Go.Den
open Go.RowKit
set_option maxRecDepth 100000
theorem tmod_range(n:Int){m:Nat}(hm:0<m): -(m:Int)<n.tmod m∧n.tmod m<m:=by
  constructor
  · have:=Int.lt_tmod_of_pos n (show(0:Int)<m by omega)
    exact this
  · exact Int.tmod_lt_of_pos n (show(0:Int)<m by omega)
/-- a text without its last bytes that are in a set -/
def rtrim(s set:List UInt8):List UInt8:=(s.reverse.dropWhile (·∈set)).reverse
theorem rtrim_snoc(s set:List UInt8)(x:UInt8):rtrim (s++[x]) set=if x∈set then rtrim s set else s++[x]:=by
  unfold rtrim
  rw[List.reverse_append,List.reverse_singleton,List.singleton_append,List.dropWhile_cons]
  by_cases h:x∈set<;>simp[h]
theorem c302_1 {h : H} {b : P} {t : Tm} {z : Nat} {e : TypeId} {w : Bool} {set : List UInt8} (ha : h.at b = .row t 256 z e w) (ht : ∀ x : UInt8, tget t x.toNat = .bool (decide (x ∈ set))) {k : KV} :
    ∀ (n : Nat) (s : List UInt8), s.length ≤ 4611686018427387904 → s.length < n → k (S (rtrim s set)) h → (r302 W1 k n).a1 s.length (enc s) (.ptr b 0) h
  | 0, _, _, hn, _ => absurd hn (Nat.not_lt_zero _)
  | n + 1, s, hl, hn, hk => by
    refine j302_1 ?_
    unfold s302_1
    rcases List.eq_nil_or_concat s with rfl | ⟨r, x, rfl⟩
    · exact cnd_f rfl hk
    · rw [List.concat_eq_append] at hl hn hk ⊢
      have hlen : (r ++ [x]).length = r.length + 1 := by simp
      refine cnd_t (by rw [iblt_eq]; simp) ?_
      rw [isub_eq]
      have w1 : wrap .i64 (Int.ofNat (r ++ [x]).length - Int.ofNat 1) = Int.ofNat r.length := by
        rw [hlen]
        have : Int.ofNat (r.length + 1) - Int.ofNat 1 = Int.ofNat r.length := by show ((r.length + 1 : Nat) : Int) - ((1 : Nat) : Int) = (r.length : Int); omega
        rw [this, wrap64 (by show _ ≤ ((r.length : Nat) : Int); omega) (by show ((r.length : Nat) : Int) ≤ _; omega)]
      rw [fI_eq, w1, natI_eq]
      refine idxS_i (by rw [hlen]; omega) ?_
      have hx : (r ++ [x])[r.length]'(by rw [hlen]; omega) = x := by simp
      rw [hx]
      refine c329 ha (ht x) ?_
      rw [asB_b, bnot_eq]
      rw [rtrim_snoc] at hk
      refine cnd_i (fun e => ?_) (fun e => ?_)
      · have e : ¬ x ∈ set := by simpa using e
        rw [if_neg e] at hk; exact hk
      · have e : x ∈ set := by simpa using e
        rw [if_pos e] at hk
        rw [fI_eq, natI_eq]
        refine cutS_t (by rw [hlen]; omega) ?_
        have ht' : (r ++ [x]).take r.length = r := by simp
        rw [ht']
        exact c302_1 ha ht n r (by omega) (by omega) hk
end Go.Den
namespace Go.Den
set_option maxRecDepth 100000
theorem rtrim_all{s set:List UInt8}(h:∀x∈s,x∉set):rtrim s set=s:=by
  unfold rtrim
  have:s.reverse.dropWhile (·∈set)=s.reverse:=by
    cases e:s.reverse with
    |nil=>rfl
    |cons c q=>
      have hc:c∉set:=h c (by rw[←List.mem_reverse,e];simp)
      simp[hc]
  rw[this,List.reverse_reverse]
end Go.Den
namespace Go.Den
open Go.RowKit
set_option maxRecDepth 100000
theorem or_q{a b:Bool}{h:H}{Q:(Bool→H→Prop)→Prop}{k:Bool→H→Prop}(hq:∀k',k' b h→Q k')(hk:k (a||b) h):joinB (fun k1=>gate false a (Q k1) (k1 true h)) k:=by
  cases a with
  |true=>exact hk
  |false=>exact hq k hk
theorem and_q{a b:Bool}{h:H}{Q:(Bool→H→Prop)→Prop}{k:Bool→H→Prop}(hq:∀k',k' b h→Q k')(hk:k (a&&b) h):joinB (fun k1=>gate true a (Q k1) (k1 false h)) k:=by
  cases a with
  |true=>exact hq k hk
  |false=>exact hk
theorem eqBB(x y:Bool):binA env .eql 4 (.bool x) (.bool y)=some (.bool (beqB x y)):=by kernel_rfl
theorem oV_some{α:Type}{x:α}{K:α→Prop}:oV (some x) K=K x:=rfl
theorem beqB_self(b:Bool):beqB b b=true:=by cases b<;>rfl
theorem wrapN{m:Nat}(h:m≤9223372036854775807):wrap .i64 (Int.ofNat m)=Int.ofNat m:=wrap64 (by show _≤((m:Nat):Int);omega) (by show((m:Nat):Int)≤_;omega)
end Go.Den
