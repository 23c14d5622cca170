/-
  A part of the proof: what a run begins with; the table of calls, with some calls told ahead.
-/
import Derived.Test.YtpjkiikmjddpiaaGreatDoorRunD
import Derived.Test.YtpjkiikmjddpiaaGreatDoorSor
import Derived.KernelRfl
namespace Go.Den
open Go.RowKit
set_option maxRecDepth 100000
theorem arg1B_ok{a:List AV}{h:H}{k:KV}(hg:arg1B a (fun v=>sK v h k)):W1 (.func 48) a h k:=by
  unfold arg1B at hg
  split at hg
  · exact sK_ok hg
  · exact hg.elim
theorem callsS_ok(m:Nat):∀n,CallOk PP (CP env) G (fun p=>p) (callsS m n)
  |0=>fun _ _ _ _ _ _ _ _ _ _ _ _ hg=>hg.elim
  |n+1=>fun μ h w fn fn' args vargs k s gl hf hv hg=>by
    cases fn with
    |func i=>
      have hg:cnd (Nat.beq i 48) (arg1B args (fun v=>sK v h k)) (disp (callsS m n) m i args h k):=hg
      cases e8:Nat.beq i 48 with
      |true=>
        rw[e8] at hg
        cases Nat.eq_of_beq_eq_true e8
        exact arg1B_ok hg μ w fn' vargs s gl hf hv
      |false=>
        rw[e8] at hg
        exact disp_ok (callsS_ok m n) (show disp (callsS m n) m i args h k from hg) μ w fn' vargs s gl hf hv
    |yield l=>exact yield_ok mixed envOk (callsS_ok m n) (show yieldA env (callsS m n) (okLp PP env G) l args h k from hg) μ w fn' vargs s gl hf hv
    |_=>exact hg.elim
theorem callsT_ok{v:Nat}(hA:∀{h:H}{k:KV},k (.bool true) h→SW PP G (.func v) [] h k)(m:Nat):∀n,CallOk PP (CP env) G (fun p=>p) (callsT v m n)
  |0=>fun _ _ _ _ _ _ _ _ _ _ _ _ hg=>hg.elim
  |n+1=>fun μ h w fn fn' args vargs k s gl hf hv hg=>by
    cases fn with
    |func i=>
      have hg:cnd (Nat.beq i 48) (arg1B args (fun v=>sK v h k)) (cnd (Nat.beq i v) (List.rec (k (.bool true) h) (fun _ _ _=>False) args) (disp (callsT v m n) m i args h k)):=hg
      cases e8:Nat.beq i 48 with
      |true=>
        rw[e8] at hg
        cases Nat.eq_of_beq_eq_true e8
        exact arg1B_ok hg μ w fn' vargs s gl hf hv
      |false=>
        rw[e8] at hg
        have hg:cnd (Nat.beq i v) (List.rec (k (.bool true) h) (fun _ _ _=>False) args) (disp (callsT v m n) m i args h k):=hg
        cases e7:Nat.beq i v with
        |true=>
          rw[e7] at hg
          cases Nat.eq_of_beq_eq_true e7
          cases args with
          |nil=>exact hA (show k (.bool true) h from hg) μ w fn' vargs s gl hf hv
          |cons=>exact(show False from hg).elim
        |false=>
          rw[e7] at hg
          exact disp_ok (callsT_ok hA m n) (show disp (callsT v m n) m i args h k from hg) μ w fn' vargs s gl hf hv
    |yield l=>exact yield_ok mixed envOk (callsT_ok hA m n) (show yieldA env (callsT v m n) (okLp PP env G) l args h k from hg) μ w fn' vargs s gl hf hv
    |_=>exact hg.elim
theorem true_run{F:FuncId}{args:List AV}{m n:Nat}(h:callsS m n (.func F) args h0 isT=True):Pure PP G h0 F args (.bool true):=
  sw_mono (sw_of (callsS_ok m n) (h.mpr trivial)) fun _ _ h=>isT_inv h
end Go.Den
