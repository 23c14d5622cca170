/-
  A part of the proof: two lists of the same numbers.
-/
import Derived.Test.YtpjkiikmjddpiaaGreatDoorTad
namespace Go.Den
open Go.RowKit
set_option maxRecDepth 100000
def ics(l:List Nat):List (List AV):=l.map fun n=>[.int .i64 (.ofNat n)]
theorem ics_len(l:List Nat):(ics l).length=l.length:=List.length_map ..
theorem ics_get{l:List Nat}{i:Nat}(h:i<l.length)(h':i<(ics l).length):(ics l)[i]=[.int .i64 (.ofNat l[i])]:=List.getElem_map ..
theorem c14_1{h:H}{v w:AV}{l:List Nat}(hv:SlR 1 h v (ics l))(hw:SlR 1 h w (ics l))(hl:l.length≤1000000){k:KV}(hk:k (.bool true) h):∀(n i:Nat),l.length-i<n→i≤l.length→(r14 W1 k n).a1 v w (Int.ofNat i) h
  |0,_,hn,_=>absurd hn (Nat.not_lt_zero _)
  |n+1,i,hn,hi=>by
    refine j14_1 ?_
    unfold s14_1
    rw[hv.len,ics_len,ilt]
    refine cnd_i (fun e=>?_) (fun _=>hk)
    have e:i<l.length:=of_decide_eq_true e
    have e':i<(ics l).length:=by rw[ics_len];exact e
    have rd:∀{u:AV}{K:Int→Prop},SlR 1 h u (ics l)→K (Int.ofNat l[i])→elemA 1 i u fun a=>ld1 a h fun x=>asI .i64 x K:=fun hu hK=>by
      refine(hu.rd e').elem e' fun q o _ _ ha=>?_
      rw[ics_get e] at ha
      refine ha.ld1 (j:=0) (by show 0<1;decide) ?_
      show asI .i64 (.int .i64 (.ofNat l[i])) _
      rw[asI_k];exact hK
    refine natI_go (rd hv (natI_go (rd hw ?_)))
    rw[ieqN,decide_eq_true rfl]
    refine cnd_f rfl (fIadd (by omega) ?_)
    exact c14_1 hv hw hl hk n (i+1) (by omega) e
theorem c14{h:H}{v w:AV}{l:List Nat}(hv:SlR 1 h v (ics l))(hw:SlR 1 h w (ics l))(hl:l.length≤1000000){k:KV}(hk:k (.bool true) h):W1 (.func 14) [v,w] h k:=by
  refine w14 (n:=l.length+2) sw_ok (g14 ?_)
  unfold s14_0
  rw[hv.len,hw.len,ieqN,decide_eq_true rfl]
  exact cnd_f rfl (c14_1 hv hw hl hk _ 0 (by omega) (Nat.zero_le _))
end Go.Den
