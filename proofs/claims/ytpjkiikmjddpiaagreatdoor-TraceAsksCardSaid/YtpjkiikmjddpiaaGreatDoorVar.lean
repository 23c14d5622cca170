/-
  A part of the proof: paths.Valid.
-/
import Derived.Test.YtpjkiikmjddpiaaGreatDoorVaq
namespace Go.Den
open Go.RowKit
set_option maxRecDepth 100000
theorem asFn_v{fn:Fn}{a c:List AV}{K:Fn→List AV→List AV→Prop}:asFn (.func fn a c) K=K fn a c:=rfl
theorem hbSp:hasBody env (.func 105)=true:=by kernel_rfl
theorem c33{s:List UInt8}(hl:s.length≤1000000){h:H}{k:KV}(hk:∀h',Exh h h'→k (.bool (valB s)) h'):W1 (.func 33) [S s] h k:=by
  refine w33 (n:=1) sw_ok (g33 ?_)
  unfold s33_0
  refine newK_i ?_
  have a1:(h.new ob4).at h.next=.row (tlist [.bool false] 0 .e) 1 0 4 true:=at_new_same _ _
  have x1:Exh h (h.new ob4):=.new
  have m1:(h.new ob4).next.nat=h.next.nat+1:=next_new
  generalize h.new ob4=h1 at a1 x1 m1 ⊢
  rw[show iblt (Int.ofNat 80) (Int.ofNat s.length)=decide (80<s.length) from ilt _ _]
  refine cnd_i (fun e=>?_) (fun e=>?_)
  · have e:80<s.length:=of_decide_eq_true e
    have:valB s=false:=by unfold valB;rw[decide_eq_false (by omega)];rfl
    rw[this] at hk
    refine st1_i a1 (Nat.le_refl _) (by decide) rfl ?_
    refine ld1_i (at_put_same _ _ _) (by decide) ?_
    rw[tget_tlist,if_pos (by simp)]
    exact hk _ ⟨by rw[next_put];exact x1.1,fun c hc=>by rw[at_put_o (fun e'=>by subst e';omega),x1.2 c hc]⟩
  have e:¬80<s.length:=of_decide_eq_false e
  have hv:valB s=(parts s).all partB:=by unfold valB;rw[decide_eq_true (by omega)];rfl
  rw[hv] at hk
  refine w57 (n:=1) sw_ok (g57 ?_)
  unfold s57_0
  refine w81 (n:=1) sw_ok (g81 ?_)
  unfold s81_0
  refine newK_i ?_
  have a2:(h1.new (rowOf 9 [.str s.length (enc s)])).at h1.next=.row (tlist [S s] 0 .e) 1 0 9 true:=at_new_same _ _
  have x2:Exh h1 (h1.new (rowOf 9 [.str s.length (enc s)])):=.new
  have m2:(h1.new (rowOf 9 [.str s.length (enc s)])).next.nat=h1.next.nat+1:=next_new
  generalize h1.new (rowOf 9 [.str s.length (enc s)])=h2 at a2 x2 m2 ⊢
  refine newK_i ?_
  have a3:AtP (h2.new (rowOf 9 [S [47]])) h2.next 0 [S [47]]:=AtP.newRow
  have x3:Exh h2 (h2.new (rowOf 9 [S [47]])):=.new
  have m3:(h2.new (rowOf 9 [S [47]])).next.nat=h2.next.nat+1:=next_new
  show Hp.newK (h2.new (rowOf 9 [S [47]])) _ _
  generalize h2.new (rowOf 9 [S [47]])=h3 at a3 x3 m3 ⊢
  refine newK_i ?_
  have a4:AtP (h3.new (rowOf 3 [.int .i64 (Int.ofNat 0)])) h3.next 0 [.int .i64 (Int.ofNat 0)]:=AtP.newRow
  have x4:Exh h3 (h3.new (rowOf 3 [.int .i64 (Int.ofNat 0)])):=.new
  have m4:(h3.new (rowOf 3 [.int .i64 (Int.ofNat 0)])).next.nat=h3.next.nat+1:=next_new
  generalize h3.new (rowOf 3 [.int .i64 (Int.ofNat 0)])=h4 at a4 x4 m4 ⊢
  show rangeA env W1 lp33_0 (.func (.func 105) [] [.ptr h2.next 0,.ptr h1.next 0,.ptr h3.next 0]) (fset (fun _=>.top) 2 (.ptr h.next 0)) h4 _
  unfold rangeA
  rw[asFn_v,hbSp]
  show Hp.newK h4 (.loop (fset (fun _=>.top) 2 (.ptr h.next 0)) lp33_0 .ready .normal) (fun l h=>W1 (.func 105) [.func (.yield l.nat) [] [],.ptr h2.next 0,.ptr h1.next 0,.ptr h3.next 0] h fun _ h=>endLp l _ h)
  refine newK_i ?_
  have a5:(h4.new (.loop (fset (fun _=>.top) 2 (.ptr h.next 0)) lp33_0 .ready .normal)).at h4.next=.loop (fset (fun _=>.top) 2 (.ptr h.next 0)) lp33_0 .ready .normal:=at_new_same _ _
  have x5:Exh h4 (h4.new (.loop (fset (fun _=>.top) 2 (.ptr h.next 0)) lp33_0 .ready .normal)):=.new
  generalize h4.new (.loop (fset (fun _=>.top) 2 (.ptr h.next 0)) lp33_0 .ready .normal)=h5 at a5 x5 ⊢
  have x45:Exh h3 h5:=x4.trans x5
  have x35:Exh h2 h5:=x3.trans x45
  have x25:Exh h1 h5:=x2.trans x35
  have x15:Exh h h5:=x1.trans x25
  have pne:∀{a b:P},a.nat≠b.nat→a≠b:=fun q e=>q (by rw[e])
  have eR:AtP h5 h2.next 0 [S [47]]:=a3.ext x45 (by omega)
  refine w105 (n:=s.length+2) sw_ok (g105 ?_)
  unfold s105_0
  refine eR.ld1 (j:=0) (by show 0<1;decide) ?_
  show asS (S [47]) _
  rw[asS_s]
  refine cnd_f rfl ?_
  refine c105_2 (F:=fset (fun _=>.top) 2 (.ptr h.next 0)) (p1:=h.next) (s.length+1) (by omega) hl
    { lp:=a5
      fF:=rfl
      pr:=⟨_,by rw[x25.2 _ (by omega)];exact a1⟩
      eR:=eR
      vR:=a4.ext x5 (by omega)
      sR:=⟨_,by rw[x35.2 _ (by omega)];exact a2,by rw[tget_tlist];simp⟩
      n1:=pne (by omega)
      n2:=⟨pne (by omega),pne (by omega)⟩
      n3:=⟨pne (by omega),pne (by omega),pne (by omega)⟩
      n4:=⟨pne (by omega),pne (by omega),pne (by omega)⟩ } (fun w v h6 n6 f6 l6 p6=>?_) (fun w v h6 n6 f6 l6 p6=>?_)
  · rw[w] at hk
    show asLp (h6.at h4.next) _
    rw[l6]
    show Hp.putK h6 h4.next (.loop (fset (fun _=>.top) 2 (.ptr h.next 0)) lp33_0 .exhausted .normal) (fun h8=>cnd (axEq .normal .normal) (st1 (.ptr h.next 0) (.bool true) h8 fun h10=>ld1 (.ptr h.next 0) h10 fun v11=>k v11 h10) (cnd (axEq .normal .ret) (ld1 (.ptr h.next 0) h8 fun v9=>k v9 h8) False))
    rw[putK_eq]
    obtain⟨t6,p6⟩:=p6
    refine cnd_t rfl ?_
    refine st1_i (by rw[at_put_o (pne (by omega))];exact p6) (Nat.le_refl _) (by decide) rfl ?_
    refine ld1_i (at_put_same _ _ _) (by decide) ?_
    rw[tget_tlist,if_pos (by simp)]
    refine hk _ ⟨by rw[next_put,next_put,n6];exact x15.1,fun c hc=>?_⟩
    rw[at_put_o (pne (by omega)),at_put_o (pne (by omega)),f6 c (pne (by omega)) (pne (by omega)) (pne (by omega)),x15.2 c hc]
  · rw[w] at hk
    show asLp (h6.at h4.next) _
    rw[l6]
    show Hp.putK h6 h4.next (.loop (fset (fun _=>.top) 2 (.ptr h.next 0)) lp33_0 .exhausted .ret) (fun h8=>cnd (axEq .ret .normal) (st1 (.ptr h.next 0) (.bool true) h8 fun h10=>ld1 (.ptr h.next 0) h10 fun v11=>k v11 h10) (cnd (axEq .ret .ret) (ld1 (.ptr h.next 0) h8 fun v9=>k v9 h8) False))
    rw[putK_eq]
    obtain⟨t6,p6,p7⟩:=p6
    refine cnd_f rfl (cnd_t rfl ?_)
    refine ld1_i (by rw[at_put_o (pne (by omega))];exact p6) (by decide) ?_
    rw[p7]
    refine hk _ ⟨by rw[next_put,n6];exact x15.1,fun c hc=>?_⟩
    rw[at_put_o (pne (by omega)),f6 c (pne (by omega)) (pne (by omega)) (pne (by omega)),x15.2 c hc]
end Go.Den
