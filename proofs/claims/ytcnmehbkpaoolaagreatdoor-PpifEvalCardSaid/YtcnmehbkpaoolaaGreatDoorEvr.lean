/-
 Proof.
-/
import Derived.Test.YtcnmehbkpaoolaaGreatDoorPrn
import Derived.Test.YtcnmehbkpaoolaaGreatDoorLex7
import Derived.Test.YtcnmehbkpaoolaaGreatDoorLex6
import Derived.Test.YtcnmehbkpaoolaaGreatDoorConz
namespace Go.Den
open Go.RowKit
open Go.Pre (V Kq vz Fh Mf Mg Pd Se shB Py Vy Hr)
set_option maxRecDepth 100000
def Cel(h:H)(q:P)(e:TypeId)(cs:List AV):Prop:=∃t,h.at q=.row t cs.length 0 e true∧∀j (hj:j<cs.length),Co t j=cs[j]
section
variable{h h':H}{q B:P}{e:TypeId}{cs:List AV}
theorem Cel.atp(c:Cel h q e cs):AtP h q 0 cs:=by
 obtain⟨t,h1,h2⟩:=c
 exact .row t _ 0 e true h1 (by omega) fun j hj=>by rw[Nat.zero_add];exact h2 j hj
theorem Cel.new:Cel (h.new (rowOf e cs)) h.next e cs:=by
 refine⟨Bg cs 0 .e,?_,fun j hj=>?_⟩
 · rw[Bs];unfold rowOf;rw[Dl]
 · rw[Cd,if_pos (by omega),List.getD_eq_getElem?_getD,List.getElem?_eq_getElem (by omega)];simp
theorem Cel.frame(c:Cel h q e cs)(hf:h'.at q=h.at q):Cel h' q e cs:=by
 obtain⟨t,h1,h2⟩:=c
 exact⟨t,by rw[hf];exact h1,h2⟩
theorem Cel.fr(c:Cel h q e cs)(f:FrO B h h')(hq:q.nat<h.next.nat)(hn:q≠B):Cel h' q e cs:=c.frame (f.2 q hq hn)
theorem Cel.ext(c:Cel h q e cs)(f:Exh h h')(hq:q.nat<h.next.nat):Cel h' q e cs:=c.frame (f.2 q hq)
theorem Cel.st1{j:Nat}{v:AV}{K:H→Prop}(c:Cel h q e cs)(hj:j<cs.length)(hv:v.one=true)(hk:∀h',FrO q h h'→Cel h' q e (cs.set j v)→K h'):Go.Den.st1 (.ptr q (0+j)) v h K:=by
 obtain⟨t,h1,h2⟩:=c
 refine Aqp h1 (Nat.zero_le _) (by omega) hv (hk _ ⟨by rw[Ug];exact Nat.le_refl _,fun c _ hn=>Lm hn⟩ ⟨_,by rw[Dd,List.length_set],fun i hi=>?_⟩)
 rw[List.length_set] at hi
 rw[Cd,List.getElem_set]
 by_cases e:j=i
 · subst e
   rw[if_pos ⟨by omega,by simp⟩,if_pos rfl];simp
 · rw[if_neg (by simp only[List.length_singleton];omega),if_neg e];exact h2 i hi
theorem Cel.stn{cs':List AV}{n:Nat}{K:H→Prop}(c:Cel h q e cs)(hl:cs'.length=cs.length)(hn:cs'.length=n)(h1:1≤n)(hk:∀h',FrO q h h'→Cel h' q e cs'→K h'):Go.Den.stn n (.ptr q 0) (.agg cs') h K:=by
 obtain⟨t,a1,a2⟩:=c
 refine Wd a1 (Nat.zero_le _) hn h1 (by omega) (hk _ ⟨by rw[Ug];exact Nat.le_refl _,fun c _ hn=>Lm hn⟩ ⟨_,by rw[Dd,hl],fun i hi=>?_⟩)
 rw[Cd,if_pos (by omega),List.getD_eq_getElem?_getD,List.getElem?_eq_getElem (by omega)];simp
theorem FrO.trans{h0 h1 h2:H}(a:FrO B h0 h1)(b:FrO B h1 h2):FrO B h0 h2:=⟨Nat.le_trans a.1 b.1,fun c hc hn=>by rw[b.2 c (Nat.lt_of_lt_of_le hc a.1) hn,a.2 c hc hn]⟩
theorem FrO.loc{h0 h1 h2:H}{p:P}(a:FrO B h0 h1)(b:FrO p h1 h2)(hp:h0.next.nat≤p.nat):FrO B h0 h2:=⟨Nat.le_trans a.1 b.1,fun c hc hn=>by rw[b.2 c (Nat.lt_of_lt_of_le hc a.1) (fun e=>by subst e;omega),a.2 c hc hn]⟩
theorem FrO.refl:FrO B h h:=⟨Nat.le_refl _,fun _ _ _=>rfl⟩
theorem Exh.loc{h0 h1 h2:H}{p:P}(a:Exh h0 h1)(b:FrO p h1 h2)(hp:h0.next.nat≤p.nat):Exh h0 h2:=⟨Nat.le_trans a.1 b.1,fun c hc=>by rw[b.2 c (Nat.lt_of_lt_of_le hc a.1) (fun e=>by subst e;omega),a.2 c hc]⟩
end
abbrev uI(a:BitVec 64):AV:=.int .u64 (Int.ofNat a.toNat)
abbrev vC(v:V):List AV:=[uI v.1,.bool v.2]
abbrev vI(v:V):AV:=.agg (vC v)
theorem Am2:Ek=rowOf 55 (vC (0#64,false)):=rfl
theorem wU(x:BitVec 64):wrap .u64 x.toInt=Int.ofNat x.toNat:=by
 rw[Dv,IntKind.wrap_u64,BitVec.toInt_eq_toNat_cond]
 have:=x.isLt
 split<;>(show _=((x.toNat:Nat):Int);omega)
theorem wI(x:BitVec 64):wrap .i64 (Int.ofNat x.toNat)=x.toInt:=by
 rw[Dv,IntKind.wrap_i64,BitVec.toInt_eq_toNat_cond]
 have:=x.isLt
 show(((x.toNat:Nat):Int)+9223372036854775808)%18446744073709551616-9223372036854775808=_
 split<;>omega
theorem wOf(n:Int):wrap .u64 n=Int.ofNat (BitVec.ofInt 64 n).toNat:=by
 rw[Dv,IntKind.wrap_u64,BitVec.toNat_ofInt]
 show _=(((n%((2^64:Nat):Int)).toNat:Nat):Int)
 rw[show((2^64:Nat):Int)=18446744073709551616 by decide];omega
theorem Bg9(n:Int):wrap .i64 n=(BitVec.ofInt 64 n).toInt:=by
 rw[Dv,IntKind.wrap_i64,BitVec.toInt_ofInt]
 rw[Int.bmod_def,show((2^64:Nat):Int)=18446744073709551616 by decide]
 split<;>omega
theorem bv0(x:BitVec 64):Bm (Int.ofNat x.toNat) (Int.ofNat 0)=decide (x=0#64):=by
 rw[Lg]
 exact decide_eq_decide.2 ⟨fun e=>BitVec.eq_of_toNat_eq (by simpa using e),fun e=>by rw[e];rfl⟩
theorem Aux(x y:BitVec 64):Bm (Int.ofNat x.toNat) (Int.ofNat y.toNat)=decide (x=y):=by
 rw[Lg]
 exact decide_eq_decide.2 ⟨fun e=>BitVec.eq_of_toNat_eq e,fun e=>by rw[e]⟩
theorem A82(a b:BitVec 64):wrap .u64 (Cl (Int.ofNat a.toNat) (Int.ofNat b.toNat))=Int.ofNat (a+b).toNat:=by
 rw[Eg,Qt,BitVec.toNat_add]
theorem A8z(a b:BitVec 64):wrap .u64 (Gl (Int.ofNat a.toNat) (Int.ofNat b.toNat))=Int.ofNat (a-b).toNat:=by
 rw[Lu,Dv,IntKind.wrap_u64,BitVec.toNat_sub]
 have:=a.isLt
 have:=b.isLt
 show(((a.toNat:Nat):Int)-((b.toNat:Nat):Int))%_=(((2^64-b.toNat+a.toNat)%2^64:Nat):Int)
 omega
theorem A80(a b:BitVec 64):wrap .u64 (Int.ofNat a.toNat*Int.ofNat b.toNat)=Int.ofNat (a*b).toNat:=by
 show wrap .u64 (Int.ofNat (a.toNat*b.toNat))=_
 rw[Qt,BitVec.toNat_mul]
theorem A0f(a:BitVec 64):unA .neg (.int .u64 (Int.ofNat a.toNat))=some (uI (-a)):=by
 show some (AV.int .u64 (IntKind.u64.wrap (0-Int.ofNat a.toNat)))=some (AV.int .u64 (Int.ofNat (-a).toNat))
 rw[IntKind.wrap_u64,BitVec.toNat_neg]
 have:=a.isLt
 show some (AV.int .u64 ((0-((a.toNat:Nat):Int))%_))=some (AV.int .u64 (((2^64-a.toNat)%2^64:Nat):Int))
 congr 2;omega
theorem A94(a:BitVec 64):unA .xor (.int .u64 (Int.ofNat a.toNat))=some (uI (~~~a)):=by
 show some (AV.int .u64 (IntKind.u64.wrap (((BitVec.ofInt 64 IntKind.u64.max)^^^(BitVec.ofInt 64 (Int.ofNat a.toNat))).toNat:Int)))=_
 have e1:BitVec.ofInt 64 IntKind.u64.max=BitVec.allOnes 64:=by decide
 have e2:BitVec.ofInt 64 (Int.ofNat a.toNat)=a:=by
  show BitVec.ofInt 64 ((a.toNat:Nat):Int)=a
  rw[BitVec.ofInt_natCast];simp
 rw[e1,e2,BitVec.allOnes_xor,IntKind.wrap_u64]
 have:=(~~~a).isLt
 show some (AV.int .u64 ((((~~~a).toNat:Nat):Int)%_))=some (AV.int .u64 (((~~~a).toNat:Nat):Int))
 congr 2;omega
theorem Bcc{a b:BitVec 64}{K:Int→Prop}(hk:K (Int.ofNat (a|||b).toNat)):Ll Nat.lor .u64 (Int.ofNat a.toNat) (Int.ofNat b.toNat) K:=by
 have h1:Nat.ble a.toNat (intMax .u64)=true:=Nat.ble_eq_true_of_le (by have:=a.isLt;show a.toNat≤18446744073709551615;omega)
 have h2:Nat.ble b.toNat (intMax .u64)=true:=Nat.ble_eq_true_of_le (by have:=b.isLt;show b.toNat≤18446744073709551615;omega)
 show Bool.rec False (fN (Nat.lor a.toNat b.toNat) fun n=>K (.ofNat n)) (An (Nat.ble a.toNat (intMax .u64)) (Nat.ble b.toNat (intMax .u64)))
 rw[h1,h2]
 rw[BitVec.toNat_or] at hk;exact hk
theorem Ayz{a b:BitVec 64}{K:Int→Prop}(hk:K (Int.ofNat (a^^^b).toNat)):Ll Nat.xor .u64 (Int.ofNat a.toNat) (Int.ofNat b.toNat) K:=by
 have h1:Nat.ble a.toNat (intMax .u64)=true:=Nat.ble_eq_true_of_le (by have:=a.isLt;show a.toNat≤18446744073709551615;omega)
 have h2:Nat.ble b.toNat (intMax .u64)=true:=Nat.ble_eq_true_of_le (by have:=b.isLt;show b.toNat≤18446744073709551615;omega)
 show Bool.rec False (fN (Nat.xor a.toNat b.toNat) fun n=>K (.ofNat n)) (An (Nat.ble a.toNat (intMax .u64)) (Nat.ble b.toNat (intMax .u64)))
 rw[h1,h2]
 rw[BitVec.toNat_xor] at hk;exact hk
theorem Ab4{a b:BitVec 64}{K:Int→Prop}(hk:K (Int.ofNat (a&&&b).toNat)):Ll Nat.land .u64 (Int.ofNat a.toNat) (Int.ofNat b.toNat) K:=by
 have h1:Nat.ble a.toNat (intMax .u64)=true:=Nat.ble_eq_true_of_le (by have:=a.isLt;show a.toNat≤18446744073709551615;omega)
 have h2:Nat.ble b.toNat (intMax .u64)=true:=Nat.ble_eq_true_of_le (by have:=b.isLt;show b.toNat≤18446744073709551615;omega)
 show Bool.rec False (fN (Nat.land a.toNat b.toNat) fun n=>K (.ofNat n)) (An (Nat.ble a.toNat (intMax .u64)) (Nat.ble b.toNat (intMax .u64)))
 rw[h1,h2]
 rw[BitVec.toNat_and] at hk;exact hk
section
variable{a b:BitVec 64}{K:Int→Prop}
theorem Ba9(hb:b≠0#64)(hk:K (Int.ofNat (a / b).toNat)):Rx .u64 (Int.ofNat a.toNat) (Int.ofNat b.toNat) K:=by
 unfold Rx
 rw[bv0,decide_eq_false hb]
 show fI (wrap .u64 (Int.ofNat (a.toNat / b.toNat))) K
 rw[Ak,Qt,Nat.mod_eq_of_lt (by have:=Nat.div_le_self a.toNat b.toNat;have:=a.isLt;omega),←BitVec.toNat_udiv];exact hk
theorem Ba5(hb:b≠0#64)(hk:K (Int.ofNat (a%b).toNat)):Tx (Int.ofNat a.toNat) (Int.ofNat b.toNat) K:=by
 unfold Tx
 rw[bv0,decide_eq_false hb]
 show fI (Int.ofNat (a.toNat%b.toNat)) K
 rw[Ak,←BitVec.toNat_umod];exact hk
theorem Alc:Bm b.toInt (.ofNat 0)=decide (b=0#64):=by
 rw[Aa5]
 exact decide_eq_decide.2 ⟨fun e=>BitVec.eq_of_toInt_eq (by rw[e];rfl),fun e=>by rw[e];rfl⟩
theorem Bba(hb:b≠0#64)(hk:K (a.sdiv b).toInt):Rx .i64 a.toInt b.toInt K:=by
 unfold Rx
 rw[Alc,decide_eq_false hb]
 show fI (wrap .i64 (a.toInt.tdiv b.toInt)) K
 rw[Ak,Bg9,BitVec.toInt_ofInt,←BitVec.toInt_sdiv];exact hk
theorem Ba6(hb:b≠0#64)(hk:K (a.srem b).toInt):Tx a.toInt b.toInt K:=by
 unfold Tx
 rw[Alc,decide_eq_false hb]
 show fI (a.toInt.tmod b.toInt) K
 rw[Ak,←BitVec.toInt_srem];exact hk
theorem Baz{n:Nat}(hn:n<64)(hk:K (Int.ofNat (a <<< n).toNat)):Acz .u64 (Int.ofNat a.toNat) (Int.ofNat n) K:=by
 show fI (wrap .u64 (Int.ofNat a.toNat*2^(min n 64))) K
 rw[Ak,Nat.min_eq_left (by omega),show(Int.ofNat a.toNat*2^n:Int)=Int.ofNat (a.toNat*2^n) by show _=((a.toNat*2^n:Nat):Int);rw[Int.natCast_mul,Int.natCast_pow];rfl,Qt]
 rw[BitVec.toNat_shiftLeft,Nat.shiftLeft_eq] at hk;exact hk
theorem Bax{n:Nat}(hn:n<64)(hk:K (Int.ofNat (a >>> n).toNat)):Agq .u64 (Int.ofNat a.toNat) (Int.ofNat n) K:=by
 show fI ((Int.ofNat a.toNat).fdiv (2^(min n 64))) K
 rw[Ak,Nat.min_eq_left (by omega)]
 rw[BitVec.toNat_ushiftRight,Nat.shiftRight_eq_div_pow] at hk
 have:(Int.ofNat a.toNat).fdiv (2^n)=Int.ofNat (a.toNat / 2^n):=by
  rw[Int.fdiv_eq_ediv_of_nonneg _ (Int.le_of_lt (Int.pow_pos (by decide)))]
  show((a.toNat:Nat):Int) / _=((a.toNat / 2^n:Nat):Int)
  rw[Int.natCast_ediv,Int.natCast_pow];rfl
 rw[this];exact hk
theorem Bay{n:Nat}(hn:n<64)(hk:K (a.sshiftRight n).toInt):Agq .i64 a.toInt (Int.ofNat n) K:=by
 show fI (a.toInt.fdiv (2^(min n 64))) K
 rw[Ak,Nat.min_eq_left (by omega)]
 rw[BitVec.toInt_sshiftRight,Int.shiftRight_eq_div_pow] at hk
 rw[Int.fdiv_eq_ediv_of_nonneg _ (Int.le_of_lt (Int.pow_pos (by decide)))]
 rw[Int.natCast_pow] at hk
 exact hk
end
theorem Ayc(b:Bool):Pure PP G h0 141 [.bool b] (vI (Kq b)):=by
 cases b
 · exact pure_run (r:=.agg [.int .u64 (.ofNat 0),.bool false]) (by kernel_rfl)
 · exact pure_run (r:=.agg [.int .u64 (.ofNat 1),.bool false]) (by kernel_rfl)
theorem Bkz(s:List UInt8)(a b:BitVec 64)(un:Bool)(hb:b≠0#64):Pure PP G h0 186 [S s,uI a,uI b,.bool un] (uI (Se s a b un)):=by
 refine A9e (n:=1) Bw (Bjm ?_)
 unfold Adh
 rw[Ce (s:=s) (t:=[47]) (l:=1) (c:=47) rfl rfl]
 refine Qm ?_
 cases un with
 |true=>
  refine Ap (fun e=>?_) (fun e=>?_)
  · refine Ba9 hb ?_
    have e:s=[47]:=of_decide_eq_true e
    unfold Se;rw[if_pos rfl,if_pos e]
  · refine Bz rfl (Ba5 hb ?_)
    have e:¬s=[47]:=of_decide_eq_false e
    unfold Se;rw[if_pos rfl,if_neg e]
 |false=>
  refine Ca rfl (Ca rfl ?_)
  refine Ap (fun e=>?_) (fun e=>?_)
  · have e:s=[47]:=of_decide_eq_true e
    rw[wI,Ak,wI,Ak]
    refine Bba hb ?_
    rw[wU,Ak]
    unfold Se;rw[if_neg (by simp),if_pos e]
  · have e:¬s=[47]:=of_decide_eq_false e
    rw[wI,Ak,wI,Ak]
    refine Ba6 hb ?_
    rw[wU,Ak]
    unfold Se;rw[if_neg (by simp),if_neg e]
theorem Bkx(s:List UInt8)(a b:BitVec 64)(un:Bool):Pure PP G h0 188 [S s,uI a,uI b,.bool un] (.bool (Vy s a b un)):=by
 have fin:∀(h:H)(n:Nat)(k:KV),k (.bool (Vy s a b un)) h→(Ag8 W1 k (n+1)).a1 s.length (enc s) (Int.ofNat a.toNat) (Int.ofNat b.toNat) (Py a b un) h:=fun h n k hk=>by
  refine A4u ?_
  unfold Ade
  rw[Ce (s:=s) (t:=[61,61]) (l:=2) (c:=15677) rfl rfl,Ce (s:=s) (t:=[33,61]) (l:=2) (c:=15649) rfl rfl,Ce (s:=s) (t:=[60]) (l:=1) (c:=60) rfl rfl,Ce (s:=s) (t:=[62,61]) (l:=2) (c:=15678) rfl rfl,Ce (s:=s) (t:=[62]) (l:=1) (c:=62) rfl rfl,Aux]
  unfold Vy at hk
  refine Ap (fun e=>?_) (fun e=>?_)
  · rw[if_pos (of_decide_eq_true e)] at hk;exact hk
  rw[if_neg (of_decide_eq_false e)] at hk
  refine Ap (fun e=>?_) (fun e=>?_)
  · rw[if_pos (of_decide_eq_true e)] at hk;rw[Bj];exact hk
  rw[if_neg (of_decide_eq_false e)] at hk
  refine Ap (fun e=>?_) (fun e=>?_)
  · rw[if_pos (of_decide_eq_true e)] at hk;exact hk
  rw[if_neg (of_decide_eq_false e)] at hk
  refine Ap (fun e=>?_) (fun e=>?_)
  · rw[if_pos (of_decide_eq_true e)] at hk;rw[Bj];exact hk
  rw[if_neg (of_decide_eq_false e)] at hk
  refine Ap (fun e=>?_) (fun e=>?_)
  · rw[if_pos (of_decide_eq_true e)] at hk
    refine Qm ?_
    rw[Bj,Bj];exact hk
  rw[if_neg (of_decide_eq_false e)] at hk
  refine Hf ?_
  exact hk
 refine A9c (n:=3) Bw (Bjk ?_)
 unfold Adf
 cases un with
 |true=>
  refine Ca rfl ?_
  rw[ilt]
  exact fin _ 1 _ rfl
 |false=>
  refine Bz rfl ?_
  rw[wI,Ak,wI,Ak,Ff]
  exact fin _ 1 _ rfl
theorem Bky(s:List UInt8)(a:V){n:Nat}(hn:n<64):Pure PP G h0 187 [S s,vI a,.int .u64 (Int.ofNat n)] (vI (shB s a n)):=by
 refine A9d (n:=1) Bw (Bjl ?_)
 unfold Adg
 rw[St]
 refine Vb (by simp) (Bo ?_)
 have c2:Cel (h0.new (rowOf 55 (vC a))) h0.next 55 (vC a):=.new
 have n2:h0.next.nat<(h0.new (rowOf 55 (vC a))).next.nat:=by rw[Aw];omega
 generalize h0.new (rowOf 55 (vC a))=h3 at c2 n2 ⊢
 refine Bo ?_
 rw[Am2]
 have c4:Cel (h3.new (rowOf 55 (vC (0#64,false)))) h3.next 55 (vC (0#64,false)):=.new
 have c2':Cel (h3.new (rowOf 55 (vC (0#64,false)))) h0.next 55 (vC a):=c2.ext .new n2
 have ne:h0.next≠h3.next:=fun e=>by rw[e] at n2;omega
 have n5:h0.next.nat<(h3.new (rowOf 55 (vC (0#64,false)))).next.nat:=by rw[Aw];omega
 have n6:h3.next.nat<(h3.new (rowOf 55 (vC (0#64,false)))).next.nat:=by rw[Aw];omega
 generalize h3.new (rowOf 55 (vC (0#64,false)))=h5 at c4 c2' n5 n6 ⊢
 have fin:∀(x:BitVec 64),((if s=[60,60] then a.1 <<< n else if a.2 then a.1 >>> n else a.1.sshiftRight n)=x)→st1 (.ptr h0.next (0+0)) (uI x) h5 (fun h11=>ldn 2 (.ptr h0.next 0) h11 fun v12=>stn 2 (.ptr h3.next 0) v12 h11 fun h13=>ldn 2 (.ptr h3.next 0) h13 fun v14=>v14=vI (shB s a n)):=fun x hx=>by
  refine c2'.st1 (j:=0) (by simp) rfl fun h6 f6 c6=>?_
  refine c6.atp.ldn rfl ?_
  refine(c4.fr f6 n6 (Ne.symm ne)).stn (cs':=[uI x,.bool a.2]) rfl rfl (by decide) fun h7 f7 c7=>?_
  refine c7.atp.ldn rfl ?_
  unfold shB;rw[hx]
 rw[Ce (s:=s) (t:=[60,60]) (l:=2) (c:=15420) rfl rfl]
 refine Ap (fun e=>?_) (fun e=>?_)
 · have e:s=[60,60]:=of_decide_eq_true e
   rw[Ae]
   refine c2'.atp.ld1 (j:=0) (by simp) ?_
   show asI .u64 (uI a.1) _
   rw[Au]
   refine Baz hn ?_
   rw[Ae]
   exact fin _ (if_pos e)
 · have e:¬s=[60,60]:=of_decide_eq_false e
   rw[Ae]
   refine c2'.atp.ld1 (j:=1) (by simp) ?_
   show asB (.bool a.2) _
   rw[Av]
   refine Ap (fun e2=>?_) (fun e2=>?_)
   · rw[Ae]
     refine c2'.atp.ld1 (j:=0) (by simp) ?_
     show asI .u64 (uI a.1) _
     rw[Au]
     refine Bax hn ?_
     rw[Ae]
     exact fin _ (by rw[if_neg e,if_pos e2])
   · rw[Ae]
     refine c2'.atp.ld1 (j:=0) (by simp) ?_
     show asI .u64 (uI a.1) _
     rw[Au,wI,Ak]
     refine Bay hn ?_
     rw[wU,Ak,Ae]
     exact fin _ (by rw[if_neg e,if_neg (by rw[e2];simp)])
end Go.Den
noncomputable section
namespace Go.Den
open Go.RowKit
open Go.Pre (V Kq vz Fh Mf Mg Pd Se shB Py Vy Hr Dt Ph Wy)
set_option maxRecDepth 100000
def Rz(hE:H)(B:P)(vL:AV)(i:Nat)(b:Bool)(h:H):Prop:=Exh hE h∧hE.next.nat≤B.nat∧B.nat<h.next.nat∧Cel h B 121 [vL,.int .i64 (Int.ofNat i),.bool b]
def FrN(n:Nat)(h h':H):Prop:=h.next.nat≤h'.next.nat∧∀c,c.nat<n→h'.at c=h.at c
theorem FrN.trans{n:Nat}{h h1 h2:H}(a:FrN n h h1)(b:FrN n h1 h2):FrN n h h2:=⟨Nat.le_trans a.1 b.1,fun c hc=>by rw[b.2 c hc,a.2 c hc]⟩
theorem FrN.exh{n:Nat}{h h':H}(x:Exh h h')(hn:n≤h.next.nat):FrN n h h':=⟨x.1,fun c hc=>x.2 c (by omega)⟩
theorem FrN.fro{n:Nat}{p:P}{h h':H}(f:FrO p h h')(hp:n≤p.nat)(hn:n≤h.next.nat):FrN n h h':=⟨f.1,fun c hc=>f.2 c (by omega) fun e=>by subst e;omega⟩
theorem FrO.frn{B:P}{h0 h h':H}(f:FrO B h0 h)(g:FrN h0.next.nat h h'):FrO B h0 h':=⟨Nat.le_trans f.1 g.1,fun c hc hn=>by rw[g.2 c hc,f.2 c hc hn]⟩
section
variable{hE h h':H}{B:P}{vL:AV}{i:Nat}{b:Bool}
theorem Rz.frn{n:Nat}(s:Rz hE B vL i b h)(f:FrN n h h')(hn:B.nat<n):Rz hE B vL i b h':=
 ⟨⟨Nat.le_trans s.1.1 f.1,fun c hc=>by rw[f.2 c (by have:=s.2.1;omega),s.1.2 c hc]⟩,s.2.1,Nat.lt_of_lt_of_le s.2.2.1 f.1,s.2.2.2.frame (f.2 B hn)⟩
theorem Rz.ext(s:Rz hE B vL i b h)(f:Exh h h'):Rz hE B vL i b h':=s.frn (FrN.exh f (Nat.le_refl _)) s.2.2.1
theorem Rz.loc{p:P}(s:Rz hE B vL i b h)(f:FrO p h h')(hp:B.nat<p.nat)(hn:p.nat<h.next.nat):Rz hE B vL i b h':=s.frn (FrN.fro f (Nat.le_refl _) (by omega)) hp
theorem Rz.l0{K:AV→Prop}(s:Rz hE B vL i b h)(hk:K vL):Go.Den.ld1 (.ptr B (0+0)) h K:=s.2.2.2.atp.ld1 (j:=0) (by simp) hk
theorem Rz.l1{K:AV→Prop}(s:Rz hE B vL i b h)(hk:K (.int .i64 (Int.ofNat i))):Go.Den.ld1 (.ptr B (0+1)) h K:=s.2.2.2.atp.ld1 (j:=1) (by simp) hk
theorem Rz.l2{K:AV→Prop}(s:Rz hE B vL i b h)(hk:K (.bool b)):Go.Den.ld1 (.ptr B (0+2)) h K:=s.2.2.2.atp.ld1 (j:=2) (by simp) hk
theorem Rz.s1{j:Nat}{K:H→Prop}(s:Rz hE B vL i b h)(hk:∀h',FrO B h h'→Rz hE B vL j b h'→K h'):Go.Den.st1 (.ptr B (0+1)) (.int .i64 (Int.ofNat j)) h K:=
 s.2.2.2.st1 (j:=1) (by simp) rfl fun h' f c=>hk h' f ⟨s.1.loc f s.2.1,s.2.1,Nat.lt_of_lt_of_le s.2.2.1 f.1,c⟩
theorem Rz.s2{y:Bool}{K:H→Prop}(s:Rz hE B vL i b h)(hk:∀h',FrO B h h'→Rz hE B vL i y h'→K h'):Go.Den.st1 (.ptr B (0+2)) (.bool y) h K:=
 s.2.2.2.st1 (j:=2) (by simp) rfl fun h' f c=>hk h' f ⟨s.1.loc f s.2.1,s.2.1,Nat.lt_of_lt_of_le s.2.2.1 f.1,c⟩
end
theorem Je{p:P}{h:H}{w v:V}{k:KV}(c:Cel h p 55 (vC w))(hk:∀h',FrO p h h'→k (vI v) h'):stn 2 (.ptr p 0) (vI v) h fun h8=>ldn 2 (.ptr p 0) h8 fun v9=>k v9 h8:=
 c.stn (cs':=vC v) rfl rfl (by decide) fun h' f c'=>c'.atp.ldn rfl (hk h' f)
theorem Oq{h:H}:Cel (h.new Ek) h.next 55 (vC (0#64,false)):=by rw[Am2];exact .new
theorem Ku{h:H}{v:V}{K:H→Prop}(hk:∀h',Exh h h'→h.next.nat<h'.next.nat→Cel h' h.next 55 (vC v)→K h'):stn 2 (.ptr h.next 0) (vI v) (h.new Ek) K:=
 (Oq (h:=h)).stn (cs':=vC v) rfl rfl (by decide) fun h' f c=>hk h' (Exh.new.loc f (Nat.le_refl _)) (by have:=f.1;rw[Aw] at this;omega) c
theorem Atf{a:AV}{l:List AV}{K:AV→Prop}:Apf 0 (.agg (a::l)) K=K a:=rfl
theorem A5v(b:Bool)(h:H):Ax env (env.ty 55) [(1,(.bool b))] h=some (.agg [.int .u64 (.ofNat 0),.bool b],h):=by kernel_rfl
theorem Atl(h:H):Ax env (env.ty 55) [] h=some (.agg [.int .u64 (.ofNat 0),.bool false],h):=by kernel_rfl
theorem Awi{n0:Nat}{h:H}{p7 p20:P}{un:Bool}{x y:BitVec 64}{w:V}{k:KV}(c20:Cel h p20 55 (vC (y,un)))(c7:Cel h p7 55 (vC w))(hne:p7≠p20)(u7:p7.nat<h.next.nat)(l7:n0≤p7.nat)(l20:n0≤p20.nat)(hk:∀h',FrN n0 h h'→k (vI (x,un)) h'):
 st1 (.ptr p20 (0+0)) (uI x) h (fun h31=>ldn 2 (.ptr p20 0) h31 fun v32=>stn 2 (.ptr p7 0) v32 h31 fun h33=>ldn 2 (.ptr p7 0) h33 fun v34=>k v34 h33):=by
 refine c20.st1 (j:=0) (by simp) rfl fun h1 f1 c1=>?_
 refine c1.atp.ldn rfl ?_
 refine(c7.fr f1 u7 hne).stn (cs':=vC (x,un)) rfl rfl (by decide) fun h2 f2 c2=>?_
 refine c2.atp.ldn rfl (hk h2 ((FrN.fro f1 l20 (by omega)).trans (FrN.fro f2 l7 (by have:=f1.1;omega))))
section
variable{hE h:H}{B:P}{vL:AV}{i:Nat}{s:List UInt8}{a b:V}{d:Bool}{k:KV}
theorem Bfn{y:Bool}(rs:Rz hE B vL i y h)(hs:s≠[124,124]∧s≠[38,38])(hk1:∀v h',Hr s a b d=some v→FrO B h h'→Rz hE B vL i y h'→k (vI v) h')(hk2:∀v h',Hr s a b d=none→FrO B h h'→Rz hE B vL i true h'→k (vI v) h'):W1 (.func 142) [.ptr B 0,S s,vI a,vI b,.bool d] h k:=by
 refine A9q (n:=4) Bw (Bjz ?_)
 unfold Aec
 rw[St]
 refine Vb (by simp) (Bo ?_)
 have c2:Cel (h.new (rowOf 55 (vC a))) h.next 55 (vC a):=.new
 have x1:Exh h (h.new (rowOf 55 (vC a))):=.new
 have n1:h.next.nat<(h.new (rowOf 55 (vC a))).next.nat:=by rw[Aw];omega
 generalize h.new (rowOf 55 (vC a))=h1 at c2 x1 n1 ⊢
 rw[St]
 refine Vb (by simp) (Bo ?_)
 have c5:Cel (h1.new (rowOf 55 (vC b))) h1.next 55 (vC b):=.new
 have x2:Exh h1 (h1.new (rowOf 55 (vC b))):=.new
 have n2:h1.next.nat<(h1.new (rowOf 55 (vC b))).next.nat:=by rw[Aw];omega
 replace c2:=c2.ext x2 n1
 replace x2:=x1.trans x2
 generalize h1.new (rowOf 55 (vC b))=h2 at c2 c5 x2 n2 ⊢
 refine Bo ?_
 have c7:Cel (h2.new Ek) h2.next 55 (vC (0#64,false)):=Oq
 have x3:Exh h2 (h2.new Ek):=.new
 have n3:h2.next.nat<(h2.new Ek).next.nat:=by rw[Aw];omega
 replace c2:=c2.ext x3 (by omega)
 replace c5:=c5.ext x3 n2
 replace x3:=x2.trans x3
 generalize h2.new Ek=h3 at c2 c5 c7 x3 n3 ⊢
 rw[Ae]
 refine c2.atp.ld1 (j:=1) (by simp) ?_
 show asB (.bool a.2) _
 rw[Av]
 refine Mc (b:=b.2) (fun k' hk'=>?_) ?_
 · rw[Ae]
   refine c5.atp.ld1 (j:=1) (by simp) ?_
   show asB (.bool b.2) _
   rw[Av];exact hk'
 rw[A5v,Ac]
 refine Bo ?_
 refine Ku (v:=(0#64,a.2||b.2)) fun h4 x4 n4 c20=>?_
 replace c2:=c2.ext x4 (by omega)
 replace c5:=c5.ext x4 (by omega)
 replace c7:=c7.ext x4 n3
 replace x4:=x3.trans x4
 have ne7:h2.next≠h3.next:=fun e=>by rw[e] at n3;omega
 have F4:FrN h.next.nat h h4:=FrN.exh x4 (Nat.le_refl _)
 have fin:∀(x:BitVec 64),Hr s a b d=some (x,a.2||b.2)→st1 (.ptr h3.next (0+0)) (uI x) h4 (fun h31=>ldn 2 (.ptr h3.next 0) h31 fun v32=>stn 2 (.ptr h2.next 0) v32 h31 fun h33=>ldn 2 (.ptr h2.next 0) h33 fun v34=>k v34 h33):=fun x hx=>
  Awi (n0:=h.next.nat) c20 c7 ne7 (by omega) (by omega) (by omega) fun h' f=>hk1 _ h' hx (FrO.refl.frn (F4.trans f)) (rs.frn (F4.trans f) rs.2.2.1)
 have la:∀K:Int→Prop,K (Int.ofNat a.1.toNat)→Af 0 (.ptr h.next 0) fun v23=>Go.Den.ld1 v23 h4 fun v24=>asI .u64 v24 K:=fun K hK=>by
  rw[Ae]
  refine c2.atp.ld1 (j:=0) (by simp) ?_
  show asI .u64 (uI a.1) _
  rw[Au];exact hK
 have lb:∀K:Int→Prop,K (Int.ofNat b.1.toNat)→Af 0 (.ptr h1.next 0) fun v23=>Go.Den.ld1 v23 h4 fun v24=>asI .u64 v24 K:=fun K hK=>by
  rw[Ae]
  refine c5.atp.ld1 (j:=0) (by simp) ?_
  show asI .u64 (uI b.1) _
  rw[Au];exact hK
 have out1:∀(v:V)(h5:H),Hr s a b d=some v→Exh h4 h5→stn 2 (.ptr h2.next 0) (vI v) h5 fun h8=>ldn 2 (.ptr h2.next 0) h8 fun v9=>k v9 h8:=fun v h5 hv x5=>by
  refine Je (c7.ext x5 (by omega)) fun h6 f6=>?_
  have f:FrN h.next.nat h h6:=(F4.trans (FrN.exh x5 (by have:=x4.1;omega))).trans (FrN.fro f6 (by omega) (by have:=x4.1;have:=x5.1;omega))
  exact hk1 v h6 hv (FrO.refl.frn f) (rs.frn f rs.2.2.1)
 rw[Ce (s:=s) (t:=[124]) (l:=1) (c:=124) rfl rfl,Ce (s:=s) (t:=[94]) (l:=1) (c:=94) rfl rfl,Ce (s:=s) (t:=[38]) (l:=1) (c:=38) rfl rfl,Ce (s:=s) (t:=[43]) (l:=1) (c:=43) rfl rfl,Ce (s:=s) (t:=[45]) (l:=1) (c:=45) rfl rfl,Ce (s:=s) (t:=[42]) (l:=1) (c:=42) rfl rfl,Ce (s:=s) (t:=[47]) (l:=1) (c:=47) rfl rfl,Ce (s:=s) (t:=[37]) (l:=1) (c:=37) rfl rfl]
 unfold Hr at fin out1 hk2 hk1
 refine Ap (fun e=>?_) (fun e=>?_)
 · refine la _ (lb _ (Bcc ?_))
   rw[Ae]
   exact fin _ (if_pos (of_decide_eq_true e))
 rw[if_neg (of_decide_eq_false e)] at fin out1 hk2 hk1
 refine Ap (fun e=>?_) (fun e=>?_)
 · refine la _ (lb _ (Ayz ?_))
   rw[Ae]
   exact fin _ (if_pos (of_decide_eq_true e))
 rw[if_neg (of_decide_eq_false e)] at fin out1 hk2 hk1
 refine Ap (fun e=>?_) (fun e=>?_)
 · refine la _ (lb _ (Ab4 ?_))
   rw[Ae]
   exact fin _ (if_pos (of_decide_eq_true e))
 rw[if_neg (of_decide_eq_false e)] at fin out1 hk2 hk1
 refine Ap (fun e=>?_) (fun e=>?_)
 · refine la _ (lb _ ?_)
   rw[A82,Ak,Ae]
   exact fin _ (if_pos (of_decide_eq_true e))
 rw[if_neg (of_decide_eq_false e)] at fin out1 hk2 hk1
 refine Ap (fun e=>?_) (fun e=>?_)
 · refine la _ (lb _ ?_)
   rw[A8z,Ak,Ae]
   exact fin _ (if_pos (of_decide_eq_true e))
 rw[if_neg (of_decide_eq_false e)] at fin out1 hk2 hk1
 refine Ap (fun e=>?_) (fun e=>?_)
 · refine la _ (lb _ ?_)
   rw[A80,Ak,Ae]
   exact fin _ (if_pos (of_decide_eq_true e))
 rw[if_neg (of_decide_eq_false e)] at fin out1 hk2 hk1
 have a2:(Yy W1 k 3).a2 (.ptr B 0) s.length (enc s) d (.ptr h.next 0) (.ptr h1.next 0) (.ptr h2.next 0) (a.2||b.2) (.ptr h3.next 0) s.length (enc s) (decide (s=[47])||decide (s=[37])) h4:=by
  refine A5b ?_
  unfold Aea
  refine Ap (fun e=>?_) (fun e=>?_)
  · have e:s=[47]∨s=[37]:=by simpa using e
    rw[if_pos e] at fin out1 hk2 hk1
    refine lb _ ?_
    rw[bv0]
    refine Ap (fun e0=>?_) (fun e0=>?_)
    · have e0:b.1=0#64:=of_decide_eq_true e0
      rw[if_pos e0] at fin out1 hk2 hk1
      have rs4:=rs.frn F4 rs.2.2.1
      rw[Al,Ac,Ae]
      refine rs4.l2 ?_
      rw[Av]
      refine Hf ?_
      rw[Al,Ac,Ae]
      refine rs4.s2 fun h5 f5 rs5=>?_
      have nB:B.nat<h.next.nat:=rs.2.2.1
      have c20':=c20.fr f5 n4 (fun e'=>by have:=x3.1;rw[e'] at this;omega)
      have c7':=c7.fr f5 (by omega) (fun e'=>by have:=x2.1;rw[e'] at this;omega)
      refine c20'.atp.ldn rfl ?_
      refine Je (v:=(0#64,a.2||b.2)) c7' fun h6 f6=>?_
      have f46:FrO B h h6:=((FrO.refl.frn F4).trans f5).loc f6 (by have:=x2.1;omega)
      have rs6:=rs5.loc f6 (by have:=x2.1;omega) (by have:=f5.1;omega)
      cases d with
      |true=>rw[Bool.or_true] at rs6;exact hk2 _ h6 (if_pos rfl) f46 rs6
      |false=>rw[Bool.or_false] at rs6;exact hk1 _ h6 (if_neg (by simp)) f46 rs6
    · have e0:¬b.1=0#64:=of_decide_eq_false e0
      rw[if_neg e0] at fin out1 hk2 hk1
      refine la _ (lb _ ?_)
      refine Dh (Bkz s a.1 b.1 (a.2||b.2) e0) ?_
      rw[Au,Ae]
      exact fin _ rfl
  · have e:¬(s=[47]∨s=[37]):=by simpa using e
    rw[if_neg e] at fin out1 hk2 hk1
    have a1:∀q,q=decide (s=[60,60]∨s=[62,62])→(Yy W1 k 2).a1 s.length (enc s) (.ptr h.next 0) (.ptr h1.next 0) (.ptr h2.next 0) (a.2||b.2) q h4:=fun q hq=>by
     subst hq
     refine A5c ?_
     unfold Aeb
     refine Ap (fun e=>?_) (fun e=>?_)
     · have e:s=[60,60]∨s=[62,62]:=of_decide_eq_true e
       rw[if_pos e] at out1
       refine c2.atp.ldn rfl ?_
       refine lb _ ?_
       rw[show(Int.ofNat 63)=Int.ofNat (63#64).toNat from rfl]
       refine Ab4 ?_
       refine Dh (Bky s a (n:=(b.1&&&63#64).toNat) ?_) ?_
       · rw[BitVec.toNat_and];exact Nat.lt_of_le_of_lt Nat.and_le_right (by decide)
       · exact out1 _ h4 rfl .refl
     · have e:¬(s=[60,60]∨s=[62,62]):=of_decide_eq_false e
       rw[if_neg e] at out1
       refine la _ (lb _ ?_)
       refine Dh (Bkx s a.1 b.1 (a.2||b.2)) ?_
       rw[Av]
       refine Dh (Ayc _) ?_
       exact out1 _ h4 rfl .refl
    rw[Ce (s:=s) (t:=[60,60]) (l:=2) (c:=15420) rfl rfl,Ce (s:=s) (t:=[62,62]) (l:=2) (c:=15934) rfl rfl]
    refine Ap (fun e2=>a1 _ ?_) (fun e2=>a1 _ ?_)
    · have e2':=of_decide_eq_true e2
      simp[e2']
    · have e2':=of_decide_eq_false e2
      simp[e2']
 refine Ap (fun e=>?_) (fun e=>?_)
 · rw[e,Bool.true_or] at a2
   rw[e];exact a2
 · rw[e,Bool.false_or] at a2
   exact a2
end
theorem Aun{h:H}{v:AV}{row:List (List UInt8)}{s:List UInt8}{k:KV}(hr:Rd 1 h v (es row))(hl:row.length≤100)(hk:∀z:Int,(Er (Int.ofNat 0) z=decide (s∈row))→k (.int .i64 z) h):∀(n i:Nat),row.length-i<n→i≤row.length→(∀x∈row.take i,s≠x)→(Ag6 W1 k n).a1 v s.length (enc s) (Int.ofNat row.length) (Int.ofNat i) h
 |0,_,hn,_,_=>absurd hn (Nat.not_lt_zero _)
 |n+1,i,hn,hi,hno=>by
  refine A4s ?_
  unfold Ac3
  rw[ilt]
  refine Ap (fun e=>?_) (fun e=>?_)
  · have e:i<row.length:=of_decide_eq_true e
    rw[Bh]
    refine hr.str e ?_
    rw[De,Dg]
    refine Ap (fun e2=>?_) (fun e2=>?_)
    · have e2:s=row[i]:=of_decide_eq_true e2
      refine hk _ ?_
      rw[ile,decide_eq_true (Nat.zero_le _)]
      exact(decide_eq_true (by rw[e2];exact List.getElem_mem e)).symm
    · rw[Eg,Cv (by omega),Ak]
      refine Aun hr hl hk n (i+1) (by omega) e fun x hx=>?_
      rw[List.take_succ_eq_append_getElem e] at hx
      rcases List.mem_append.1 hx with hx|hx
      · exact hno x hx
      · simp only[List.mem_singleton] at hx;subst hx;exact of_decide_eq_false e2
  · have e:i=row.length:=by have:=of_decide_eq_false e;omega
    rw[e,List.take_length] at hno
    refine hk _ ?_
    rw[decide_eq_false (fun hm=>hno s hm rfl)];rfl
theorem Bk0{h:H}{v:AV}{row:List (List UInt8)}{s:List UInt8}{k:KV}(hr:Rd 1 h v (es row))(hl:row.length≤100)(hk:k (.bool (decide (s∈row))) h):W1 (.func 185) [v,S s] h k:=by
 refine A9f (n:=1) Bw (Bjn ?_)
 unfold Adi
 refine A85 (n:=row.length+2) Bw (Bjc ?_)
 unfold Ac4
 rw[hr.len,Afm]
 refine Aun hr hl (fun z hz=>?_) (row.length+1) 0 (by omega) (Nat.zero_le _) (fun x hx=>by simp at hx)
 rw[Au,hz];exact hk
theorem A2j{T:Tm}{n:Nat}{e:TypeId}{cs:List AV}(hc:Cg T n 0=cs)(hn:cs.length=n)(h:H):Rd 1 (h.new (.row T n 0 e true)) (.slice h.next 0 n 1 true) (cs.map fun c=>[c]):=by
 subst hn
 refine .row h.next 0 T cs.length 0 e true true (by rw[List.length_map]) (by rw[Aw];omega) (Bs _ _) (by rw[List.length_map];omega) fun i hi=>?_
 have hi':i<cs.length:=by rw[List.length_map] at hi;exact hi
 rw[List.getElem_map]
 refine⟨rfl,fun j hj=>?_⟩
 have hj:j=0:=by simp at hj;exact hj
 subst hj
 have h1:(Cg T cs.length 0)[i]? =some cs[i]:=by
  rw[hc,List.getElem?_eq_getElem hi']
 rw[Jy,List.getElem?_map,List.getElem?_range hi'] at h1
 have h2:=Option.some.inj h1
 show Co T (0+i*1+0)=_
 rw[show 0+i*1+0=0+i by omega];exact h2
theorem Io{T:Tm}{n:Nat}{e:TypeId}{row:List (List UInt8)}(hc:Cg T n 0=row.map fun s=>S s)(hn:row.length=n)(h:H):Rd 1 (h.new (.row T n 0 e true)) (.slice h.next 0 n 1 true) (es row):=by
 have:=A2j (e:=e) hc (by rw[List.length_map];exact hn) h
 rw[List.map_map] at this
 exact this
def L0t:Tm:=Option.rec .e (fun t=>t) (Jb (Gt 1) 1 [(0,(.str 2 31868))] (Bg (He [.str 0 0] 1) 0 .e))
theorem L0b(h:H):Ao env 44 (fun e ei=>Ai 1 [(0,(.str 2 31868))] h e ei)=some (.slice h.next 0 1 1 true,h.new (.row L0t 1 0 9 true)):=by kernel_rfl
theorem L0c:Cg L0t 1 0=([[124,124]]:List (List UInt8)).map fun s=>S s:=by kernel_rfl
def L1t:Tm:=Option.rec .e (fun t=>t) (Jb (Gt 1) 1 [(0,(.str 2 9766))] (Bg (He [.str 0 0] 1) 0 .e))
theorem L1b(h:H):Ao env 44 (fun e ei=>Ai 1 [(0,(.str 2 9766))] h e ei)=some (.slice h.next 0 1 1 true,h.new (.row L1t 1 0 9 true)):=by kernel_rfl
theorem L1c:Cg L1t 1 0=([[38,38]]:List (List UInt8)).map fun s=>S s:=by kernel_rfl
def L2t:Tm:=Option.rec .e (fun t=>t) (Jb (Gt 1) 1 [(0,(.str 1 124))] (Bg (He [.str 0 0] 1) 0 .e))
theorem L2b(h:H):Ao env 44 (fun e ei=>Ai 1 [(0,(.str 1 124))] h e ei)=some (.slice h.next 0 1 1 true,h.new (.row L2t 1 0 9 true)):=by kernel_rfl
theorem L2c:Cg L2t 1 0=([[124]]:List (List UInt8)).map fun s=>S s:=by kernel_rfl
def L3t:Tm:=Option.rec .e (fun t=>t) (Jb (Gt 1) 1 [(0,(.str 1 94))] (Bg (He [.str 0 0] 1) 0 .e))
theorem L3b(h:H):Ao env 44 (fun e ei=>Ai 1 [(0,(.str 1 94))] h e ei)=some (.slice h.next 0 1 1 true,h.new (.row L3t 1 0 9 true)):=by kernel_rfl
theorem L3c:Cg L3t 1 0=([[94]]:List (List UInt8)).map fun s=>S s:=by kernel_rfl
def L4t:Tm:=Option.rec .e (fun t=>t) (Jb (Gt 1) 1 [(0,(.str 1 38))] (Bg (He [.str 0 0] 1) 0 .e))
theorem L4b(h:H):Ao env 44 (fun e ei=>Ai 1 [(0,(.str 1 38))] h e ei)=some (.slice h.next 0 1 1 true,h.new (.row L4t 1 0 9 true)):=by kernel_rfl
theorem L4c:Cg L4t 1 0=([[38]]:List (List UInt8)).map fun s=>S s:=by kernel_rfl
def L5t:Tm:=Option.rec .e (fun t=>t) (Jb (Gt 1) 2 [(0,(.str 2 15677)),(1,(.str 2 15649))] (Bg (He [.str 0 0] 2) 0 .e))
theorem L5b(h:H):Ao env 44 (fun e ei=>Ai 2 [(0,(.str 2 15677)),(1,(.str 2 15649))] h e ei)=some (.slice h.next 0 2 1 true,h.new (.row L5t 2 0 9 true)):=by kernel_rfl
theorem L5c:Cg L5t 2 0=([[61,61],[33,61]]:List (List UInt8)).map fun s=>S s:=by kernel_rfl
def L6t:Tm:=Option.rec .e (fun t=>t) (Jb (Gt 1) 4 [(0,(.str 1 60)),(1,(.str 1 62)),(2,(.str 2 15676)),(3,(.str 2 15678))] (Bg (He [.str 0 0] 4) 0 .e))
theorem L6b(h:H):Ao env 44 (fun e ei=>Ai 4 [(0,(.str 1 60)),(1,(.str 1 62)),(2,(.str 2 15676)),(3,(.str 2 15678))] h e ei)=some (.slice h.next 0 4 1 true,h.new (.row L6t 4 0 9 true)):=by kernel_rfl
theorem L6c:Cg L6t 4 0=([[60],[62],[60,61],[62,61]]:List (List UInt8)).map fun s=>S s:=by kernel_rfl
def L7t:Tm:=Option.rec .e (fun t=>t) (Jb (Gt 1) 2 [(0,(.str 2 15420)),(1,(.str 2 15934))] (Bg (He [.str 0 0] 2) 0 .e))
theorem L7b(h:H):Ao env 44 (fun e ei=>Ai 2 [(0,(.str 2 15420)),(1,(.str 2 15934))] h e ei)=some (.slice h.next 0 2 1 true,h.new (.row L7t 2 0 9 true)):=by kernel_rfl
theorem L7c:Cg L7t 2 0=([[60,60],[62,62]]:List (List UInt8)).map fun s=>S s:=by kernel_rfl
def L8t:Tm:=Option.rec .e (fun t=>t) (Jb (Gt 1) 2 [(0,(.str 1 43)),(1,(.str 1 45))] (Bg (He [.str 0 0] 2) 0 .e))
theorem L8b(h:H):Ao env 44 (fun e ei=>Ai 2 [(0,(.str 1 43)),(1,(.str 1 45))] h e ei)=some (.slice h.next 0 2 1 true,h.new (.row L8t 2 0 9 true)):=by kernel_rfl
theorem L8c:Cg L8t 2 0=([[43],[45]]:List (List UInt8)).map fun s=>S s:=by kernel_rfl
def L9t:Tm:=Option.rec .e (fun t=>t) (Jb (Gt 1) 3 [(0,(.str 1 42)),(1,(.str 1 47)),(2,(.str 1 37))] (Bg (He [.str 0 0] 3) 0 .e))
theorem L9b(h:H):Ao env 44 (fun e ei=>Ai 3 [(0,(.str 1 42)),(1,(.str 1 47)),(2,(.str 1 37))] h e ei)=some (.slice h.next 0 3 1 true,h.new (.row L9t 3 0 9 true)):=by kernel_rfl
theorem L9c:Cg L9t 3 0=([[42],[47],[37]]:List (List UInt8)).map fun s=>S s:=by kernel_rfl
def LLt(p0 p1 p2 p3 p4 p5 p6 p7 p8 p9:P):Tm:=Option.rec .e (fun t=>t) (Jb (Gt 1) 10 [(0,(.slice p0 0 1 1 true)),(1,(.slice p1 0 1 1 true)),(2,(.slice p2 0 1 1 true)),(3,(.slice p3 0 1 1 true)),(4,(.slice p4 0 1 1 true)),(5,(.slice p5 0 2 1 true)),(6,(.slice p6 0 4 1 true)),(7,(.slice p7 0 2 1 true)),(8,(.slice p8 0 2 1 true)),(9,(.slice p9 0 3 1 true))] (Bg (He [.Cy] 10) 0 .e))
theorem LLb(p0 p1 p2 p3 p4 p5 p6 p7 p8 p9:P)(h:H):Ao env 245 (fun e ei=>Ai 10 [(0,(.slice p0 0 1 1 true)),(1,(.slice p1 0 1 1 true)),(2,(.slice p2 0 1 1 true)),(3,(.slice p3 0 1 1 true)),(4,(.slice p4 0 1 1 true)),(5,(.slice p5 0 2 1 true)),(6,(.slice p6 0 4 1 true)),(7,(.slice p7 0 2 1 true)),(8,(.slice p8 0 2 1 true)),(9,(.slice p9 0 3 1 true))] h e ei)=some (.slice h.next 0 10 1 true,h.new (.row (LLt p0 p1 p2 p3 p4 p5 p6 p7 p8 p9) 10 0 44 true)):=by kernel_rfl
theorem LLc(p0 p1 p2 p3 p4 p5 p6 p7 p8 p9:P):Cg (LLt p0 p1 p2 p3 p4 p5 p6 p7 p8 p9) 10 0=[.slice p0 0 1 1 true,.slice p1 0 1 1 true,.slice p2 0 1 1 true,.slice p3 0 1 1 true,.slice p4 0 1 1 true,.slice p5 0 2 1 true,.slice p6 0 4 1 true,.slice p7 0 2 1 true,.slice p8 0 2 1 true,.slice p9 0 3 1 true]:=by kernel_rfl
def lvV(s:List UInt8)(n:Nat):AV:=if n=0 then .tuple [(.str 0 0),(.int .i64 (Int.ofNat 0))] else .tuple [S s,(.int .i64 (Int.ofNat n))]
theorem Aus{h:H}{v:AV}{vs:List AV}{s:List UInt8}{k:KV}(hr:Rd 1 h v (vs.map fun c=>[c]))(hv:vs.length=10)(hrow:∀i (hi:i<vs.length) (hj:i<Dt.length),Rd 1 h vs[i] (es Dt[i])):∀(n i:Nat),10-i<n→i≤10→k (lvV s (Ph (Dt.drop i) i s)) h→(Aex W1 k n).a1 s.length (enc s) v (Int.ofNat 10) (Int.ofNat i) h
 |0,_,hn,_,_=>absurd hn (Nat.not_lt_zero _)
 |n+1,i,hn,hi,hk=>by
  refine A5d ?_
  unfold Aed
  rw[ilt]
  refine Ap (fun e=>?_) (fun e=>?_)
  · have e:i<10:=of_decide_eq_true e
    have e1:i<vs.length:=by omega
    have e2:i<Dt.length:=e
    rw[Bh]
    refine hr.elem (i:=i) (by rw[List.length_map];exact e1) fun q o hq _ hat=>?_
    rw[List.getElem_map] at hat
    have:=hat.ld1 (j:=0) (K:=fun v68=>W1 (.func 185) [v68,S s] h fun v69 h70=>asB v69 fun b71=>cnd b71 (fI (wrap .i64 (Cl (Int.ofNat i) (Int.ofNat 1))) fun n72=>k (.tuple [S s,(.int .i64 n72)]) h70) (fI (wrap .i64 (Cl (Int.ofNat i) (Int.ofNat 1))) fun n73=>(Aex W1 k n).a1 s.length (enc s) v (Int.ofNat 10) n73 h70)) Nat.one_pos ?_
    · exact this
    · show W1 (.func 185) [vs[i],S s] h _
      rw[List.drop_eq_getElem_cons e2,Ph] at hk
      refine Bk0 (hrow i e1 e2) ?_ ?_
      · exact(show∀r∈Dt,r.length≤100 by decide) _ (List.getElem_mem e2)
      · rw[Av]
        refine Ap (fun em=>?_) (fun em=>?_)
        · rw[if_pos (of_decide_eq_true em)] at hk
          rw[Eg,Cv (by omega),Ak]
          unfold lvV at hk
          rw[if_neg (Nat.succ_ne_zero _)] at hk
          exact hk
        · rw[if_neg (of_decide_eq_false em)] at hk
          rw[Eg,Cv (by omega),Ak]
          exact Aus hr hv hrow n (i+1) (by omega) e hk
  · have e:i=10:=by have:=of_decide_eq_false e;omega
    subst e
    exact hk
end Go.Den
noncomputable section
namespace Go.Den
open Go.RowKit
open Go.Pre (V Kq vz Fh Mf Mg Pd Hr Dt Ph Wy evB Cu unary Li Jc)
set_option maxRecDepth 100000
abbrev Gx:=Go.Pre.Tok
def tk(x:En):Gx:=(x.kind.toNat,x.text)
def Kn(t:Gx):Option V:=
 if t.1=2 then(Vs t.2).map fun p=>(BitVec.ofNat 64 p.1,p.2)
 else if t.1=1 then some (0#64,false)
 else if t.1=3 then(Ge t.2).map fun p=>(BitVec.ofInt 64 p.1,p.2) else none
abbrev unP(C:Bool→List Gx→Go.Pre.R V Gx):=unary Kn Mf Mg Pd C
abbrev cdP(n:Nat):=Jc Kn Mf Mg Pd vz Fh Go.Pre.lvl Go.Pre.need Go.Pre.two n
abbrev evP(C:Bool→List Gx→Go.Pre.R V Gx):=evB Go.Pre.lvl Go.Pre.need Go.Pre.two (unP C)
abbrev loP(C:Bool→List Gx→Go.Pre.R V Gx):=Cu Go.Pre.lvl Go.Pre.need Go.Pre.two (unP C)
section
variable{C:Bool→List Gx→Go.Pre.R V Gx}{d:Bool}{t:Gx}{r:List Gx}
theorem Alb:unP C d (Go.Pre.P [43]::r)=unP C d r:=Go.Pre.Awd
theorem Aqg:unP C d (Go.Pre.P [45]::r)=(unP C d r).map fun p=>(Mf p.1,p.2):=Go.Pre.A0i
theorem Aqh:unP C d (Go.Pre.P [126]::r)=(unP C d r).map fun p=>(Mg p.1,p.2):=Go.Pre.A0j
theorem Aqf:unP C d (Go.Pre.P [33]::r)=(unP C d r).map fun p=>(Pd p.1,p.2):=Go.Pre.A0h
theorem Aqe:unP C d (Go.Pre.P [40]::r)=Go.Pre.Ahf (C d r):=Go.Pre.A0g
theorem Ala(h1:t≠Go.Pre.P [43])(h2:t≠Go.Pre.P [45])(h3:t≠Go.Pre.P [126])(h4:t≠Go.Pre.P [33])(h5:t≠Go.Pre.P [40]):unP C d (t::r)=(Kn t).map fun v=>(v,r):=Go.Pre.Awc h1 h2 h3 h4 h5
end
def Res(T:List Gx)(o:Go.Pre.R V Gx)(i:Nat)(b:Bool)(v:V):Prop:=match o with
 |some p=>b=false∧v=p.1∧i≤T.length∧T.drop i=p.2
 |none=>b=true
def Wt(hE:H)(B:P)(vL:AV)(T:List Gx)(h0:H)(o:Go.Pre.R V Gx)(i:Nat)(k:KV):Prop:=
 ∀h' v i' b,FrO B h0 h'→Rz hE B vL i' b h'→i≤i'→i'≤T.length+1→Res T o i' b v→k (vI v) h'
theorem A5x(v:AV)(hv:Sl v)(h:H):Ax env (env.ty 121) [(0,v)] h=some (.agg [v,.int .i64 (Int.ofNat 0),.bool false],h):=by
 rcases hv with rfl|⟨b,o,n,z,t,rfl⟩
 · kernel_rfl
 · kernel_rfl
theorem Azx{x:En}(hs:Sl x.sites):Pj 4 (.agg x.cells) (.agg x.cells)=true:=by
 have e:Pj 4 (.agg x.cells) (.agg x.cells)=allEq (Pj 3) x.cells x.cells:=rfl
 rw[e]
 have h8:Pj 3 x.sites x.sites=true:=by
  rcases hs with h|⟨b,o,n,z,t,h⟩
  · rw[h];rfl
  · rw[h];exact Blk
 have hB:∀b:Bool,Pj 3 (.bool b) (.bool b)=true:=fun b=>by cases b<;>rfl
 unfold En.cells
 simp only[allEq,avI,avS,hB,h8]
 rfl
theorem avV{v:V}:Pj 4 (vI v) (vI v)=true:=by
 have e:Pj 4 (vI v) (vI v)=allEq (Pj 3) (vC v) (vC v):=rfl
 rw[e]
 have hB:∀b:Bool,Pj 3 (.bool b) (.bool b)=true:=fun b=>by cases b<;>rfl
 simp only[allEq,avI,hB]
 rfl
theorem Ae4{u ok:Bool}{B:Nat}{set dd:List UInt8}{p:Nat×Bool}(h:Zh u ok B set dd=some p):p.1<18446744073709551616:=by
 unfold Zh at h
 split at h
 · cases h
 · split at h
   · cases h;assumption
   · cases h
theorem Am4{s:List UInt8}{p:Nat×Bool}(h:Vs s=some p):p.1<18446744073709551616:=by
 unfold Vs at h
 split at h
 · exact Ae4 h
 · split at h
   · exact Ae4 h
   · exact Ae4 h
theorem An3{s:List UInt8}{p:Int×Bool}(h:Ge s=some p):∃x:BitVec 64,p.1=Int.ofNat x.toNat:=by
 unfold Ge at h
 split at h
 · cases h
 · split at h
   · cases h
   · cases h
     exact⟨_,wOf _⟩
section
variable{hE:H}{L:List En}{vL:AV}{B:P}(hr:RdT hE vL L)(hl:L.length≤1000000)
include hr hl
theorem c88{s:List UInt8}{i:Nat}{b:Bool}{h:H}{k:KV}(rs:Rz hE B vL i b h)(hk1:∀h' (hlt:i<L.length),tk L[i]=Go.Pre.P s→FrO B h h'→Rz hE B vL (i+1) b h'→k (.bool true) h')
 (hk2:∀h',(∀hlt:i<L.length,¬tk L[i]=Go.Pre.P s)→FrO B h h'→Rz hE B vL i b h'→k (.bool false) h'):W1 (.func 88) [.ptr B 0,S s] h k:=by
 refine w88 (n:=1) Bw (g88 ?_)
 unfold Alj
 rw[Al,Ac,Ae]
 refine rs.l1 ?_
 rw[Au,Al,Ac,Ae]
 refine rs.l0 ?_
 rw[hr.len,ilt]
 refine Fu (fun e=>?_) (fun e=>?_)
 · have e:i<L.length:=of_decide_eq_true e
   rw[Al,Ac,Ae]
   refine rs.l0 ?_
   rw[Al,Ac,Ae]
   refine rs.l1 ?_
   rw[Au,Bh]
   refine(hr.rd e).tok rs.1 e ?_
   refine Blb L[i] s fun h1 x1=>?_
   rw[Av]
   have rs1:=rs.ext x1
   refine Ap (fun e1=>?_) (fun e1=>?_)
   · rw[e1]
     rw[Bool.and_eq_true,decide_eq_true_eq,decide_eq_true_eq] at e1
     rw[Al,Ac,Ae]
     refine rs1.l1 ?_
     rw[Au,Eg,Cv (by omega),Ak,Al,Ac,Ae]
     refine rs1.s1 fun h2 f2 rs2=>?_
     exact hk1 h2 e (by unfold tk Go.Pre.P;rw[e1.1,e1.2];rfl) ((FrO.exh x1).trans f2) rs2
   · rw[e1]
     rw[Bool.and_eq_false_iff,decide_eq_false_iff_not,decide_eq_false_iff_not] at e1
     refine hk2 h1 (fun _ ht=>?_) (.exh x1) rs1
     unfold tk Go.Pre.P at ht
     have t1:=congrArg Prod.fst ht
     have t2:=congrArg Prod.snd ht
     simp only[] at t1 t2
     rcases e1 with e1|e1
     · exact e1 (by omega)
     · exact e1 t2
 · have e:¬i<L.length:=of_decide_eq_false e
   exact Ca rfl (hk2 h (fun hlt=>absurd hlt e) .refl rs)
def Ab5:List Gx→AV
 |[]=>.tuple [(.str 0 0),(.int .i64 (Int.ofNat 0))]
 |t::_=>lvV t.2 (Go.Pre.lvl t)
omit hr hl in
theorem Axl{t:Gx}{r:List Gx}(h:Go.Pre.lvl t=0):Ab5 (t::r)=.tuple [(.str 0 0),(.int .i64 (Int.ofNat 0))]:=if_pos h
omit hr hl in
theorem Anh{t:Gx}{r:List Gx}(h:Go.Pre.lvl t≠0):Ab5 (t::r)=.tuple [S t.2,(.int .i64 (Int.ofNat (Go.Pre.lvl t)))]:=if_neg h
omit hl in
theorem Bk9{i:Nat}{b:Bool}{h:H}{k:KV}(rs:Rz hE B vL i b h)(hk:∀h',Exh h h'→k (Ab5 ((L.map tk).drop i)) h'):W1 (.func 140) [.ptr B 0] h k:=by
 refine A9r (n:=12) Bw (Bj0 ?_)
 unfold Aee
 rw[Al,Ac,Ae]
 refine rs.l1 ?_
 rw[Au,Al,Ac,Ae]
 refine rs.l0 ?_
 rw[hr.len,ile]
 by_cases e:i<L.length
 · have hd:(L.map tk).drop i=tk L[i]::(L.map tk).drop (i+1):=by
    rw[List.drop_eq_getElem_cons (by rw[List.length_map];exact e),List.getElem_map]
   rw[hd] at hk
   have hi':i<(L.map En.cells).length:=by rw[List.length_map];exact e
   refine Mc (b:=Ck (decide (L[i].kind=5))) (fun k' hk'=>?_) ?_
   · rw[Al,Ac,Ae]
     refine rs.l0 ?_
     rw[Al,Ac,Ae]
     refine rs.l1 ?_
     rw[Au,Bh]
     refine((hr.rd e).ext rs.1).elem hi' fun q o hq _ hat=>?_
     rw[Ij e] at hat
     rw[Ae]
     refine hat.ld1 (j:=0) (by show 0<8;decide) ?_
     show asI .i64 (.int .i64 L[i].kind) _
     rw[Au,Aa5];exact hk'
   rw[decide_eq_false (show¬L.length≤i by omega),Bool.false_or]
   refine Ap (fun e5=>?_) (fun e5=>?_)
   · have h5:¬L[i].kind=5:=by simpa[Bj] using e5
     have hl0:Go.Pre.lvl (tk L[i])=0:=if_neg (by unfold tk;simp only[];omega)
     have:=hk h .refl
     rw[show Ab5 (tk L[i]::(L.map tk).drop (i+1))=lvV L[i].text (Go.Pre.lvl (tk L[i])) from rfl,hl0] at this
     exact this
   · have h5:L[i].kind=5:=by simpa[Bj] using e5
     rw[Al,Ac,Ae]
     refine rs.l0 ?_
     rw[Al,Ac,Ae]
     refine rs.l1 ?_
     rw[Au,Bh]
     refine((hr.rd e).ext rs.1).elem hi' fun q o hq _ hat=>?_
     rw[Ij e] at hat
     rw[Ae]
     refine hat.ld1 (j:=1) (by show 1<8;decide) ?_
     show asS (S L[i].text) _
     rw[De]
     rw[L0b,Ac]
     have r0:=Io (e:=9) L0c rfl h
     have x0:Exh h (h.new (.row L0t 1 0 9 true)):=.new
     generalize h.new (.row L0t 1 0 9 true)=h0' at r0 x0 ⊢
     rw[L1b,Ac]
     have r1:=Io (e:=9) L1c rfl h0'
     have y:Exh h0' (h0'.new (.row L1t 1 0 9 true)):=.new
     replace r0:=r0.ext y
     replace x0:=x0.trans y
     generalize h0'.new (.row L1t 1 0 9 true)=h1' at r0 r1 x0 ⊢
     clear y
     rw[L2b,Ac]
     have r2:=Io (e:=9) L2c rfl h1'
     have y:Exh h1' (h1'.new (.row L2t 1 0 9 true)):=.new
     replace r0:=r0.ext y
     replace r1:=r1.ext y
     replace x0:=x0.trans y
     generalize h1'.new (.row L2t 1 0 9 true)=h2' at r0 r1 r2 x0 ⊢
     clear y
     rw[L3b,Ac]
     have r3:=Io (e:=9) L3c rfl h2'
     have y:Exh h2' (h2'.new (.row L3t 1 0 9 true)):=.new
     replace r0:=r0.ext y
     replace r1:=r1.ext y
     replace r2:=r2.ext y
     replace x0:=x0.trans y
     generalize h2'.new (.row L3t 1 0 9 true)=h3' at r0 r1 r2 r3 x0 ⊢
     clear y
     rw[L4b,Ac]
     have r4:=Io (e:=9) L4c rfl h3'
     have y:Exh h3' (h3'.new (.row L4t 1 0 9 true)):=.new
     replace r0:=r0.ext y
     replace r1:=r1.ext y
     replace r2:=r2.ext y
     replace r3:=r3.ext y
     replace x0:=x0.trans y
     generalize h3'.new (.row L4t 1 0 9 true)=h4' at r0 r1 r2 r3 r4 x0 ⊢
     clear y
     rw[L5b,Ac]
     have r5:=Io (e:=9) L5c rfl h4'
     have y:Exh h4' (h4'.new (.row L5t 2 0 9 true)):=.new
     replace r0:=r0.ext y
     replace r1:=r1.ext y
     replace r2:=r2.ext y
     replace r3:=r3.ext y
     replace r4:=r4.ext y
     replace x0:=x0.trans y
     generalize h4'.new (.row L5t 2 0 9 true)=h5' at r0 r1 r2 r3 r4 r5 x0 ⊢
     clear y
     rw[L6b,Ac]
     have r6:=Io (e:=9) L6c rfl h5'
     have y:Exh h5' (h5'.new (.row L6t 4 0 9 true)):=.new
     replace r0:=r0.ext y
     replace r1:=r1.ext y
     replace r2:=r2.ext y
     replace r3:=r3.ext y
     replace r4:=r4.ext y
     replace r5:=r5.ext y
     replace x0:=x0.trans y
     generalize h5'.new (.row L6t 4 0 9 true)=h6' at r0 r1 r2 r3 r4 r5 r6 x0 ⊢
     clear y
     rw[L7b,Ac]
     have r7:=Io (e:=9) L7c rfl h6'
     have y:Exh h6' (h6'.new (.row L7t 2 0 9 true)):=.new
     replace r0:=r0.ext y
     replace r1:=r1.ext y
     replace r2:=r2.ext y
     replace r3:=r3.ext y
     replace r4:=r4.ext y
     replace r5:=r5.ext y
     replace r6:=r6.ext y
     replace x0:=x0.trans y
     generalize h6'.new (.row L7t 2 0 9 true)=h7' at r0 r1 r2 r3 r4 r5 r6 r7 x0 ⊢
     clear y
     rw[L8b,Ac]
     have r8:=Io (e:=9) L8c rfl h7'
     have y:Exh h7' (h7'.new (.row L8t 2 0 9 true)):=.new
     replace r0:=r0.ext y
     replace r1:=r1.ext y
     replace r2:=r2.ext y
     replace r3:=r3.ext y
     replace r4:=r4.ext y
     replace r5:=r5.ext y
     replace r6:=r6.ext y
     replace r7:=r7.ext y
     replace x0:=x0.trans y
     generalize h7'.new (.row L8t 2 0 9 true)=h8' at r0 r1 r2 r3 r4 r5 r6 r7 r8 x0 ⊢
     clear y
     rw[L9b,Ac]
     have r9:=Io (e:=9) L9c rfl h8'
     have y:Exh h8' (h8'.new (.row L9t 3 0 9 true)):=.new
     replace r0:=r0.ext y
     replace r1:=r1.ext y
     replace r2:=r2.ext y
     replace r3:=r3.ext y
     replace r4:=r4.ext y
     replace r5:=r5.ext y
     replace r6:=r6.ext y
     replace r7:=r7.ext y
     replace r8:=r8.ext y
     replace x0:=x0.trans y
     generalize h8'.new (.row L9t 3 0 9 true)=h9' at r0 r1 r2 r3 r4 r5 r6 r7 r8 r9 x0 ⊢
     clear y
     rw[LLb,Ac,Ri]
     generalize h.next=p0,h0'.next=p1,h1'.next=p2,h2'.next=p3,h3'.next=p4,h4'.next=p5,h5'.next=p6,h6'.next=p7,h7'.next=p8,h8'.next=p9 at*
     have rr:=A2j (e:=44) (LLc p0 p1 p2 p3 p4 p5 p6 p7 p8 p9) rfl h9'
     have y:Exh h9' (h9'.new (.row (LLt p0 p1 p2 p3 p4 p5 p6 p7 p8 p9) 10 0 44 true)):=.new
     generalize h9'.new (.row (LLt p0 p1 p2 p3 p4 p5 p6 p7 p8 p9) 10 0 44 true)=h10' at rr y ⊢
     refine Aus rr rfl (fun i hi hj=>?_) 11 0 (by omega) (by omega) ?_
     · match i,hi with
       |0,_=>exact r0.ext y
       |1,_=>exact r1.ext y
       |2,_=>exact r2.ext y
       |3,_=>exact r3.ext y
       |4,_=>exact r4.ext y
       |5,_=>exact r5.ext y
       |6,_=>exact r6.ext y
       |7,_=>exact r7.ext y
       |8,_=>exact r8.ext y
       |9,_=>exact r9.ext y
       |n+10,hn=>exact absurd hn (by show¬n+10<10;omega)
     · have:=hk h10' (x0.trans y)
       rw[show Ab5 (tk L[i]::(L.map tk).drop (i+1))=lvV L[i].text (Go.Pre.lvl (tk L[i])) from rfl,show Go.Pre.lvl (tk L[i])=Ph (Dt.drop 0) 0 L[i].text from if_pos (by unfold tk;simp only[];omega)] at this
       exact this
 · have hd:(L.map tk).drop i=[]:=List.drop_eq_nil_of_le (by rw[List.length_map];omega)
   rw[hd] at hk
   rw[decide_eq_true (show L.length≤i by omega)]
   refine Hx (fun e=>nomatch e) (fun _=>?_)
   exact Bz rfl (hk h .refl)
omit hr in
theorem Ako{i n:Nat}{h0 h:H}{p1:P}{v:V}{ok:Bool}{k:KV}(hi:i≤L.length)(rs:Rz hE B vL i false h)(f0:FrO B h0 h)(c1:Cel h p1 55 (vC v))(l1:h0.next.nat≤p1.nat)(u1:p1.nat<h.next.nat)(hB:B.nat<h0.next.nat)(hk:∀h',FrO B h0 h'→Rz hE B vL (i+1) (!ok) h'→k (vI v) h'):
 (Aew W1 k (n+1)).a1 (.ptr B 0) (.ptr p1 0) ok h:=by
 refine A4v ?_
 unfold Adj
 rw[Al,Ac,Ae]
 refine rs.l1 ?_
 rw[Au,Eg,Cv (by omega),Ak,Al,Ac,Ae]
 refine rs.s1 fun h1 f1 rs1=>?_
 rw[Al,Ac,Ae]
 refine rs1.l2 ?_
 rw[Av]
 refine Hf ?_
 rw[Al,Ac,Ae]
 refine rs1.s2 fun h2 f2 rs2=>?_
 have ne:p1≠B:=fun e=>by subst e;omega
 have c2:=(c1.fr f1 u1 ne).fr f2 (by have:=f1.1;omega) ne
 refine c2.atp.ldn rfl ?_
 refine Je c2 fun h3 f3=>?_
 refine hk h3 ((f0.trans f1).trans f2 |>.loc f3 l1) ?_
 rw[Bool.false_or,Bj] at rs2
 exact rs2.loc f3 (by omega) (by have:=f1.1;have:=f2.1;omega)
theorem Bk1{i:Nat}{h:H}{k:KV}(hi:i≤L.length)(htx:∀x∈L,x.text.length≤1000000∧Sl x.sites)(he:Ky hE)(rs:Rz hE B vL i false h)(hk:∀h' v ok,FrO B h h'→Rz hE B vL (i+1) (!ok) h'→(∀hlt:i<L.length,Kn (tk L[i])=if ok then some v else none)→(¬i<L.length→ok=false)→k (vI v) h'):W1 (.func 184) [.ptr B 0] h k:=by
 refine A9g (n:=3) Bw (Bjo ?_)
 unfold Adk
 refine Bo ?_
 have hB:=rs.2.2.1
 have c1:Cel (h.new Ek) h.next 55 (vC (0#64,false)):=Oq
 have x1:Exh h (h.new Ek):=.new
 have n1:h.next.nat<(h.new Ek).next.nat:=by rw[Aw];omega
 have rs1:=rs.ext x1
 generalize h.new Ek=h1 at c1 x1 n1 rs1 ⊢
 have f1:FrO B h h1:=.exh x1
 rw[Al,Ac,Ae]
 refine rs1.l1 ?_
 rw[Au,Al,Ac,Ae]
 refine rs1.l0 ?_
 rw[hr.len,ilt]
 refine Ap (fun e=>?_) (fun e=>?_)
 · have e:i<L.length:=of_decide_eq_true e
   obtain⟨ht,hs⟩:=htx _ (List.getElem_mem e)
   have hi':i<(L.map En.cells).length:=by rw[List.length_map];exact e
   rw[Al,Ac,Ae]
   refine rs1.l0 ?_
   rw[Al,Ac,Ae]
   refine rs1.l1 ?_
   rw[Au,Bh]
   refine((hr.rd e).ext rs1.1).elem hi' fun q o hq _ hat=>?_
   rw[Ij e] at hat
   refine hat.ldn rfl (Bo ?_)
   have x2:Exh h1 (h1.new Aw6):=.new
   have rs2:=rs1.ext x2
   have hat2:=hat.ext x2 hq
   refine rs2.l0 ?_
   rw[Atq hr.sl]
   refine rs2.l1 ?_
   rw[Au]
   refine Aaa avI ?_
   refine hat2.ldn rfl ?_
   refine Aaa (Azx hs) ?_
   refine Ar7 (e:=43) (zs:=[(.int .i64 (Int.ofNat 0)),(.str 0 0),(.bool false),(.str 0 0),(.int .i64 (Int.ofNat 0)),(.int .i64 (Int.ofNat 0)),(.bool false),.Cy]) rfl rfl (by decide) fun h3 x3 n3 at3=>?_
   replace c1:=c1.ext x3 n1
   replace rs1:=rs1.ext x3
   replace f1:=f1.trans (.exh x3)
   have u1:h.next.nat<h3.next.nat:=by have:=x3.1;omega
   have he3:Ky h3:=he.keep rs1.1.1 rs1.1.2
   have key:∀(v:V)(ok:Bool)(h4:H),Exh h3 h4→(Kn (tk L[i])=if ok then some v else none)→Go.Den.stn 2 (.ptr h.next 0) (vI v) h4 fun h44=>(Aew W1 k 2).a1 (.ptr B 0) (.ptr h.next 0) ok h44:=fun v ok h4 x4 hp=>by
    refine(c1.ext x4 u1).stn (cs':=vC v) rfl rfl (by decide) fun h5 f5 c5=>?_
    have:=x4.1
    refine Ako hl hi ((rs1.ext x4).loc f5 hB (by omega)) ((f1.trans (.exh x4)).loc f5 (Nat.le_refl _)) c5 (Nat.le_refl _) (by have:=f5.1;omega) hB fun h' f' rs'=>?_
    exact hk h' v ok f' rs' (fun _=>hp) (fun hn=>absurd e hn)
   rw[Ae]
   refine at3.kd ?_
   rw[Au,Aa5,Aa5]
   refine Ap (fun e2=>?_) (fun e2=>?_)
   · have e2:L[i].kind=2:=of_decide_eq_true e2
     have hpv:Kn (tk L[i])=(Vs L[i].text).map fun p=>(BitVec.ofNat 64 p.1,p.2):=if_pos (by unfold tk;simp only[];omega)
     rw[Ae]
     refine at3.tx ?_
     rw[De]
     refine Abs (c64 L[i].text (by omega)) rfl (Za _) he3 ?_
     rw[hpv] at key
     cases hn:Vs L[i].text with
     |none=>
      rw[hn] at key
      exact key (0#64,false) false h3 .refl rfl
     |some p=>
      rw[hn] at key
      have hlt:=Am4 hn
      have:=key (BitVec.ofNat 64 p.1,p.2) true h3 .refl rfl
      unfold vI vC uI at this
      rw[BitVec.toNat_ofNat,Nat.mod_eq_of_lt hlt] at this
      exact this
   · have e2:¬L[i].kind=2:=of_decide_eq_false e2
     refine Ap (fun e3=>?_) (fun e3=>?_)
     · have e3:L[i].kind=3:=of_decide_eq_true e3
       have hpv:Kn (tk L[i])=(Ge L[i].text).map fun p=>(BitVec.ofInt 64 p.1,p.2):=by
        unfold Kn
        rw[if_neg (by unfold tk;simp only[];omega),if_neg (by unfold tk;simp only[];omega),if_pos (by unfold tk;simp only[];omega)];rfl
       rw[Ae]
       refine at3.tx ?_
       rw[De]
       obtain⟨na,nb,hnv⟩:=An2 (Ge L[i].text)
       refine Dh (c66 L[i].text (by omega)) ?_ rfl (by rw[hnv];rfl)
       rw[hpv] at key
       cases hn:Ge L[i].text with
       |none=>
        rw[hn] at key
        exact key (0#64,false) false h3 .refl rfl
       |some p=>
        rw[hn] at key
        obtain⟨x,hx⟩:=An3 hn
        have:=key (BitVec.ofInt 64 p.1,p.2) true h3 .refl rfl
        unfold vI vC uI at this
        rw[hx] at this
        have hx2:BitVec.ofInt 64 (Int.ofNat x.toNat)=x:=by
         show BitVec.ofInt 64 ((x.toNat:Nat):Int)=x
         rw[BitVec.ofInt_natCast,BitVec.ofNat_toNat,BitVec.setWidth_eq]
        rw[hx2] at this
        show ext 0 (.tuple [.agg [.int .u64 p.1,.bool p.2],.bool true]) _
        rw[hx]
        exact this
     · have e3:¬L[i].kind=3:=of_decide_eq_false e3
       rw[Ae]
       refine at3.kd ?_
       rw[Au,Aa5]
       refine Ako hl hi rs1 f1 c1 (Nat.le_refl _) u1 hB fun h' f' rs'=>?_
       refine hk h' _ _ f' rs' (fun _=>?_) (fun hn=>absurd e hn)
       unfold Kn
       rw[if_neg (by unfold tk;simp only[];omega)]
       by_cases e1:L[i].kind=1
       · rw[if_pos (by unfold tk;simp only[];omega),decide_eq_true (show L[i].kind=((1:Nat):Int) from e1)];rfl
       · rw[if_neg (by unfold tk;simp only[];omega),if_neg (by unfold tk;simp only[];omega),decide_eq_false (show¬L[i].kind=((1:Nat):Int) from e1)];rfl
 · have e:¬i<L.length:=of_decide_eq_false e
   refine Ako hl hi rs1 f1 c1 (Nat.le_refl _) n1 hB fun h' f' rs'=>?_
   exact hk h' _ false f' rs' (fun hlt=>absurd hlt e) (fun _=>rfl)
end
end Go.Den
