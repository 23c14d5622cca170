/-
 Proof.
-/
import Derived.Test.YtheajahjkmfeaaaGreatDoorLpj
namespace Go.Den
open Go.RowKit
set_option maxRecDepth 100000
abbrev TRu:TypeId:=115
abbrev TRo:TypeId:=118
abbrev TIt:TypeId:=124
abbrev TFu:TypeId:=145
theorem Cd.Bd2{h':H}{p:P}{e:TypeId}{t:Tm}{v:AV}(h1:h'.at p=.row (Aj [v] 0 t) 1 0 e true):Cd h' p e [v]:=⟨_,h1,fun j hj=>by
 have:j=0:=by simp only[List.length_cons,List.length_nil] at hj;omega
 subst this
 rw[Ah];simp⟩
theorem Bos{h:H}{q:P}{e:TypeId}{n:Nat}(r:Cd h q e [.int .i64 (Int.ofNat n)]){k:KV}(hk:k (.int .i64 (Int.ofNat n)) h):W1 (.func 240) [.ptr q 0] h k:=by
 obtain⟨t,ha,hb⟩:=r
 refine Bbu ?_
 refine Dp rfl ?_
 have e1:Gl (.Nu .i64) [.ptr q 0] h=some (.int .i64 (Int.ofNat n),h):=by
  show(Option.rec none (fun v=>Option.rec none (fun n=>some (.int .i64 n,h)) (isI .i64 v)) (h.Ka q 0):Option (AV×H))=_
  rw[Wo ha Nat.one_pos,hb 0 Nat.one_pos];rfl
 rw[e1,Ad]
 exact hk
theorem c78{h:H}{q:P}{e:TypeId}{v:AV}{n:Int}(r:Cd h q e [v]){k:KV}(hk:∀w h',h'.next=h.next→(∀c,c≠q→h'.at c=h.at c)→Cd h' q e [.int .i64 n]→k w h'):W1 (.func 78) [.ptr q 0,.int .i64 n] h k:=by
 obtain⟨t,ha,hb⟩:=r
 refine x78 ?_
 refine Dp rfl ?_
 have e1:Gl (.Ju .i64) [.ptr q 0,.int .i64 n] h=some (.undef,h.put q (.row (Aj [.int .i64 n] 0 t) 1 0 e true)):=by
  show(Option.rec none (fun n=>Ad4 (h.write q 0 [.int .i64 n])) (isI .i64 (.int .i64 n)):Option (AV×H))=_
  show Ad4 (h.write q 0 [.int .i64 n])=_
  rw[Wg (cs:=[.int .i64 n]) ha (Nat.le_refl _) (Nat.le_refl 1)];rfl
 rw[e1,Ad]
 exact hk _ _ rfl (fun c hc=>Az hc) (.Bd2 (Ba _ _ _))
theorem Bor{h:H}{q:P}{e:TypeId}{n:Nat}{m:Int}(r:Cd h q e [.int .i64 (Int.ofNat n)]){k:KV}(hk:∀h',h'.next=h.next→(∀c,c≠q→h'.at c=h.at c)→Cd h' q e [.int .i64 m]→k (.bool true) h'):W1 (.func 241) [.ptr q 0,.int .i64 (Int.ofNat n),.int .i64 m] h k:=by
 obtain⟨t,ha,hb⟩:=r
 refine Bbt ?_
 refine Dp rfl ?_
 have e1:Gl (.Xk .i64) [.ptr q 0,.int .i64 (Int.ofNat n),.int .i64 m] h=some (.bool true,h.put q (.row (Aj [.int .i64 m] 0 t) 1 0 e true)):=by
  show(Option.rec none (fun v=>Option.rec none (fun n'=>Bool.rec none (Option.rec none (fun h=>some (.bool true,h)) (h.write q 0 [.int .i64 m])) (Bx n' (Int.ofNat n))) (isI .i64 v)) (h.Ka q 0):Option (AV×H))=_
  rw[Wo ha Nat.one_pos,hb 0 Nat.one_pos]
  show(Bool.rec none (Option.rec none (fun h=>some (.bool true,h)) (h.write q 0 [.int .i64 m])) (Bx (Int.ofNat n) (Int.ofNat n)):Option (AV×H))=_
  rw[Akz,Wg (cs:=[.int .i64 m]) ha (Nat.le_refl _) (Nat.le_refl 1)];rfl
 rw[e1,Ad]
 exact hk _ rfl (fun c hc=>Az hc) (.Bd2 (Ba _ _ _))
theorem Box{h:H}{q:P}{e:TypeId}{n:Nat}(r:Cd h q e [.int .i64 (Int.ofNat n)]){k:KV}(hk:k (.int .i64 (Int.ofNat n)) h):W1 (.func 205) [.ptr q 0] h k:=by
 refine Bb4 (n:=1) Bg (Bnf ?_)
 unfold Aeg
 rw[Am,Ad,Ae]
 refine Bos r ?_
 rw[Bj];exact hk
theorem c56{h:H}{q:P}{e:TypeId}{v:AV}{n:Int}(r:Cd h q e [v]){k:KV}(hk:∀h',h'.next=h.next→(∀c,c≠q→h'.at c=h.at c)→Cd h' q e [.int .i64 n]→k (.tuple []) h'):W1 (.func 56) [.ptr q 0,.int .i64 n] h k:=by
 refine w56 (n:=1) Bg (g56 ?_)
 unfold Anj
 rw[Am,Ad,Ae]
 exact c78 r fun w h' n1 f1 r1=>hk h' n1 f1 r1
theorem Bow{h:H}{q:P}{e:TypeId}{n:Nat}{m:Int}(r:Cd h q e [.int .i64 (Int.ofNat n)]){k:KV}(hk:∀h',h'.next=h.next→(∀c,c≠q→h'.at c=h.at c)→Cd h' q e [.int .i64 m]→k (.bool true) h'):W1 (.func 206) [.ptr q 0,.int .i64 (Int.ofNat n),.int .i64 m] h k:=by
 refine Bb3 (n:=1) Bg (Bne ?_)
 unfold Aef
 rw[Am,Ad,Ae]
 refine Bor r fun h' n1 f1 r1=>?_
 rw[Bn];exact hk h' n1 f1 r1
theorem Bee(a b:Int)(h:H):Ar env .max [2,2] [.int .i64 a,.int .i64 b] h=some (.int .i64 (Bool.rec a b (Ca a b)),h):=by kernel_rfl
theorem Bn6(p:P):Hh env .eql 93 (.ptr p 0) .Cm=some (.bool false):=by kernel_rfl
theorem Bo2{h:H}{pF:P}{n:Nat}(r:Cd h pF TFu [.int .i64 (Int.ofNat n)])(h1:1≤n)(hn:n≤1000000){k:KV}(hk:∀h',h'.next=h.next→(∀c,c≠pF→h'.at c=h.at c)→Cd h' pF TFu [.int .i64 (Int.ofNat (n-1))]→k (.bool true) h'):W1 (.func 155) [.ptr pF 0,.int .i64 (Int.ofNat 1)] h k:=by
 refine Bcf (n:=2) Bg (Bnq ?_)
 unfold Aex
 rw[Bn6,Oj,Bn]
 rw[Aaw]
 refine Cp rfl ?_
 refine A8a ?_
 unfold Aew
 rw[Am,Ad,Ae]
 refine Box r ?_
 rw[Bj]
 refine Av5 h1 (by omega) ?_
 rw[Bee,Ad,Bj,Am,Ad,Ae]
 have e:(Bool.rec (Int.ofNat (n-1)) (Int.ofNat 0) (Ca (Int.ofNat (n-1)) (Int.ofNat 0)):Int)=Int.ofNat (n-1):=by
  rw[ilt,decide_eq_false (Nat.not_lt_zero _)]
 rw[e]
 refine Bow r fun h' n1 f1 r1=>?_
 rw[Bn]
 refine Dp rfl ?_
 rw[ile,decide_eq_true h1]
 exact hk h' n1 f1 r1
def Au2:List UInt8:=[95,95,76,73,78,69,95,95]
def Av2:List UInt8:=[95,95,70,73,76,69,95,95]
structure Tkp(c:List AV):Prop where
 ex:∃(kd:Nat)(tx fl:List UInt8)(sp md:Bool)(a b:Int),c=[.int .i64 (Int.ofNat kd),S tx,.bool sp,S fl,.int .i64 a,.int .i64 b,.bool md,.Ai]∧tx.length≤1000000∧tx≠Au2∧tx≠Av2
structure Rnn(h:H)(pN pM pF pt pe:P)(w0 w1 w2:AV)(L:Cn)(fu:Nat):Prop where
 run:Cd h pN TRu [.ptr pt 0,w0,w1,w2,.ptr pF 0,.map pM,.Ai,.bool false]
 fuel:Cd h pF TFu [.int .i64 (Int.ofNat fu)]
 used:IsC h pM L
 tab:Cd h pt 138 [.map pe]
 emp:h.at pe=.map [] 0
 nN:pN.nat<h.next.nat
 nM:pM.nat<h.next.nat
 nF:pF.nat<h.next.nat
 nt:pt.nat<h.next.nat
 ne:pe.nat<h.next.nat
 em:pe≠pM
theorem Cd.Hy{h:H}{p:P}{e:TypeId}{cs:List AV}(r:Cd h p e cs){es:Es}{ck:Nat}(hm:h.at p=.map es ck):False:=by
 obtain⟨t,a,_⟩:=r
 rw[a] at hm;cases hm
theorem Cd.ne{h:H}{p q:P}{e e':TypeId}{cs ds:List AV}(r:Cd h p e cs)(s:Cd h q e' ds)(he:e≠e'):p≠q:=fun c=>by
 subst c
 obtain⟨t,a,_⟩:=r
 obtain⟨t',a',_⟩:=s
 rw[a] at a'
 simp only[Ob.row.injEq] at a'
 exact he a'.2.2.2.1
section
variable{h:H}{pN pM pF pt pe:P}{w0 w1 w2:AV}{L:Cn}{fu:Nat}
theorem Rnn.keep{h':H}(r:Rnn h pN pM pF pt pe w0 w1 w2 L fu)(hn:h.next.nat≤h'.next.nat)(hf:∀c,c.nat<h.next.nat→(∀t m z w,h.at c≠.row t m z TIt w)→(∀t m z w,h.at c≠.row t m z TRo w)→h'.at c=h.at c):Rnn h' pN pM pF pt pe w0 w1 w2 L fu:=by
 have g:∀{p:P}{e:TypeId}{cs:List AV},Cd h p e cs→p.nat<h.next.nat→e≠TIt→e≠TRo→h'.at p=h.at p:=fun{p e cs} s hp h1 h2=>hf p hp (fun t m z w q=>by
  obtain⟨t',a,_⟩:=s;rw[a] at q;cases q;exact h1 rfl) (fun t m z w q=>by
  obtain⟨t',a,_⟩:=s;rw[a] at q;cases q;exact h2 rfl)
 have g2:∀{p:P}{es:Es}{ck:Nat},h.at p=.map es ck→p.nat<h.next.nat→h'.at p=h.at p:=fun{p es ck} s hp=>hf p hp (fun t m z w q=>by rw[s] at q;cases q) (fun t m z w q=>by rw[s] at q;cases q)
 have eM:=g2 r.used r.nM
 have eE:=g2 r.emp r.ne
 exact⟨r.run.of (g r.run r.nN (by decide) (by decide)),r.fuel.of (g r.fuel r.nF (by decide) (by decide)),by unfold IsC;rw[eM];exact r.used,r.tab.of (g r.tab r.nt (by decide) (by decide)),by rw[eE];exact r.emp,Nat.lt_of_lt_of_le r.nN hn,Nat.lt_of_lt_of_le r.nM hn,Nat.lt_of_lt_of_le r.nF hn,Nat.lt_of_lt_of_le r.nt hn,Nat.lt_of_lt_of_le r.ne hn,r.em⟩
theorem Rnn.ext{h':H}(r:Rnn h pN pM pF pt pe w0 w1 w2 L fu)(x:Exh h h'):Rnn h' pN pM pF pt pe w0 w1 w2 L fu:=r.keep x.1 fun c hc _ _=>x.2 c hc
theorem Rnn.Bmj{h':H}{fu':Nat}(r:Rnn h pN pM pF pt pe w0 w1 w2 L fu)(hn:h'.next=h.next)(hf:∀c,c≠pF→h'.at c=h.at c)(r':Cd h' pF TFu [.int .i64 (Int.ofNat fu')]):Rnn h' pN pM pF pt pe w0 w1 w2 L fu':=by
 have eM:h'.at pM=h.at pM:=hf _ fun e=>by subst e;exact r.fuel.Hy r.used
 have eE:h'.at pe=h.at pe:=hf _ fun e=>by subst e;exact r.fuel.Hy r.emp
 exact⟨r.run.of (hf _ (r.run.ne r.fuel (by decide))),r',by unfold IsC;rw[eM];exact r.used,r.tab.of (hf _ (r.tab.ne r.fuel (by decide))),by rw[eE];exact r.emp,by rw[hn];exact r.nN,by rw[hn];exact r.nM,by rw[hn];exact r.nF,by rw[hn];exact r.nt,by rw[hn];exact r.ne,r.em⟩
theorem Rnn.Bmi{h':H}{L':Cn}(r:Rnn h pN pM pF pt pe w0 w1 w2 L fu)(hn:h'.next=h.next)(hf:∀c,c≠pM→h'.at c=h.at c)(r':IsC h' pM L'):Rnn h' pN pM pF pt pe w0 w1 w2 L' fu:=by
 have eE:h'.at pe=h.at pe:=hf _ r.em
 have g:∀{p:P}{e:TypeId}{cs:List AV},Cd h p e cs→Cd h' p e cs:=fun{p e cs} s=>s.of (hf _ fun e=>by subst e;exact s.Hy r.used)
 exact⟨g r.run,g r.fuel,r',g r.tab,by rw[eE];exact r.emp,by rw[hn];exact r.nN,by rw[hn];exact r.nM,by rw[hn];exact r.nF,by rw[hn];exact r.nt,by rw[hn];exact r.ne,r.em⟩
theorem Bo6(r:Rnn h pN pM pF pt pe w0 w1 w2 L fu)(h1:1≤fu)(hn:fu≤1000000){c:List AV}(hc:c.length=8){k:KV}(hk:∀h',FrX (fun c=>c=pF) h h'→Rnn h' pN pM pF pt pe w0 w1 w2 L (fu-1)→k (.bool true) h'):W1 (.func 123) [.ptr pN 0,.int .i64 (Int.ofNat 1),.agg c] h k:=by
 refine Bcj (n:=2) Bg (Bnu ?_)
 unfold Ae1
 rw[Fu]
 refine Ft (fun e=>by rw[e] at hc;cases hc) ?_
 refine newRow (e:=TTk) (cs:=c) rfl fun h2 x2 n2 r2=>?_
 have R2:=r.ext x2
 rw[Am,Ad,Ae]
 refine R2.run.ld1 (j:=4) (by show 4<8;decide) ?_
 refine Bo2 R2.fuel h1 hn fun h3 n3 f3 r3=>?_
 have R3:=R2.Bmj n3 f3 r3
 rw[Bn]
 refine Cp rfl ?_
 refine A8b ?_
 unfold Ae0
 rw[Am,Ad,Ae]
 refine R3.run.ld1 (j:=7) (by show 7<8;decide) ?_
 show asB (.bool false) _
 rw[Bn,show Ci false=true from rfl]
 refine hk _ ⟨by rw[n3];exact x2.1,fun c hc hne=>by rw[f3 c hne,x2.2 c hc]⟩ R3
theorem c87(l c:Nat):Pure PP G h0 87 [.Ai,.str l c] (.bool false):=pure_run (by kernel_rfl)
theorem A7x(q:P)(l c:Nat)(h:H):Db env 136 (.map q) (.str l c) false h=(Option.rec none (fun p=>Fv env 216 false (Ee (.str l c) p.1 0) h) (Kt (h.at q)):Option (AV×H)):=by kernel_rfl
theorem A0t(h:H):Fv env 216 false (some none) h=some (.Cm,h):=by kernel_rfl
theorem Bn4(p:P):Hh env .eql 91 (.ptr p 0) .Cm=some (.bool false):=by kernel_rfl
theorem Bms(p:P):Hh env .neq 91 (.ptr p 0) .Cm=some (.bool true):=by kernel_rfl
theorem Bn5:Hh env .eql 216 .Cm .Cm=some (.bool true):=by kernel_rfl
theorem c90(r:Rnn h pN pM pF pt pe w0 w1 w2 L fu)(l c:Nat){k:KV}(hk:k .Cm h):W1 (.func 90) [.ptr pt 0,.str l c] h k:=by
 refine w90 (n:=1) Bg (g90 ?_)
 unfold Amm
 rw[Bn4,Oj,Bn]
 refine Cp rfl ?_
 rw[Am,Ad,Ae]
 refine r.tab.ld1 (j:=0) (by show 0<1;decide) ?_
 show oK (Db env 136 (.map pe) (.str l c) false h) _
 rw[A7x,r.emp]
 show oK (Fv env 216 false (some none) h) _
 rw[A0t,Ad]
 exact hk
theorem c89{pR:P}{c:List AV}(hc:Tkp c){k:KV}(hk:∀h',Exh h h'→k (.tuple [.agg c,.bool false]) h'):W1 (.func 89) [.ptr pR 0,.agg c] h k:=by
 obtain⟨kd,tx,fl,sp,md,a,b,e,hl,h1,h2⟩:=hc.ex
 have l8:c.length=8:=by rw[e];rfl
 refine w89 (n:=1) Bg (g89 ?_)
 unfold Amn
 rw[Fu]
 refine Ft (fun e=>by rw[e] at l8;cases l8) ?_
 refine newRow (e:=TTk) (cs:=c) rfl fun h1' x1 n1 r1=>?_
 refine newRow (e:=TTk) (cs:=Na) rfl fun h2' x2 n2 r2=>?_
 rw[Ae]
 have r1':=r1.ext x2 (by omega)
 refine r1'.ld1 (j:=1) (by omega) ?_
 have e1:c[0+1]'(by omega)=S tx:=by simp only[e];rfl
 rw[e1,Eg]
 have n1:Dv tx.length (enc tx) 8 6872287758930173791=false:=by
  have:=Qj (s:=tx) (t:=Au2) h1
  rw[show enc Au2=6872287758930173791 by kernel_rfl] at this
  exact this
 have n2':Dv tx.length (enc tx) 8 6872287750339845983=false:=by
  have:=Qj (s:=tx) (t:=Av2) h2
  rw[show enc Av2=6872287750339845983 by kernel_rfl] at this
  exact this
 rw[n1,n2']
 refine Cp rfl (Cp rfl ?_)
 refine r1'.ldn (o:=0) (ds:=c) l8 (by rw[List.drop_zero,List.take_length]) (by omega) ?_
 refine r2.stn (o:=0) (ds:=c) (cs':=c) l8 (by decide) (by show 0+8≤8;decide) (by rw[show Na.drop (0+8)=[] from rfl];simp) fun h3 n3 f3 r3=>?_
 refine r3.ldn (o:=0) (ds:=c) l8 (by rw[List.drop_zero,List.take_length]) (by omega) ?_
 exact hk _ ((x1.trans x2).Sm (by omega) n3 f3)
end
end Go.Den
