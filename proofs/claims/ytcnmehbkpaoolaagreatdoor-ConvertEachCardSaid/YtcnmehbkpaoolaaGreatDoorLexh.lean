/-
 Proof.
-/
import Derived.Test.YtcnmehbkpaoolaaGreatDoorLex7
import Derived.Test.YtcnmehbkpaoolaaGreatDoorLexq
namespace Go.Den
open Go.RowKit
set_option maxRecDepth 100000
open Go.Lx (Jv Nk Wt Xn Mp On Oo Aky idL Ahz at0)
theorem drop_cons{B:List UInt8}{j:Nat}(h:j<B.length):B.drop j=B[j]::B.drop (j+1):=List.drop_eq_getElem_cons h
theorem Fs{a b:Nat}{K:Int→Prop}(h:a+b≤1000000000)(hk:K (Int.ofNat (a+b))):fI (wrap .i64 (Bn (Int.ofNat a) (Int.ofNat b))) K:=by rw[De,Cg (by omega),As];exact hk
theorem Ay6{n:Nat}{K:Nat→Prop}(hk:K n):Ci (Int.ofNat n) K:=by rw[Ap];exact hk
theorem Akn{q x y:UInt8}{r:List UInt8}:Jv q (x::y::r)=if x=10 then none else if x=92∧y≠10 then(Jv q r).map (·+2) else if x=q then some 1 else(Jv q (y::r)).map (·+1):=by rw[Jv]
theorem Asx{q x:UInt8}:Jv q [x]=if x=10 then none else if x=q then some 1 else none:=by rw[Jv]
def Sq(q:UInt8)(B:List UInt8)(j:Nat):Nat:=match Jv q (B.drop j) with
 |some n=>j+n
 |none=>0
theorem Asw{q:UInt8}{B:List UInt8}{j:Nat}(h:B.length≤j):Sq q B j=0:=by
 unfold Sq;rw[List.drop_eq_nil_of_le h];simp[Jv]
theorem Ayn{q:UInt8}{B:List UInt8}{j:Nat}(h:j<B.length)(e:B[j]=10):Sq q B j=0:=by
 unfold Sq
 rw[drop_cons h,e]
 cases B.drop (j+1) with
 |nil=>simp[Jv]
 |cons y r=>simp[Jv]
theorem Asv{q:UInt8}{B:List UInt8}{j:Nat}(h:j+1<B.length)(e:B[j]=92)(e1:B[j+1]≠10):Sq q B j=Sq q B (j+2):=by
 unfold Sq
 rw[drop_cons (show j<B.length by omega),drop_cons h,e]
 rw[Akn,if_neg (by decide),if_pos ⟨rfl,e1⟩]
 cases Jv q (B.drop (j+1+1)) with
 |none=>rfl
 |some n=>show j+(n+2)=j+2+n;omega
theorem A3j{q:UInt8}{B:List UInt8}{j:Nat}(h:j<B.length)(e:B[j]=q)(e10:B[j]≠10)(hs:¬(B[j]=92∧∃h1:j+1<B.length,B[j+1]≠10)):Sq q B j=j+1:=by
 unfold Sq
 rw[drop_cons h]
 cases hd:B.drop (j+1) with
 |nil=>rw[Asx,if_neg e10,if_pos e]
 |cons y r=>
  have h1:j+1<B.length:=by
   rcases Nat.lt_or_ge (j+1) B.length with h1|h1
   · exact h1
   · rw[List.drop_eq_nil_of_le h1] at hd;cases hd
  rw[drop_cons h1] at hd
  have hy:B[j+1]=y:=by injection hd
  rw[Akn,if_neg e10,if_neg (fun e'=>hs ⟨e'.1,h1,by rw[hy];exact e'.2⟩),if_pos e]
theorem Ayo{q:UInt8}{B:List UInt8}{j:Nat}(h:j<B.length)(e:B[j]≠q)(e10:B[j]≠10)(hs:¬(B[j]=92∧∃h1:j+1<B.length,B[j+1]≠10)):Sq q B j=Sq q B (j+1):=by
 unfold Sq
 rw[drop_cons h]
 cases hd:B.drop (j+1) with
 |nil=>rw[Asx,if_neg e10,if_neg e];simp[Jv]
 |cons y r=>
  have h1:j+1<B.length:=by
   rcases Nat.lt_or_ge (j+1) B.length with h1|h1
   · exact h1
   · rw[List.drop_eq_nil_of_le h1] at hd;cases hd
  have hd':=hd
  rw[drop_cons h1] at hd'
  have hy:B[j+1]=y:=by injection hd'
  rw[Akn,if_neg e10,if_neg (fun e'=>hs ⟨e'.1,h1,by rw[hy];exact e'.2⟩),if_neg e]
  cases Jv q (y::r) with
  |none=>rfl
  |some n=>show j+(n+1)=j+1+n;omega
theorem Agl {h : H} {v : AV} {B : List UInt8} {q : UInt8} {k : KV} (hr : Rs h v B) (hl : B.length ≤ 1000000) :
    ∀ (n j : Nat), 2 * (B.length - j) + 1 ≤ n → j ≤ B.length → k (.int .i64 (Int.ofNat (Sq q B j))) h → (Zj W1 k n).a1 v (Int.ofNat q.toNat) (Int.ofNat j) h
  | 0, _, hn, _, _ => absurd hn (by omega)
  | n + 1, j, hn, hj, hk => by
    refine A47 ?_
    unfold Aer
    rw [hr.len, ilt]
    refine Gi (fun e => ?_) (fun e => ?_)
    · have e : j < B.length := of_decide_eq_true e
      obtain ⟨m, rfl⟩ : ∃ m, n = m + 1 := ⟨n - 1, by omega⟩
      rw [Ap]
      refine hr.at0 e ?_
      unfold ub
      rw [Au, show Ba (Int.ofNat B[j].toNat) (Int.ofNat 10) = decide (B[j] = 10) from Oy B[j] 10]
      refine Az (fun e10 => ?_) (fun e10 => ?_)
      · have e10 : B[j] ≠ 10 := by
          intro e'; rw [e'] at e10; exact absurd e10 (by decide)
        rw [Ap]
        refine hr.at0 e ?_
        unfold ub
        rw [Au, show Ba (Int.ofNat B[j].toNat) (Int.ofNat 92) = decide (B[j] = 92) from Oy B[j] 92]
        refine Lb (b := decide (j + 1 < B.length)) (fun k' hk' => ?_) ?_
        · rw [De, Cg (by omega), As, hr.len, ilt]; exact hk'
        have rest : ¬ (B[j] = 92 ∧ ∃ h1 : j + 1 < B.length, B[j + 1] ≠ 10) → Ci (Int.ofNat j) fun m34 => Bz 3 m34 v fun v35 => Am 0 v35 fun v36 => ld1 v36 h fun v37 => asI .u8 v37 fun n38 =>
            cnd (Ba n38 (Int.ofNat q.toNat)) (fI (wrap .i64 (Bn (Int.ofNat j) (Int.ofNat 1))) fun n39 => k (.int .i64 n39) h) ((Zj W1 k (m + 1)).a2 v (Int.ofNat q.toNat) (Int.ofNat j) h) := fun hs => by
          rw [Ap]
          refine hr.at0 e ?_
          unfold ub
          rw [Au, show Ba (Int.ofNat B[j].toNat) (Int.ofNat q.toNat) = decide (B[j] = q) from Oy B[j] q]
          refine Az (fun e' => ?_) (fun e' => ?_)
          · rw [De, Cg (by omega), As]
            rw [A3j e (of_decide_eq_true e') e10 hs] at hk; exact hk
          · rw [Ayo e (of_decide_eq_false e') e10 hs] at hk
            refine At1 ?_
            unfold Zb
            rw [De, Cg (by omega), As]
            exact Agl hr hl m (j + 1) (by omega) e hk
        refine Gi (fun e2 => ?_) (fun e2 => ?_)
        · simp only [Bool.and_eq_true, decide_eq_true_eq] at e2
          refine Fs (by omega) (Ay6 ?_)
          refine hr.at0 e2.2 ?_
          unfold ub
          rw [Au, show Ba (Int.ofNat B[j + 1].toNat) (Int.ofNat 10) = decide (B[j + 1] = 10) from Oy B[j + 1] 10]
          refine Az (fun e3 => ?_) (fun e3 => ?_)
          · have e3 : B[j + 1] ≠ 10 := by
              intro e'; rw [e'] at e3; exact absurd e3 (by decide)
            refine Fs (by omega) ?_
            refine At1 ?_
            unfold Zb
            rw [De, Cg (by omega), As]
            rw [Asv e2.2 e2.1 e3] at hk
            exact Agl hr hl m (j + 2) (by omega) e2.2 hk
          · exact rest fun hs => by
              obtain ⟨_, h1, h2⟩ := hs
              rw [decide_eq_false h2] at e3; cases e3
        · exact Bo rfl (rest fun hs => by
            obtain ⟨h0, h1, _⟩ := hs
            rw [decide_eq_true h0, decide_eq_true h1] at e2; cases e2)
      · have e10 : B[j] = 10 := by
          by_cases e' : B[j] = 10
          · exact e'
          · rw [decide_eq_false e'] at e10; cases e10
        rw [Ayn e e10] at hk; exact hk
    · have e : ¬ j < B.length := of_decide_eq_false e
      rw [Asw (by omega)] at hk
      exact Bo rfl hk
def lnV(B:List UInt8)(j:Nat):Nat:=j+((B.drop j).takeWhile (·≠10)).length
def bkV(B:List UInt8)(j:Nat):Nat×Bool:=match Mp (B.drop j) with
 |some n=>(j+n,false)
 |none=>(B.length,true)
theorem A4l{B:List UInt8}{j:Nat}(h:j<B.length)(e:B[j]≠10):lnV B j=lnV B (j+1):=by
 unfold lnV
 rw[drop_cons h,List.takeWhile_cons,if_pos (by simpa using e)]
 simp only[List.length_cons];omega
theorem A4k{B:List UInt8}{j:Nat}(h:j<B.length)(e:B[j]=10):lnV B j=j:=by
 unfold lnV
 rw[drop_cons h,List.takeWhile_cons,if_neg (by simpa using e)];rfl
theorem Azc{B:List UInt8}{j:Nat}(h:B.length≤j):lnV B j=j:=by
 unfold lnV;rw[List.drop_eq_nil_of_le h];rfl
theorem Awd{x y:UInt8}{r:List UInt8}:Mp (x::y::r)=if x=42∧y=47 then some 2 else(Mp (y::r)).map (·+1):=by rw[Mp]
theorem A81{x:UInt8}:Mp [x]=none:=by rw[Mp]
theorem Awe:Mp []=none:=by rw[Mp]
theorem A0q{B:List UInt8}{j:Nat}(h:B.length≤j):bkV B j=(B.length,true):=by
 unfold bkV;rw[List.drop_eq_nil_of_le h,Awe]
theorem A0p{B:List UInt8}{j:Nat}(h:j+1<B.length)(e:B[j]=42)(e1:B[j+1]=47):bkV B j=(j+2,false):=by
 unfold bkV;rw[drop_cons (show j<B.length by omega),drop_cons h,Awd,if_pos ⟨e,e1⟩]
theorem A82{B:List UInt8}{j:Nat}(h:j<B.length)(hs:¬(B[j]=42∧∃h1:j+1<B.length,B[j+1]=47)):bkV B j=bkV B (j+1):=by
 unfold bkV
 rw[drop_cons h]
 cases hd:B.drop (j+1) with
 |nil=>rw[A81,Awe]
 |cons y r=>
  have h1:j+1<B.length:=by
   rcases Nat.lt_or_ge (j+1) B.length with h1|h1
   · exact h1
   · rw[List.drop_eq_nil_of_le h1] at hd;cases hd
  have hd':=hd
  rw[drop_cons h1] at hd'
  have hy:B[j+1]=y:=by injection hd'
  rw[Awd,if_neg (fun e'=>hs ⟨e'.1,h1,by rw[hy];exact e'.2⟩)]
  cases Mp (y::r) with
  |none=>rfl
  |some n=>show(j+(n+1),false)=(j+1+n,false);congr 1;omega
theorem Avy {h : H} {v : AV} {B : List UInt8} {k : KV} (hr : Rs h v B) (hl : B.length ≤ 1000000) :
    ∀ (n j : Nat), B.length - j + 1 ≤ n → j ≤ B.length → k (.tuple [.int .i64 (Int.ofNat (lnV B j)), .bool false]) h → (r79 W1 k n).a1 v (Int.ofNat j) h
  | 0, _, hn, _, _ => absurd hn (by omega)
  | n + 1, j, hn, hj, hk => by
    refine Bdl ?_
    unfold Amu
    rw [hr.len, ilt]
    refine Gi (fun e => ?_) (fun e => ?_)
    · have e : j < B.length := of_decide_eq_true e
      refine Zy (hr.at0 e ?_)
      unfold ub
      rw [Au, show Ba (Int.ofNat B[j].toNat) (Int.ofNat 10) = decide (B[j] = 10) from Oy B[j] 10]
      by_cases e10 : B[j] = 10
      · rw [A4k e e10] at hk
        rw [decide_eq_true e10]
        exact Bo rfl hk
      · rw [A4l e e10] at hk
        rw [decide_eq_false e10]
        refine Cj rfl (Fs (by omega) ?_)
        exact Avy hr hl n (j + 1) (by omega) e hk
    · have e : ¬ j < B.length := of_decide_eq_false e
      rw [Azc (by omega)] at hk
      exact Bo rfl hk
theorem Avx {h : H} {v : AV} {B : List UInt8} {k : KV} (hr : Rs h v B) (hl : B.length ≤ 1000000) :
    ∀ (n j : Nat), B.length - j + 1 ≤ n → j ≤ B.length + 2 → k (.tuple [.int .i64 (Int.ofNat (bkV B j).1), .bool (bkV B j).2]) h → (r79 W1 k n).a2 v (Int.ofNat j) h
  | 0, _, hn, _, _ => absurd hn (by omega)
  | n + 1, j, hn, hj, hk => by
    refine Bdk ?_
    unfold Amt
    rw [hr.len, ilt]
    refine Az (fun e => ?_) (fun e => ?_)
    · have e : j < B.length := of_decide_eq_true e
      refine Zy (hr.at0 e ?_)
      unfold ub
      rw [Au, show Ba (Int.ofNat B[j].toNat) (Int.ofNat 42) = decide (B[j] = 42) from Oy B[j] 42]
      refine Lb (b := decide (bt B (j + 1) = 47)) (fun k' hk' => Fs (by omega) ?_) ?_
      · refine Mn hr ?_
        unfold ub
        rw [Au, show Ba (Int.ofNat (bt B (j + 1)).toNat) (Int.ofNat 47) = decide (bt B (j + 1) = 47) from Oy _ 47]
        exact hk'
      · refine Az (fun e2 => ?_) (fun e2 => ?_)
        · simp only [Bool.and_eq_true, decide_eq_true_eq] at e2
          have h1 : j + 1 < B.length := by
            rcases Nat.lt_or_ge (j + 1) B.length with h1 | h1
            · exact h1
            · have := e2.2; rw [Si h1] at this; exact absurd this (by decide)
          have e3 := e2.2
          rw [Aa3 h1] at e3
          rw [A0p h1 e2.1 e3] at hk
          exact Fs (by omega) hk
        · have hs : ¬ (B[j] = 42 ∧ ∃ h1 : j + 1 < B.length, B[j + 1] = 47) := fun hs => by
            obtain ⟨a, h1, b⟩ := hs
            rw [Aa3 h1, decide_eq_true a, decide_eq_true b] at e2; cases e2
          rw [A82 e hs] at hk
          refine Fs (by omega) ?_
          exact Avx hr hl n (j + 1) (by omega) (by omega) hk
    · have e : ¬ j < B.length := of_decide_eq_false e
      rw [A0q (by omega)] at hk
      rw [hr.len]
      exact hk
theorem Ka{B:List UInt8}{i j:Nat}:at0 (B.drop i) j=bt B (i+j):=by
 unfold at0 bt
 rw[List.getD_eq_getElem?_getD,List.getD_eq_getElem?_getD,List.getElem?_drop]
def Az5(B:List UInt8)(i:Nat):Nat×Bool:=match Xn (B.drop i) with
 |none=>(i,false)
 |some (n,b)=>(i+n,b)
theorem Bf5{h:H}{v:AV}{B:List UInt8}{i:Nat}{k:KV}(hr:Rs h v B)(hl:B.length≤1000000)(hi:i<B.length)(hk:k (.tuple [.int .i64 (Int.ofNat (Az5 B i).1),.bool (Az5 B i).2]) h):W1 (.func 79) [v,.int .i64 (Int.ofNat i)] h k:=by
 refine w79 (n:=B.length+5+1) Bl (g79 ?_)
 unfold Amv
 have a0:at0 (B.drop i) 0=bt B i:=Ka
 have a1:at0 (B.drop i) 1=bt B (i+1):=Ka
 refine Mn hr ?_
 unfold ub
 rw[Au,show Ba (Int.ofNat (bt B i).toNat) (Int.ofNat 47)=decide (bt B i=47) from Oy _ 47]
 unfold Az5 Xn at hk
 rw[a0,a1] at hk
 by_cases h0:bt B i=47
 · rw[decide_eq_true h0]
   rw[if_neg (fun e=>e h0)] at hk
   refine Bo rfl (Fs (by omega) (Mn hr ?_))
   unfold ub
   rw[Au,show Ba (Int.ofNat (bt B (i+1)).toNat) (Int.ofNat 47)=decide (bt B (i+1)=47) from Oy _ 47]
   by_cases h1:bt B (i+1)=47
   · rw[decide_eq_true h1]
     rw[if_pos h1] at hk
     exact Cj rfl (Avy hr hl _ i (by omega) (by omega) hk)
   · rw[decide_eq_false h1]
     rw[if_neg h1] at hk
     refine Bo rfl (Fs (by omega) (Mn hr ?_))
     unfold ub
     rw[Au,show Ba (Int.ofNat (bt B (i+1)).toNat) (Int.ofNat 42)=decide (bt B (i+1)=42) from Oy _ 42]
     by_cases h2:bt B (i+1)=42
     · rw[decide_eq_true h2]
       rw[if_neg (fun e=>e h2)] at hk
       refine Bo rfl (Fs (by omega) (Avx hr hl _ (i+2) (by omega) (by omega) ?_))
       unfold bkV
       rw[List.drop_drop] at hk
       cases hb:Mp (B.drop (i+2)) with
       |none=>
        rw[hb] at hk
        have:i+(B.drop i).length=B.length:=by rw[List.length_drop];omega
        simp only[this] at hk
        exact hk
       |some n=>
        rw[hb] at hk
        have:i+(n+2)=i+2+n:=by omega
        simp only[this] at hk
        exact hk
     · rw[decide_eq_false h2]
       rw[if_pos h2] at hk
       exact Cj rfl hk
 · rw[decide_eq_false h0]
   rw[if_pos h0] at hk
   exact Cj rfl hk
def Ws(B:List UInt8)(j:Nat):Nat:=j+Nk (B.drop j)
def isE(x:UInt8):Bool:=decide (x=101)||decide (x=69)||decide (x=112)||decide (x=80)
def Afv(x:UInt8):Bool:=decide (x=43)||decide (x=45)
def isW(x:UInt8):Bool:=Dw x||isDigit x||decide (x=46)
theorem A37{x y:UInt8}{r:List UInt8}:Nk (x::y::r)=if(x=101∨x=69∨x=112∨x=80)∧(y=43∨y=45) then 2+Nk r else if Go.Lx.Dw x||Go.Lx.isDigit x||x==46 then 1+Nk (y::r) else 0:=by rw[Nk]
theorem A38{x:UInt8}:Nk [x]=if Go.Lx.Dw x||Go.Lx.isDigit x||x==46 then 1 else 0:=by rw[Nk]
theorem Atd:Nk []=0:=by rw[Nk]
theorem At4(x:UInt8):(Go.Lx.Dw x||Go.Lx.isDigit x||x==46)=isW x:=by
 unfold isW
 have:(x==46)=decide (x=46):=rfl
 rw[this];rfl
theorem Aoi{x:UInt8}:isE x=true↔(x=101∨x=69∨x=112∨x=80):=by
 unfold isE;simp only[Bool.or_eq_true,decide_eq_true_eq];exact⟨fun h=>by rcases h with((h|h)|h)|h<;>simp[h],fun h=>by rcases h with h|h|h|h<;>simp[h]⟩
theorem Aiq{x:UInt8}:Afv x=true↔(x=43∨x=45):=by unfold Afv;simp
theorem Atc{B:List UInt8}{j:Nat}:Ws B j=if(isE (bt B j)&&Afv (bt B (j+1)))=true then Ws B (j+2) else if isW (bt B j)=true then Ws B (j+1) else j:=by
 rcases Nat.lt_or_ge j B.length with h|h
 · rw[Aa3 h]
   rcases Nat.lt_or_ge (j+1) B.length with h1|h1
   · rw[Aa3 h1]
     unfold Ws
     rw[drop_cons h,drop_cons h1,A37,At4,show j+1+1=j+2 from rfl]
     by_cases a:(isE B[j]&&Afv B[j+1])=true
     · rw[if_pos a]
       simp only[Bool.and_eq_true] at a
       rw[if_pos ⟨Aoi.1 a.1,Aiq.1 a.2⟩]
       omega
     · rw[if_neg a,if_neg (fun e=>a (by simp only[Bool.and_eq_true];exact⟨Aoi.2 e.1,Aiq.2 e.2⟩))]
       split<;>omega
   · rw[Si h1]
     unfold Ws
     rw[drop_cons h,List.drop_eq_nil_of_le h1,A38,At4,Atd]
     rw[show Afv 0=false by decide,Bool.and_false,if_neg (show¬(false=true) by decide)]
     split<;>rfl
 · rw[Si h]
   unfold Ws
   rw[List.drop_eq_nil_of_le h,Atd,show isE 0=false by decide,Bool.false_and,if_neg (show¬(false=true) by decide),show isW 0=false by decide,if_neg (show¬(false=true) by decide)];rfl
theorem Agk {h : H} {v : AV} {B : List UInt8} {k : KV} (hr : Rs h v B) (hl : B.length ≤ 1000000) :
    ∀ (n j : Nat), B.length + 2 - j ≤ n → j ≤ B.length + 1 → k (.int .i64 (Int.ofNat (Ws B j))) h → (Ahv W1 k n).a1 v (Int.ofNat j) h
  | 0, _, hn, hj, _ => absurd hn (by omega)
  | n + 1, j, hn, hj, hk => by
    refine A46 ?_
    unfold Aen
    rw [Atc] at hk
    refine Mn hr ?_
    unfold ub
    rw [Au]
    refine Fs (by omega) (Mn hr ?_)
    unfold ub
    rw [Au]
    have q : ∀ (x : UInt8) (m : Nat) (hm : m < 256), Ba (Int.ofNat x.toNat) (Int.ofNat m) = decide (x = UInt8.ofNat m) := fun x m hm => by
      have : (UInt8.ofNat m).toNat = m := by simp [UInt8.toNat_ofNat']; omega
      have e := Oy x (UInt8.ofNat m)
      rw [this] at e; exact e
    refine Jx (Jx (Jx ?_))
    rw [q _ 101 (by decide), q _ 69 (by decide), q _ 112 (by decide), q _ 80 (by decide)]
    refine Lb (b := Afv (bt B (j + 1))) (fun k' hk' => Jx ?_) ?_
    · rw [q _ 43 (by decide), q _ 45 (by decide)]
      exact hk'
    · show cnd (isE (bt B j) && Afv (bt B (j + 1))) _ _
      by_cases a : (isE (bt B j) && Afv (bt B (j + 1))) = true
      · rw [if_pos a] at hk
        have hlt : j + 1 < B.length := by
          rcases Nat.lt_or_ge (j + 1) B.length with h1 | h1
          · exact h1
          · rw [Si h1, show Afv 0 = false by decide, Bool.and_false] at a; cases a
        exact Cj a (Fs (by omega) (Agk hr hl n (j + 2) (by omega) (by omega) hk))
      · rw [if_neg a] at hk
        refine Bo (by simpa using a) ?_
        refine Dz (A8t _) ?_
        rw [Ce]
        refine Rt (b := isDigit (bt B j)) (fun k' hk' => Dz (A0k _) (by rw [Ce]; exact hk')) ?_
        refine Jx ?_
        rw [q _ 46 (by decide)]
        show cnd (isW (bt B j)) _ _
        by_cases b : isW (bt B j) = true
        · rw [if_pos b] at hk
          have hlt : j < B.length := by
            rcases Nat.lt_or_ge j B.length with h1 | h1
            · exact h1
            · rw [Si h1] at b; exact absurd b (by decide)
          exact Cj b (Fs (by omega) (Agk hr hl n (j + 1) (by omega) (by omega) hk))
        · rw [if_neg b] at hk
          exact Bo (by simpa using b) hk
theorem Azl(x:UInt8)(m:Nat)(hm:m<256):Ba (Int.ofNat x.toNat) (Int.ofNat m)=decide (x=UInt8.ofNat m):=by
 have:(UInt8.ofNat m).toNat=m:=by simp[UInt8.toNat_ofNat'];omega
 have e:=Oy x (UInt8.ofNat m)
 rw[this] at e;exact e
theorem Aoc(x:UInt8):Go.Lx.isDigit x=isDigit x:=rfl
theorem Atl(x:UInt8):Go.Lx.Dw x=Dw x:=rfl
theorem A8s{h:H}{v:AV}{B:List UInt8}{i:Nat}{k:KV}(hr:Rs h v B)(hl:B.length≤1000000)(hi:i<B.length)(hk:k (.int .i64 (Int.ofNat (i+Wt (B.drop i)))) h):W1 (.func 134) [v,.int .i64 (Int.ofNat i)] h k:=by
 refine Baa (n:=B.length+5+1) Bl (Bkf ?_)
 unfold Aeo
 have a0:at0 (B.drop i) 0=bt B i:=Ka
 have a1:at0 (B.drop i) 1=bt B (i+1):=Ka
 unfold Wt at hk
 rw[a0,a1,Aoc,Aoc,List.drop_drop] at hk
 refine Mn hr ?_
 unfold ub
 rw[Au]
 refine Dz (A0k _) ?_
 rw[Ce]
 refine Lb (b:=!(decide (bt B i=46))||!(isDigit (bt B (i+1)))) (fun k' hk'=>Mn hr ?_) ?_
 · unfold ub
   rw[Au,Azl _ 46 (by decide)]
   refine Rt (b:=!(isDigit (bt B (i+1)))) (fun k'' hk''=>Fs (by omega) (Mn hr ?_)) ?_
   · unfold ub
     rw[Au]
     refine Dz (A0k _) ?_
     rw[Ce]
     exact(Br _).symm▸hk''
   · exact(Br (decide (bt B i=UInt8.ofNat 46))).symm▸hk'
 · rw[Br]
   have he:(bt B i==46)=decide (bt B i=46):=rfl
   rw[he] at hk
   by_cases a:(isDigit (bt B i)||decide (bt B i=46)&&isDigit (bt B (i+1)))=true
   · rw[if_pos a] at hk
     refine Bo ?_ (Fs (by omega) (Agk hr hl _ (i+1) (by omega) (by omega) ?_))
     · cases h1:isDigit (bt B i)<;>cases h2:decide (bt B i=46)<;>cases h3:isDigit (bt B (i+1))<;>simp_all
     · unfold Ws
       have:i+1+Nk (B.drop (i+1))=i+(1+Nk (B.drop (i+1))):=by omega
       rw[this];exact hk
   · rw[if_neg a] at hk
     refine Cj ?_ hk
     cases h1:isDigit (bt B i)<;>cases h2:decide (bt B i=46)<;>cases h3:isDigit (bt B (i+1))<;>simp_all
def idV(B:List UInt8)(j:Nat):Nat:=j+idL (B.drop j)
theorem A5h{B:List UInt8}{j:Nat}:idV B j=if(Dw (bt B j)||isDigit (bt B j))=true then idV B (j+1) else j:=by
 rcases Nat.lt_or_ge j B.length with h|h
 · rw[Aa3 h]
   unfold idV idL
   rw[drop_cons h,List.takeWhile_cons]
   by_cases a:(Dw B[j]||isDigit B[j])=true
   · rw[if_pos a,if_pos (show(Go.Lx.Dw B[j]||Go.Lx.isDigit B[j])=true from a)]
     simp only[List.length_cons];omega
   · rw[if_neg a,if_neg (show¬(Go.Lx.Dw B[j]||Go.Lx.isDigit B[j])=true from a)];rfl
 · rw[Si h,if_neg (by decide)]
   unfold idV idL
   rw[List.drop_eq_nil_of_le h];rfl
theorem Avw {h : H} {v : AV} {B : List UInt8} {k : KV} (hr : Rs h v B) (hl : B.length ≤ 1000000) :
    ∀ (n j : Nat), B.length + 1 - j ≤ n → j ≤ B.length → k (.tuple [.int .i64 (Int.ofNat 1), .int .i64 (Int.ofNat (idV B j)), .bool false]) h → (r80 W1 k n).a1 v (Int.ofNat j) h
  | 0, _, hn, hj, _ => absurd hn (by omega)
  | n + 1, j, hn, hj, hk => by
    refine Bdj ?_
    unfold Amr
    rw [A5h] at hk
    refine Mn hr ?_
    unfold ub
    rw [Au]
    refine Dz (A8t _) ?_
    rw [Ce]
    refine Rt (b := isDigit (bt B j)) (fun k' hk' => Mn hr ?_) ?_
    · unfold ub
      rw [Au]
      exact Dz (A0k _) (by rw [Ce]; exact hk')
    · by_cases a : (Dw (bt B j) || isDigit (bt B j)) = true
      · rw [if_pos a] at hk
        have hlt : j < B.length := by
          rcases Nat.lt_or_ge j B.length with h1 | h1
          · exact h1
          · rw [Si h1] at a; exact absurd a (by decide)
        exact Cj a (Fs (by omega) (Avw hr hl n (j + 1) (by omega) hlt hk))
      · rw [if_neg a] at hk
        exact Bo (by simpa using a) hk
end Go.Den
namespace Go.Den
open Go.RowKit
set_option maxRecDepth 100000
open Go.Lx (Jv Nk Wt Xn Mp Oo Aky idL Ahz at0)
theorem A8u{h:H}{v:AV}{B:List UInt8}{i:Nat}{k:KV}(hr:Rs h v B)(hl:B.length≤1000000)(hi:i<B.length)(hk:k (.int .i64 (Int.ofNat (Sq (bt B i) B (i+1)))) h):W1 (.func 131) [v,.int .i64 (Int.ofNat i)] h k:=by
 refine Bad (n:=2*B.length+4+1) Bl (Bki ?_)
 unfold Aes
 refine Mn hr ?_
 unfold ub
 rw[Au]
 exact Fs (by omega) (Agl hr hl _ (i+1) (by omega) (by omega) hk)
theorem Aij{B:List UInt8}{i:Nat}:Ug B i=match Aky (B.drop i) with
 |some k=>Int.ofNat k
 |none=>Int.negSucc 0:=by
 unfold Ug Aky
 rw[show at0 (B.drop i) 0=bt B i from Ka,show at0 (B.drop i) 1=bt B (i+1) from Ka,show at0 (B.drop i) 2=bt B (i+2) from Ka]
 by_cases a:bt B i=34∨bt B i=39
 · rw[if_pos a,if_pos (by simpa using a)]
 · rw[if_neg a,if_neg (by simpa using a)]
   by_cases b:bt B i=117∧bt B (i+1)=56∧bt B (i+2)=34
   · rw[if_pos b,if_pos (by simp[b])]
   · rw[if_neg b,if_neg (by simp only[Bool.and_eq_true,decide_eq_true_eq];exact fun e=>b ⟨e.1.1,e.1.2,e.2⟩)]
     by_cases d:(bt B i=76∨bt B i=117∨bt B i=85)∧(bt B (i+1)=34∨bt B (i+1)=39)
     · rw[if_pos d,if_pos (by simp only[Bool.and_eq_true,Bool.or_eq_true,decide_eq_true_eq];exact⟨by rcases d.1 with h|h|h<;>simp[h],d.2⟩)]
     · rw[if_neg d,if_neg (by simp only[Bool.and_eq_true,Bool.or_eq_true,decide_eq_true_eq];exact fun e=>d ⟨by rcases e.1 with(h|h)|h<;>simp[h],e.2⟩)]
theorem As0{B:List UInt8}:∀(p:List UInt8)(i:Nat),(∀x∈p,x≠0)→pre B i p=p.isPrefixOf (B.drop i)
 |[],i,_=>by cases B.drop i<;>rfl
 |x::p,i,hp=>by
  have ih:=As0 (B:=B) p (i+1) fun y hy=>hp y (by simp[hy])
  show(decide (bt B i=x)&&pre B (i+1) p)=_
  rcases Nat.lt_or_ge i B.length with h|h
  · rw[drop_cons h,Aa3 h,ih]
    show _=((x==B[i])&&p.isPrefixOf (B.drop (i+1)))
    congr 1
    rw[Bool.eq_iff_iff,decide_eq_true_eq,beq_iff_eq]
    exact⟨Eq.symm,Eq.symm⟩
  · rw[Si h,List.drop_eq_nil_of_le h,decide_eq_false (fun e=>hp x (by simp) e.symm)];rfl
theorem Xc {B : List UInt8} {i : Nat} : ∀ (l : List (List UInt8)), (∀ p ∈ l, ∀ x ∈ p, x ≠ 0) → Sx B i l = match l.find? (fun p => p.isPrefixOf (B.drop i)) with
    | some p => p.length
    | none => 0
  | [], _ => rfl
  | p :: l, h => by
    have ih := Xc (B := B) (i := i) l fun q hq => h q (by simp [hq])
    unfold Sx
    rw [As0 p i (h p (by simp)), List.find?_cons]
    cases p.isPrefixOf (B.drop i) with
    | true => rfl
    | false => rw [if_neg (by decide)]; exact ih
theorem Ap9{B:List UInt8}{i:Nat}:Sx B i Cp=Ahz (B.drop i):=by
 rw[Xc Cp (by decide)]
 rfl
def nxV(B:List UInt8)(i:Nat)(r:Nat×Nat×Bool):AV:=.tuple [.int .i64 (Int.ofNat r.1),.int .i64 (Int.ofNat (i+r.2.1)),.bool r.2.2]
theorem Avv{h:H}{v:AV}{B:List UInt8}{i n:Nat}{k:KV}(hr:Rs h v B)(hl:B.length≤1000000)(hi:i<B.length)(hn:B.length+5≤n)(hk:∀h',Exh h h'→k (nxV B i (Oo (B.drop i))) h'):(r80 W1 k n).a2 v (Int.ofNat i) h:=by
 obtain⟨n,rfl⟩:∃m,n=m+1:=⟨n-1,by omega⟩
 refine Bdi ?_
 unfold Amq
 unfold Oo at hk
 rw[show at0 (B.drop i) 0=bt B i from Ka,Atl] at hk
 refine Mn hr ?_
 unfold ub
 rw[Au]
 refine Dz (A8t _) ?_
 rw[Ce]
 by_cases a:Dw (bt B i)=true
 · rw[if_pos a] at hk
   refine Cj a (Fs (by omega) (Avw hr hl n (i+1) (by omega) hi ?_))
   have:=hk h .refl
   unfold nxV at this
   unfold idV
   rw[List.drop_drop] at this
   have e:i+(1+idL (B.drop (i+1)))=i+1+idL (B.drop (i+1)):=by omega
   simp only[e] at this
   exact this
 · rw[if_neg a] at hk
   refine Bo (by simpa using a) (A8s hr hl hi ?_)
   rw[Au,ilt]
   by_cases b:0<Wt (B.drop i)
   · rw[if_pos b] at hk
     exact Cj (decide_eq_true (by omega)) (hk h .refl)
   · rw[if_neg b] at hk
     refine Bo (decide_eq_false (by omega)) (Bl6 hr (by omega) fun h' x=>?_)
     rw[Au,ilt,Ap9]
     by_cases d:0<Ahz (B.drop i)
     · rw[if_pos d] at hk
       have:=Go.Lx.An1 (B.drop i)
       rw[List.length_drop] at this
       exact Cj (decide_eq_true d) (Fs (by omega) (hk h' x))
     · rw[if_neg d] at hk
       exact Bo (decide_eq_false d) (Fs (by omega) (hk h' x))
theorem Bf4{h:H}{v:AV}{B:List UInt8}{i:Nat}{k:KV}(hr:Rs h v B)(hl:B.length≤1000000)(hi:i<B.length)(hk:∀h',Exh h h'→k (nxV B i (Go.Lx.On (B.drop i))) h'):W1 (.func 80) [v,.int .i64 (Int.ofNat i)] h k:=by
 refine w80 (n:=B.length+6+1) Bl (g80 ?_)
 unfold Ams
 refine Bl7 hr (by omega) ?_
 rw[Au,Aij]
 unfold Go.Lx.On at hk
 cases hL:Aky (B.drop i) with
 |none=>
  rw[hL] at hk
  exact Bo rfl (Avv hr hl hi (by omega) hk)
 |some kk=>
  rw[hL] at hk
  simp only[] at hk ⊢
  have hq:bt B (i+kk)≠0:=by
   have e0:at0 (B.drop i) 0=bt B i:=Ka
   have e1:at0 (B.drop i) 1=bt B (i+1):=Ka
   have e2:at0 (B.drop i) 2=bt B (i+2):=Ka
   unfold Aky at hL
   rw[e0,e1,e2] at hL
   split at hL
   · rename_i h1
     cases hL
     rcases h1 with h1|h1<;>(rw[show i+0=i from rfl,h1];decide)
   · split at hL
     · rename_i h1
       cases hL
       rw[h1.2.2];decide
     · split at hL
       · rename_i h1
         cases hL
         rcases h1.2 with h1|h1<;>(rw[h1];decide)
       · cases hL
  have hlt:i+kk<B.length:=by
   rcases Nat.lt_or_ge (i+kk) B.length with h1|h1
   · exact h1
   · exact absurd (Si h1) hq
  rw[show at0 (B.drop i) kk=bt B (i+kk) from Ka,List.drop_drop] at hk
  refine Cj (by rw[ile];exact decide_eq_true (Nat.zero_le _)) (Fs (by omega) (A8u hr hl hlt ?_))
  rw[Au]
  unfold Sq
  rw[show i+(kk+1)=i+kk+1 from rfl] at hk
  cases hQ:Jv (bt B (i+kk)) (B.drop (i+kk+1)) with
  |some n=>
   rw[hQ] at hk
   simp only[] at hk ⊢
   have hqn:=Go.Lx.Xt hQ
   rw[List.length_drop] at hqn
   have en:i+(kk+1+n)=i+kk+1+n:=by omega
   rw[ilt,decide_eq_true (show 0<i+kk+1+n by omega)]
   refine Lb (b:=decide (bt B (i+kk)=34)) (fun k' hk'=>Fs (by omega) (Mn hr ?_)) ?_
   · unfold ub
     rw[Au,Azl _ 34 (by decide)];exact hk'
   · rw[Bool.true_and]
     by_cases e:bt B (i+kk)=34
     · rw[if_pos e] at hk
       refine Cj (decide_eq_true e) ?_
       have:=hk h .refl
       unfold nxV at this
       simp only[en] at this
       exact this
     · rw[if_neg e] at hk
       refine Bo (decide_eq_false e) (Cj rfl ?_)
       have:=hk h .refl
       unfold nxV at this
       simp only[en] at this
       exact this
  |none=>
   rw[hQ] at hk
   simp only[] at hk ⊢
   rw[ilt,decide_eq_false (show¬0<0 by omega)]
   refine Gi (fun e=>nomatch e) (fun _=>Bo rfl (Bo rfl ?_))
   rw[Ru]
   by_cases e:kk=0
   · rw[if_pos e] at hk
     exact Cj (decide_eq_true e) (Fs (by omega) (hk h .refl))
   · rw[if_neg e] at hk
     exact Bo (decide_eq_false e) (Avv hr hl hi (by omega) hk)
end Go.Den
