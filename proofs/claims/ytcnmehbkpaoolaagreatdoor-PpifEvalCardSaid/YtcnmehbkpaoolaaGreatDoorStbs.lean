/-
 Proof.
-/
import Derived.Test.YtcnmehbkpaoolaaGreatDoorLaid
import Derived.Test.YtcnmehbkpaoolaaGreatDoorRows
import Derived.Stop.LaidErr
import Derived.Lib.LaidU8
import Derived.MakeChecks
import Derived.RowKitTokens
import Derived.ChangeSlices
import Derived.WideShapes
import Derived.SizedLaws
import Derived.ChangeMaps5
noncomputable section
namespace Go.Den
open Go.RowKit Go.ChangeShapes
set_option maxRecDepth 100000
theorem star : "*" ++ "errors.errorString" = "*errors.errorString" := by decide
theorem A2g (u : TypeId) (h : PP.typeName? 3 u = some "*errors.errorString") : u = 414 :=
 typeName_ptr_named (nm := "errors.errorString") (by rw [star]; kernel_rfl) (by kernel_rfl) (by decide) u (by rw [star]; exact h)
abbrev Ap3:List (String×DataW Unit):=Proofs.YtcnmehbkpaoolaaGreatDoor.Rows.ppifEvalRow.laid
theorem Aso{W:World}(hL:laidMetH PP Ap3 W):laidMet PP Ap3 W:=by
 rw[MakeChecks.laidMetH_plain _ _ _ (by kernel_rfl)] at hL
 exact hL
theorem Axt {W : World} (hL : laidMetH PP Ap3 W) : ∃ a : Addr, W.var? PP "strconv.ErrRange" = some #[.iface 414 (.pointer (some a))] ∧ a.spot = none := by
 have hL:=Aso hL
 obtain⟨a,s,h1,h2,_,_⟩:=laid_sentinel (g:=6) (ti:=151) (tp:=414) (te:=416) (ts:=9) hL.tail.tail.tail.tail (by kernel_rfl) (by kernel_rfl) Proofs.Tryz.underlying151 A2g Proofs.Tryz.underlying414 Proofs.Tryz.underlying416 rfl rfl Proofs.Tryz.underlying9 (by kernel_rfl) (by kernel_rfl)
 refine⟨a,h1,?_⟩
 unfold World.cell? at h2
 cases hb:W.heap[a.block]? with
 |none=>rw[hb] at h2;cases h2
 |some o=>
  rw[hb] at h2
  cases o<;>simp at h2
  exact h2.1
theorem Auz{W:World}{n:String}{g:Nat}{cs:Array Value}(hg:PP.globalNamed n=some g)(hv:W.var? PP n=some cs):∃e fz,W.heap[g]? =some (.cells cs e fz):=by
 unfold World.var? at hv
 rw[hg] at hv
 simp only[Option.bind_some] at hv
 cases hb:W.heap[g]? with
 |none=>rw[hb] at hv;cases hv
 |some o=>
  rw[hb] at hv
  cases o<;>simp at hv
  subst hv
  exact⟨_,_,rfl⟩
end Go.Den
namespace Go.Den
open Go.RowKit Go.ChangeShapes Go.WideShapes
set_option maxRecDepth 100000
def Wk(a:Addr):List Loc:=[⟨0,0,0⟩,⟨1,0,0⟩,⟨2,0,0⟩,⟨3,0,0⟩,⟨4,0,0⟩,⟨5,0,0⟩,⟨6,0,1⟩,⟨7,0,0⟩,⟨8,0,0⟩,⟨9,0,0⟩,⟨10,0,0⟩,⟨11,0,0⟩,⟨a.block,a.off,0⟩]
theorem Asn{W:World}(hL:laidMetH PP Ap3 W):∃a:Addr,∀(L:List Loc),L[12]? =some ⟨a.block,a.off,0⟩→∀(i:Nat)(o:Ob FT)(c:Loc),(Aa1:List (Ob FT))[i]? =some o→(Wk a)[i]? =some c→ObR (mu0 L) W c o:=by
 obtain⟨a,hv,hsp⟩:=Axt hL
 obtain⟨e6,fz6,hb6⟩:=Auz (by kernel_rfl) hv
 refine⟨a,fun L hL12 i o c h1 h2=>?_⟩
 have dead:∀μ:Mu,o=.dead→ObR μ W c o:=fun μ e=>by subst e;trivial
 match i,h1,h2 with
 |6,h1,h2=>
  cases h1;cases h2
  refine⟨_,e6,fz6,hb6,rfl,Nat.le_refl 1,fun j hj=>?_⟩
  have:j=0:=by omega
  subst this
  refine⟨_,rfl,⟨_,rfl,⟨a.block,a.off,0⟩,?_,?_⟩,rfl⟩
  · show L[(pOf 12).nat]? =_
    rw[Dw];exact hL12
  · show Value.pointer (some a)=.pointer (some ⟨a.block,a.off+0,none⟩)
    rw[←hsp];rfl
 |0,h1,_|1,h1,_|2,h1,_|3,h1,_|4,h1,_|5,h1,_|7,h1,_|8,h1,_|9,h1,_|10,h1,_|11,h1,_|12,h1,_=>exact dead _ (Option.some.inj h1).symm
 |i+13,h1,_=>cases h1
theorem Aki:PP.cellsOf 3=1:=by kernel_rfl
theorem Ab7{l:List (Ob FT)}(h0:l[0]? =some oA)(h6:l[6]? =some oE)(hl:13≤l.length):Ky (Lf l):=by
 refine⟨?_,?_,?_⟩
 · rw[Kw,Dw,List.getD_eq_getElem?_getD,h0];rfl
 · rw[Kw,Dw,List.getD_eq_getElem?_getD,h6];rfl
 · show 13≤(pOf l.length).nat
   rw[Dw];exact hl
theorem At7:PP.cellsOf 9=1:=by kernel_rfl
end Go.Den
