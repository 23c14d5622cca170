/-
 Proof.
-/
import Derived.Test.YtcnmehbkpaoolaaGreatDoorLaid
import Derived.Test.YtcnmehbkpaoolaaGreatDoorRows
import Derived.Stop.LaidErr
import Derived.Lib.LaidU8
import Derived.MakeChecks
import Derived.RowKitTokens
import Derived.ChangeSlices
import Derived.WideShapes
import Derived.SizedLaws
import Derived.ChangeMaps5
noncomputable section
namespace Go.Den
open Go.RowKit Go.ChangeShapes
set_option maxRecDepth 100000
theorem star : "*" ++ "errors.errorString" = "*errors.errorString" := by decide
theorem A24 (u : TypeId) (h : PP.typeName? 3 u = some "*errors.errorString") : u = 414 :=
 typeName_ptr_named (nm := "errors.errorString") (by rw [star]; kernel_rfl) (by kernel_rfl) (by decide) u (by rw [star]; exact h)
abbrev Ajo:List (String×DataW Unit):=Proofs.YtcnmehbkpaoolaaGreatDoor.Rows.convertAllRow.laid
theorem Aid{W:World}(hL:laidMetH PP Ajo W):laidMet PP Ajo W:=by
 rw[MakeChecks.laidMetH_plain _ _ _ (by kernel_rfl)] at hL
 exact hL
theorem Aza {W : World} (hL : laidMetH PP Ajo W) : ∃ a : Addr, W.var? PP "strconv.ErrRange" = some #[.iface 414 (.pointer (some a))] ∧ a.spot = none := by
 have hL:=Aid hL
 obtain⟨a,s,h1,h2,_,_⟩:=laid_sentinel (g:=6) (ti:=151) (tp:=414) (te:=416) (ts:=9) hL.tail.tail.tail.tail (by kernel_rfl) (by kernel_rfl) Proofs.Tryz.underlying151 A24 Proofs.Tryz.underlying414 Proofs.Tryz.underlying416 rfl rfl Proofs.Tryz.underlying9 (by kernel_rfl) (by kernel_rfl)
 refine⟨a,h1,?_⟩
 unfold World.cell? at h2
 cases hb:W.heap[a.block]? with
 |none=>rw[hb] at h2;cases h2
 |some o=>
  rw[hb] at h2
  cases o<;>simp at h2
  exact h2.1
def Adl:List Int:=(List.range 256).map fun i=>((Aj3 i:Nat):Int)
theorem Aj2:Proofs.YtcnmehbkpaoolaaGreatDoor.Rows.laid_strings_asciiSpace (H:=Unit)=Lib.tabData .u8 Adl:=by kernel_rfl
theorem Apz {W : World} (hL : laidMetH PP Ajo W) : ∃ cs : Array Value, W.var? PP "strings.asciiSpace" = some cs ∧ cs.toList = Adl.map fun z => Value.int .u8 z := by
 have hL:=Aid hL
 obtain ⟨g, t, cs, fuel, p, hg, hty, hvar, hd⟩ := Lib.laidMet.reads hL (n := "strings.asciiSpace") (d := Proofs.YtcnmehbkpaoolaaGreatDoor.Rows.laid_strings_asciiSpace) (List.getElem_mem (l := Ajo) (n := 7) (by decide))
 obtain rfl := Option.some.inj ((show PP.globalNamed "strings.asciiSpace" = some 0 by kernel_rfl).symm.trans hg)
 obtain rfl:=Option.some.inj ((show(PP.globals[0]?).map (·.type)=some 236 by kernel_rfl).symm.trans hty)
 rw[Aj2] at hd
 exact⟨cs,hvar,Lib.cells_of_tab Proofs.Tryz.underlying236 Proofs.Tryz.underlying5 (by kernel_rfl) (by kernel_rfl) hd⟩
theorem Ajc{W:World}{n:String}{g:Nat}{cs:Array Value}(hg:PP.globalNamed n=some g)(hv:W.var? PP n=some cs):∃e fz,W.heap[g]? =some (.cells cs e fz):=by
 unfold World.var? at hv
 rw[hg] at hv
 simp only[Option.bind_some] at hv
 cases hb:W.heap[g]? with
 |none=>rw[hb] at hv;cases hv
 |some o=>
  rw[hb] at hv
  cases o<;>simp at hv
  subst hv
  exact⟨_,_,rfl⟩
end Go.Den
namespace Go.Den
open Go.RowKit Go.ChangeShapes Go.WideShapes
set_option maxRecDepth 100000
def Xb(a:Addr):List Loc:=[⟨0,0,256⟩,⟨1,0,0⟩,⟨2,0,0⟩,⟨3,0,0⟩,⟨4,0,0⟩,⟨5,0,0⟩,⟨6,0,1⟩,⟨7,0,0⟩,⟨8,0,0⟩,⟨9,0,0⟩,⟨10,0,0⟩,⟨11,0,0⟩,⟨a.block,a.off,0⟩]
theorem Aty{W:World}(hL:laidMetH PP Ajo W):∃a:Addr,∀(L:List Loc),L[12]? =some ⟨a.block,a.off,0⟩→∀(i:Nat)(o:Ob FT)(c:Loc),(Abj:List (Ob FT))[i]? =some o→(Xb a)[i]? =some c→ObR (mu0 L) W c o:=by
 obtain⟨a,hv,hsp⟩:=Aza hL
 obtain⟨e6,fz6,hb6⟩:=Ajc (by kernel_rfl) hv
 obtain⟨cs,hv0,hcs⟩:=Apz hL
 obtain⟨e0,fz0,hb0⟩:=Ajc (by kernel_rfl) hv0
 have hsz:cs.size=256:=by
  have:=congrArg List.length hcs
  rw[List.length_map] at this
  unfold Adl at this
  rw[List.length_map,List.length_range] at this
  rw[←this];simp
 refine⟨a,fun L hL12 i o c h1 h2=>?_⟩
 have dead:∀μ:Mu,o=.dead→ObR μ W c o:=fun μ e=>by subst e;trivial
 match i,h1,h2 with
 |0,h1,h2=>
  cases h1;cases h2
  refine⟨_,e0,fz0,hb0,hsz.symm,by show 0+256≤cs.size;omega,fun j hj=>?_⟩
  refine⟨.int .u8 ((Aj3 j:Nat):Int),?_,rfl,rfl⟩
  rw[Nat.zero_add,←Array.getElem?_toList,hcs,List.getElem?_map]
  unfold Adl
  rw[List.getElem?_map,List.getElem?_range hj];rfl
 |6,h1,h2=>
  cases h1;cases h2
  refine⟨_,e6,fz6,hb6,rfl,Nat.le_refl 1,fun j hj=>?_⟩
  have:j=0:=by omega
  subst this
  refine⟨_,rfl,⟨_,rfl,⟨a.block,a.off,0⟩,?_,?_⟩,rfl⟩
  · show L[(pOf 12).nat]? =_
    rw[Cs];exact hL12
  · show Value.pointer (some a)=.pointer (some ⟨a.block,a.off+0,none⟩)
    rw[←hsp];rfl
 |1,h1,_|2,h1,_|3,h1,_|4,h1,_|5,h1,_|7,h1,_|8,h1,_|9,h1,_|10,h1,_|11,h1,_|12,h1,_=>exact dead _ (Option.some.inj h1).symm
 |i+13,h1,_=>cases h1
theorem Alb:PP.cellsOf 3=1:=by kernel_rfl
theorem Acw{l:List (Ob FT)}(h0:l[0]? =some oA)(h6:l[6]? =some oE)(hl:13≤l.length):Lw (Ky l):=by
 refine⟨?_,?_,?_⟩
 · rw[Ij,Cs,List.getD_eq_getElem?_getD,h0];rfl
 · rw[Ij,Cs,List.getD_eq_getElem?_getD,h6];rfl
 · show 13≤(pOf l.length).nat
   rw[Cs];exact hl
theorem Avm:PP.cellsOf 9=1:=by kernel_rfl
end Go.Den
