/-
 Proof.
-/
import Derived.Test.YtcnmehbkpaoolaaGreatDoorLaid
import Derived.Test.YtcnmehbkpaoolaaGreatDoorRows
import Derived.Stop.LaidErr
import Derived.Lib.LaidU8
import Derived.MakeChecks
import Derived.RowKitTokens
noncomputable section
namespace Go.Den
open Go.RowKit Go.ChangeShapes
set_option maxRecDepth 100000
theorem star : "*" ++ "errors.errorString" = "*errors.errorString" := by decide
theorem A3g (u : TypeId) (h : PP.typeName? 3 u = some "*errors.errorString") : u = 414 :=
 typeName_ptr_named (nm := "errors.errorString") (by rw [star]; kernel_rfl) (by kernel_rfl) (by decide) u (by rw [star]; exact h)
abbrev Amd:List (String×DataW Unit):=Proofs.YtcnmehbkpaoolaaGreatDoor.Rows.convertEachRow.laid
theorem Ain{W:World}(hL:laidMetH PP Amd W):laidMet PP Amd W:=by
 rw[MakeChecks.laidMetH_plain _ _ _ (by kernel_rfl)] at hL
 exact hL
theorem Azv {W : World} (hL : laidMetH PP Amd W) : ∃ a : Addr, W.var? PP "strconv.ErrRange" = some #[.iface 414 (.pointer (some a))] ∧ a.spot = none := by
 have hL:=Ain hL
 obtain⟨a,s,h1,h2,_,_⟩:=laid_sentinel (g:=6) (ti:=151) (tp:=414) (te:=416) (ts:=9) hL.tail.tail.tail.tail (by kernel_rfl) (by kernel_rfl) Proofs.Tryz.underlying151 A3g Proofs.Tryz.underlying414 Proofs.Tryz.underlying416 rfl rfl Proofs.Tryz.underlying9 (by kernel_rfl) (by kernel_rfl)
 refine⟨a,h1,?_⟩
 unfold World.cell? at h2
 cases hb:W.heap[a.block]? with
 |none=>rw[hb] at h2;cases h2
 |some o=>
  rw[hb] at h2
  cases o<;>simp at h2
  exact h2.1
def Adf:List Int:=(List.range 256).map fun i=>((Akd i:Nat):Int)
theorem Akc:Proofs.YtcnmehbkpaoolaaGreatDoor.Rows.laid_strings_asciiSpace (H:=Unit)=Lib.tabData .u8 Adf:=by kernel_rfl
theorem Apj {W : World} (hL : laidMetH PP Amd W) : ∃ cs : Array Value, W.var? PP "strings.asciiSpace" = some cs ∧ cs.toList = Adf.map fun z => Value.int .u8 z := by
 have hL:=Ain hL
 obtain ⟨g, t, cs, fuel, p, hg, hty, hvar, hd⟩ := Lib.laidMet.reads hL (n := "strings.asciiSpace") (d := Proofs.YtcnmehbkpaoolaaGreatDoor.Rows.laid_strings_asciiSpace) (List.getElem_mem (l := Amd) (n := 7) (by decide))
 obtain rfl := Option.some.inj ((show PP.globalNamed "strings.asciiSpace" = some 0 by kernel_rfl).symm.trans hg)
 obtain rfl:=Option.some.inj ((show(PP.globals[0]?).map (·.type)=some 236 by kernel_rfl).symm.trans hty)
 rw[Akc] at hd
 exact⟨cs,hvar,Lib.cells_of_tab Proofs.Tryz.underlying236 Proofs.Tryz.underlying5 (by kernel_rfl) (by kernel_rfl) hd⟩
theorem Ajl{W:World}{n:String}{g:Nat}{cs:Array Value}(hg:PP.globalNamed n=some g)(hv:W.var? PP n=some cs):∃e fz,W.heap[g]? =some (.cells cs e fz):=by
 unfold World.var? at hv
 rw[hg] at hv
 simp only[Option.bind_some] at hv
 cases hb:W.heap[g]? with
 |none=>rw[hb] at hv;cases hv
 |some o=>
  rw[hb] at hv
  cases o<;>simp at hv
  subst hv
  exact⟨_,_,rfl⟩
theorem Aka{W:World}(hL:laidMetH PP Amd W):∃L,Sim (mu0 L) h1 W∧Fw (mu0 L) G:=by
 obtain⟨a,hv,hsp⟩:=Azv hL
 obtain⟨e6,fz6,hb6⟩:=Ajl (by kernel_rfl) hv
 obtain⟨cs,hv0,hcs⟩:=Apj hL
 obtain⟨e0,fz0,hb0⟩:=Ajl (by kernel_rfl) hv0
 have hsz:cs.size=256:=by
  have:=congrArg List.length hcs
  rw[List.length_map] at this
  unfold Adf at this
  rw[List.length_map,List.length_range] at this
  rw[←this];simp
 refine⟨[⟨0,0,256⟩,⟨1,0,0⟩,⟨2,0,0⟩,⟨3,0,0⟩,⟨4,0,0⟩,⟨5,0,0⟩,⟨6,0,1⟩,⟨7,0,0⟩,⟨8,0,0⟩,⟨9,0,0⟩,⟨10,0,0⟩,⟨11,0,0⟩,⟨a.block,a.off,0⟩],?_,?_⟩
 · refine Ahf rfl rfl fun i o c h1 h2=>?_
   have dead:∀μ:Mu,o=.dead→ObR μ W c o:=fun μ e=>by subst e;trivial
   match i,h1,h2 with
   |0,h1,h2=>
    cases h1;cases h2
    refine⟨_,e0,fz0,hb0,hsz.symm,by show 0+256≤cs.size;omega,fun j hj=>?_⟩
    refine⟨.int .u8 ((Akd j:Nat):Int),?_,rfl,rfl⟩
    rw[Nat.zero_add,←Array.getElem?_toList,hcs,List.getElem?_map]
    unfold Adf
    rw[List.getElem?_map,List.getElem?_range hj];rfl
   |6,h1,h2=>
    cases h1;cases h2
    refine⟨_,e6,fz6,hb6,rfl,Nat.le_refl 1,fun j hj=>?_⟩
    have:j=0:=by omega
    subst this
    refine⟨_,rfl,⟨_,rfl,⟨a.block,a.off,0⟩,?_,?_⟩,rfl⟩
    · show([_,_,_,_,_,_,_,_,_,_,_,_,_]:List Loc)[(pOf 12).nat]? =_
      rw[Dp];rfl
    · show Value.pointer (some a)=.pointer (some ⟨a.block,a.off+0,none⟩)
      rw[←hsp];rfl
   |1,h1,_|2,h1,_|3,h1,_|4,h1,_|5,h1,_|7,h1,_|8,h1,_|9,h1,_|10,h1,_|11,h1,_|12,h1,_=>exact dead _ (Option.some.inj h1).symm
   |i+13,h1,_=>cases h1
 · refine Aan fun g hg=>?_
   have hg:g<12:=hg
   match g,hg with
   |0,_|1,_|2,_|3,_|4,_|5,_|6,_|7,_|8,_|9,_|10,_|11,_=>exact⟨_,rfl,rfl,rfl⟩
theorem Bi7:Bc5.all (fun o=>!o.own)=true:=rfl
end Go.Den
