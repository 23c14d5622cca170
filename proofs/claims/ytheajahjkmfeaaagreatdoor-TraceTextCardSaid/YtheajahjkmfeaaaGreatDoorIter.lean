/-
 Proof.
-/
import Derived.Shelf.SlGeneric
import Derived.Shelf.SlIter.Nil
import Derived.Shelf.SortM.Plain
import Derived.Shelf.SortM.SortNone
import Derived.Ground.GgzProg
import Derived.Ground.SlgmProg
import Derived.Test.YtheajahjkmfeaaaGreatDoorProg
namespace Go.Proofs
open Go.Shelf
def Tryz.Aav:Go.Shelf.Ren:=⟨fun|7=>38|10=>61|n=>n,fun|23=>95|26=>9|3=>3|28=>101|0=>0|27=>100|33=>47|4=>4|n=>n,fun|n=>n⟩
theorem Tryz.A71:Go.Proofs.SlLaysZ.n7 Tryz.prog Tryz.Aav:={
 mixed:=by kernel_rfl
 f7:=⟨Tryz.f38.name,by decide,Tryz.func38.trans (congrArg some (by kernel_rfl))⟩
 f10:=⟨Tryz.f61.name,by decide,Tryz.func61.trans (congrArg some (by kernel_rfl))⟩
 t0:=Tryz.underlying0
 a0:=Tryz.isAgg0
 z0:=Tryz.sizeOf0
 v0:=Tryz.zeroValue0
 t4:=Tryz.underlying4
 a4:=Tryz.isAgg4
 z4:=Tryz.sizeOf4
 v4:=Tryz.zeroValue4
 t23:=Tryz.underlying95
 a23:=Tryz.isAgg95
 z23:=Tryz.sizeOf95
 v23:=Tryz.zeroValue95
 t26:=Tryz.underlying9
 a26:=Tryz.isAgg9
 z26:=Tryz.sizeOf9
 v26:=Tryz.zeroValue9
 t27:=Tryz.underlying100
 a27:=Tryz.isAgg100
 z27:=Tryz.sizeOf100
 v27:=Tryz.zeroValue100
 t28:=Tryz.underlying101
 a28:=Tryz.isAgg101
 z28:=Tryz.sizeOf101
 v28:=Tryz.zeroValue101
 t33:=Tryz.underlying47
 a33:=Tryz.isAgg47
 z33:=Tryz.sizeOf47
 v33:=Tryz.zeroValue47 }
def Tryz.Ug:Go.Shelf.Ren:=⟨fun|6=>37|8=>59|9=>60|11=>83|13=>85|12=>84|23=>116|24=>117|14=>107|15=>108|16=>109|17=>110|18=>111|19=>112|20=>113|21=>114|22=>115|25=>158|26=>159|27=>160|28=>161|29=>162|30=>163|31=>207|n=>n,fun|26=>9|28=>101|24=>32|0=>0|3=>3|37=>210|48=>170|50=>243|4=>4|40=>235|39=>234|45=>85|5=>5|9=>9|51=>286|55=>290|57=>340|58=>246|33=>47|n=>n,fun|n=>n⟩
theorem Tryz.As6:Go.Proofs.SlLaysZ.n6 Tryz.prog Tryz.Ug:={
 mixed:=by kernel_rfl
 f6:=⟨Tryz.f37.name,by decide,Tryz.func37.trans (congrArg some (by kernel_rfl))⟩
 f8:=⟨Tryz.f59.name,by decide,Tryz.func59.trans (congrArg some (by kernel_rfl))⟩
 f11:=⟨Tryz.f83.name,by decide,Tryz.func83.trans (congrArg some (by kernel_rfl))⟩
 t0:=Tryz.underlying0
 a0:=Tryz.isAgg0
 z0:=Tryz.sizeOf0
 v0:=Tryz.zeroValue0
 t24:=Tryz.underlying32
 a24:=Tryz.isAgg32
 z24:=Tryz.sizeOf32
 v24:=Tryz.zeroValue32
 t26:=Tryz.underlying9
 a26:=Tryz.isAgg9
 z26:=Tryz.sizeOf9
 v26:=Tryz.zeroValue9
 t28:=Tryz.underlying101
 a28:=Tryz.isAgg101
 z28:=Tryz.sizeOf101
 v28:=Tryz.zeroValue101
 i26:=by kernel_rfl }
def Tryz.Aj8:Go.Shelf.Ren:=⟨fun|6=>60|8=>85|9=>84|19=>116|20=>117|21=>107|22=>108|23=>109|24=>110|25=>111|26=>112|27=>113|28=>114|29=>115|36=>158|31=>159|32=>160|37=>161|38=>162|39=>163|41=>207|n=>n,fun|27=>32|29=>9|3=>3|32=>210|26=>32|0=>0|44=>170|46=>243|4=>4|36=>235|35=>234|41=>85|5=>5|9=>9|53=>286|57=>290|63=>340|64=>246|n=>n,fun|n=>n⟩
theorem Tryz.As7:Go.Proofs.SlLaysM.n6 Tryz.prog Tryz.Aj8:={
 mixed:=by kernel_rfl
 f6:=⟨Tryz.f60.name,by decide,Tryz.func60.trans (congrArg some (by kernel_rfl))⟩
 f8:=Tryz.func85.trans (congrArg some (by kernel_rfl))
 f9:=⟨Tryz.f84.name,by decide,Tryz.func84.trans (congrArg some (by kernel_rfl))⟩
 f19:=Tryz.func116.trans (congrArg some (by kernel_rfl))
 f20:=Tryz.func117.trans (congrArg some (by kernel_rfl))
 f21:=⟨Tryz.f107.name,by decide,Tryz.func107.trans (congrArg some (by kernel_rfl))⟩
 f22:=⟨Tryz.f108.name,by decide,Tryz.func108.trans (congrArg some (by kernel_rfl))⟩
 f23:=⟨Tryz.f109.name,by decide,Tryz.func109.trans (congrArg some (by kernel_rfl))⟩
 f24:=⟨Tryz.f110.name,by decide,Tryz.func110.trans (congrArg some (by kernel_rfl))⟩
 f25:=⟨Tryz.f111.name,by decide,Tryz.func111.trans (congrArg some (by kernel_rfl))⟩
 f26:=⟨Tryz.f112.name,by decide,Tryz.func112.trans (congrArg some (by kernel_rfl))⟩
 f27:=⟨Tryz.f113.name,by decide,Tryz.func113.trans (congrArg some (by kernel_rfl))⟩
 f28:=⟨Tryz.f114.name,by decide,Tryz.func114.trans (congrArg some (by kernel_rfl))⟩
 f29:=⟨Tryz.f115.name,by decide,Tryz.func115.trans (congrArg some (by kernel_rfl))⟩
 f31:=Tryz.func159.trans (congrArg some (by kernel_rfl))
 f32:=Tryz.func160.trans (congrArg some (by kernel_rfl))
 f36:=⟨Tryz.f158.name,by decide,Tryz.func158.trans (congrArg some (by kernel_rfl))⟩
 f37:=⟨Tryz.f161.name,by decide,Tryz.func161.trans (congrArg some (by kernel_rfl))⟩
 f38:=⟨Tryz.f162.name,by decide,Tryz.func162.trans (congrArg some (by kernel_rfl))⟩
 f39:=⟨Tryz.f163.name,by decide,Tryz.func163.trans (congrArg some (by kernel_rfl))⟩
 f41:=⟨Tryz.f207.name,by decide,Tryz.func207.trans (congrArg some (by kernel_rfl))⟩
 t0:=Tryz.underlying0
 a0:=Tryz.isAgg0
 z0:=Tryz.sizeOf0
 v0:=Tryz.zeroValue0
 t3:=Tryz.underlying3
 a3:=Tryz.isAgg3
 z3:=Tryz.sizeOf3
 v3:=Tryz.zeroValue3
 t4:=Tryz.underlying4
 a4:=Tryz.isAgg4
 z4:=Tryz.sizeOf4
 v4:=Tryz.zeroValue4
 t5:=Tryz.underlying5
 a5:=Tryz.isAgg5
 z5:=Tryz.sizeOf5
 v5:=Tryz.zeroValue5
 t9:=Tryz.underlying9
 a9:=Tryz.isAgg9
 z9:=Tryz.sizeOf9
 v9:=Tryz.zeroValue9
 t26:=Tryz.underlying32
 a26:=Tryz.isAgg32
 z26:=Tryz.sizeOf32
 v26:=Tryz.zeroValue32
 t27:=Tryz.underlying32
 a27:=Tryz.isAgg32
 z27:=Tryz.sizeOf32
 v27:=Tryz.zeroValue32
 t29:=Tryz.underlying9
 a29:=Tryz.isAgg9
 z29:=Tryz.sizeOf9
 v29:=Tryz.zeroValue9
 t32:=Tryz.underlying210
 a32:=Tryz.isAgg210
 z32:=Tryz.sizeOf210
 v32:=Tryz.zeroValue210
 t35:=Tryz.underlying234
 a35:=Tryz.isAgg234
 z35:=Tryz.sizeOf234
 v35:=Tryz.zeroValue234
 t36:=Tryz.underlying235
 a36:=Tryz.isAgg235
 z36:=Tryz.sizeOf235
 v36:=Tryz.zeroValue235
 t41:=Tryz.underlying85
 a41:=Tryz.isAgg85
 z41:=Tryz.sizeOf85
 v41:=Tryz.zeroValue85
 t44:=Tryz.underlying170
 a44:=Tryz.isAgg170
 z44:=Tryz.sizeOf170
 v44:=Tryz.zeroValue170
 t46:=Tryz.underlying243
 a46:=Tryz.isAgg243
 z46:=Tryz.sizeOf243
 v46:=Tryz.zeroValue243
 t53:=Tryz.underlying286
 a53:=Tryz.isAgg286
 z53:=Tryz.sizeOf286
 v53:=Tryz.zeroValue286
 t57:=Tryz.underlying290
 a57:=Tryz.isAgg290
 z57:=Tryz.sizeOf290
 v57:=Tryz.zeroValue290
 t63:=Tryz.underlying340
 a63:=Tryz.isAgg340
 z63:=Tryz.sizeOf340
 v63:=Tryz.zeroValue340
 t64:=Tryz.underlying246
 a64:=Tryz.isAgg246
 z64:=Tryz.sizeOf246
 v64:=Tryz.zeroValue246 }
open Go.RowKit Go.Maps Go.Sort in
theorem Tryz.Azp(m:Nat):AnyZ.SortsIn Tryz.prog Tryz.Ug Fence.wide m:=
  ⟨fun blk off cap ss W hH hblk hsz=>callsIn_wide.2 (AnyM.slices_Sort_string Tryz.As7 blk off cap ss W hH hblk hsz),
   fun p cap W=>callsIn_wide.2 (AnyM.slices_Sort_string_none Tryz.As7 p cap W)⟩
end Go.Proofs
