/-
 Proof.
-/
import Derived.Shelf.SlGeneric
import Derived.Shelf.SlIter.Nil
import Derived.Shelf.SortM.Plain
import Derived.Shelf.SortM.SortNone
import Derived.Ground.GgzProg
import Derived.Ground.SlgmProg
import Derived.Test.YtmgalljhidgnoaaGreatDoorProg
namespace Go.Proofs
open Go.Shelf
def Tryz.keys38_ren:Go.Shelf.Ren:=⟨fun|7=>38|10=>66|n=>n,fun|23=>100|26=>9|3=>3|28=>106|0=>0|27=>105|33=>80|4=>4|n=>n,fun|n=>n⟩
theorem Tryz.keys38:Go.Proofs.SlLaysZ.n7 Tryz.prog Tryz.keys38_ren:={
 mixed:=by kernel_rfl
 f7:=⟨Tryz.f38.name,by decide,Tryz.func38.trans (congrArg some (by kernel_rfl))⟩
 f10:=⟨Tryz.f66.name,by decide,Tryz.func66.trans (congrArg some (by kernel_rfl))⟩
 t0:=Tryz.underlying0
 a0:=Tryz.isAgg0
 z0:=Tryz.sizeOf0
 v0:=Tryz.zeroValue0
 t4:=Tryz.underlying4
 a4:=Tryz.isAgg4
 z4:=Tryz.sizeOf4
 v4:=Tryz.zeroValue4
 t23:=Tryz.underlying100
 a23:=Tryz.isAgg100
 z23:=Tryz.sizeOf100
 v23:=Tryz.zeroValue100
 t26:=Tryz.underlying9
 a26:=Tryz.isAgg9
 z26:=Tryz.sizeOf9
 v26:=Tryz.zeroValue9
 t27:=Tryz.underlying105
 a27:=Tryz.isAgg105
 z27:=Tryz.sizeOf105
 v27:=Tryz.zeroValue105
 t28:=Tryz.underlying106
 a28:=Tryz.isAgg106
 z28:=Tryz.sizeOf106
 v28:=Tryz.zeroValue106
 t33:=Tryz.underlying80
 a33:=Tryz.isAgg80
 z33:=Tryz.sizeOf80
 v33:=Tryz.zeroValue80 }
def Tryz.sorted37_ren:Go.Shelf.Ren:=⟨fun|6=>37|8=>64|9=>65|11=>87|13=>89|12=>88|23=>121|24=>122|14=>112|15=>113|16=>114|17=>115|18=>116|19=>117|20=>118|21=>119|22=>120|25=>164|26=>165|27=>166|28=>167|29=>168|30=>169|31=>213|n=>n,fun|26=>9|28=>106|24=>32|0=>0|3=>3|37=>214|48=>179|50=>247|4=>4|40=>239|39=>238|45=>73|5=>5|9=>9|51=>291|55=>295|57=>346|58=>251|33=>80|n=>n,fun|n=>n⟩
theorem Tryz.sorted37:Go.Proofs.SlLaysZ.n6 Tryz.prog Tryz.sorted37_ren:={
 mixed:=by kernel_rfl
 f6:=⟨Tryz.f37.name,by decide,Tryz.func37.trans (congrArg some (by kernel_rfl))⟩
 f8:=⟨Tryz.f64.name,by decide,Tryz.func64.trans (congrArg some (by kernel_rfl))⟩
 f11:=⟨Tryz.f87.name,by decide,Tryz.func87.trans (congrArg some (by kernel_rfl))⟩
 t0:=Tryz.underlying0
 a0:=Tryz.isAgg0
 z0:=Tryz.sizeOf0
 v0:=Tryz.zeroValue0
 t24:=Tryz.underlying32
 a24:=Tryz.isAgg32
 z24:=Tryz.sizeOf32
 v24:=Tryz.zeroValue32
 t26:=Tryz.underlying9
 a26:=Tryz.isAgg9
 z26:=Tryz.sizeOf9
 v26:=Tryz.zeroValue9
 t28:=Tryz.underlying106
 a28:=Tryz.isAgg106
 z28:=Tryz.sizeOf106
 v28:=Tryz.zeroValue106
 i26:=by kernel_rfl }
def Tryz.sort65_ren:Go.Shelf.Ren:=⟨fun|6=>65|8=>89|9=>88|19=>121|20=>122|21=>112|22=>113|23=>114|24=>115|25=>116|26=>117|27=>118|28=>119|29=>120|36=>164|31=>165|32=>166|37=>167|38=>168|39=>169|41=>213|n=>n,fun|27=>32|29=>9|3=>3|32=>214|26=>32|0=>0|44=>179|46=>247|4=>4|36=>239|35=>238|41=>73|5=>5|9=>9|53=>291|57=>295|63=>346|64=>251|n=>n,fun|n=>n⟩
theorem Tryz.sort65:Go.Proofs.SlLaysM.n6 Tryz.prog Tryz.sort65_ren:={
 mixed:=by kernel_rfl
 f6:=⟨Tryz.f65.name,by decide,Tryz.func65.trans (congrArg some (by kernel_rfl))⟩
 f8:=Tryz.func89.trans (congrArg some (by kernel_rfl))
 f9:=⟨Tryz.f88.name,by decide,Tryz.func88.trans (congrArg some (by kernel_rfl))⟩
 f19:=Tryz.func121.trans (congrArg some (by kernel_rfl))
 f20:=Tryz.func122.trans (congrArg some (by kernel_rfl))
 f21:=⟨Tryz.f112.name,by decide,Tryz.func112.trans (congrArg some (by kernel_rfl))⟩
 f22:=⟨Tryz.f113.name,by decide,Tryz.func113.trans (congrArg some (by kernel_rfl))⟩
 f23:=⟨Tryz.f114.name,by decide,Tryz.func114.trans (congrArg some (by kernel_rfl))⟩
 f24:=⟨Tryz.f115.name,by decide,Tryz.func115.trans (congrArg some (by kernel_rfl))⟩
 f25:=⟨Tryz.f116.name,by decide,Tryz.func116.trans (congrArg some (by kernel_rfl))⟩
 f26:=⟨Tryz.f117.name,by decide,Tryz.func117.trans (congrArg some (by kernel_rfl))⟩
 f27:=⟨Tryz.f118.name,by decide,Tryz.func118.trans (congrArg some (by kernel_rfl))⟩
 f28:=⟨Tryz.f119.name,by decide,Tryz.func119.trans (congrArg some (by kernel_rfl))⟩
 f29:=⟨Tryz.f120.name,by decide,Tryz.func120.trans (congrArg some (by kernel_rfl))⟩
 f31:=Tryz.func165.trans (congrArg some (by kernel_rfl))
 f32:=Tryz.func166.trans (congrArg some (by kernel_rfl))
 f36:=⟨Tryz.f164.name,by decide,Tryz.func164.trans (congrArg some (by kernel_rfl))⟩
 f37:=⟨Tryz.f167.name,by decide,Tryz.func167.trans (congrArg some (by kernel_rfl))⟩
 f38:=⟨Tryz.f168.name,by decide,Tryz.func168.trans (congrArg some (by kernel_rfl))⟩
 f39:=⟨Tryz.f169.name,by decide,Tryz.func169.trans (congrArg some (by kernel_rfl))⟩
 f41:=⟨Tryz.f213.name,by decide,Tryz.func213.trans (congrArg some (by kernel_rfl))⟩
 t0:=Tryz.underlying0
 a0:=Tryz.isAgg0
 z0:=Tryz.sizeOf0
 v0:=Tryz.zeroValue0
 t3:=Tryz.underlying3
 a3:=Tryz.isAgg3
 z3:=Tryz.sizeOf3
 v3:=Tryz.zeroValue3
 t4:=Tryz.underlying4
 a4:=Tryz.isAgg4
 z4:=Tryz.sizeOf4
 v4:=Tryz.zeroValue4
 t5:=Tryz.underlying5
 a5:=Tryz.isAgg5
 z5:=Tryz.sizeOf5
 v5:=Tryz.zeroValue5
 t9:=Tryz.underlying9
 a9:=Tryz.isAgg9
 z9:=Tryz.sizeOf9
 v9:=Tryz.zeroValue9
 t26:=Tryz.underlying32
 a26:=Tryz.isAgg32
 z26:=Tryz.sizeOf32
 v26:=Tryz.zeroValue32
 t27:=Tryz.underlying32
 a27:=Tryz.isAgg32
 z27:=Tryz.sizeOf32
 v27:=Tryz.zeroValue32
 t29:=Tryz.underlying9
 a29:=Tryz.isAgg9
 z29:=Tryz.sizeOf9
 v29:=Tryz.zeroValue9
 t32:=Tryz.underlying214
 a32:=Tryz.isAgg214
 z32:=Tryz.sizeOf214
 v32:=Tryz.zeroValue214
 t35:=Tryz.underlying238
 a35:=Tryz.isAgg238
 z35:=Tryz.sizeOf238
 v35:=Tryz.zeroValue238
 t36:=Tryz.underlying239
 a36:=Tryz.isAgg239
 z36:=Tryz.sizeOf239
 v36:=Tryz.zeroValue239
 t41:=Tryz.underlying73
 a41:=Tryz.isAgg73
 z41:=Tryz.sizeOf73
 v41:=Tryz.zeroValue73
 t44:=Tryz.underlying179
 a44:=Tryz.isAgg179
 z44:=Tryz.sizeOf179
 v44:=Tryz.zeroValue179
 t46:=Tryz.underlying247
 a46:=Tryz.isAgg247
 z46:=Tryz.sizeOf247
 v46:=Tryz.zeroValue247
 t53:=Tryz.underlying291
 a53:=Tryz.isAgg291
 z53:=Tryz.sizeOf291
 v53:=Tryz.zeroValue291
 t57:=Tryz.underlying295
 a57:=Tryz.isAgg295
 z57:=Tryz.sizeOf295
 v57:=Tryz.zeroValue295
 t63:=Tryz.underlying346
 a63:=Tryz.isAgg346
 z63:=Tryz.sizeOf346
 v63:=Tryz.zeroValue346
 t64:=Tryz.underlying251
 a64:=Tryz.isAgg251
 z64:=Tryz.sizeOf251
 v64:=Tryz.zeroValue251 }
open Go.RowKit Go.Maps Go.Sort in
theorem Tryz.sorts37(m:Nat):AnyZ.SortsIn Tryz.prog Tryz.sorted37_ren Fence.wide m:=
  ⟨fun blk off cap ss W hH hblk hsz=>callsIn_wide.2 (AnyM.slices_Sort_string Tryz.sort65 blk off cap ss W hH hblk hsz),
   fun p cap W=>callsIn_wide.2 (AnyM.slices_Sort_string_none Tryz.sort65 p cap W)⟩
end Go.Proofs
