/-
  DERIVED: THE SHELF's CONTRACTS AT THIS DUMP, IN PLAIN WORDS (tools/lay-plain.mjs out of 'YtpjkiikmjddpiaaGreatDoorIter.lean', which tools/lay-shelf.mjs wrote): THE SAME DECLARATIONS UNDER THE SAME NAMES: 'import', 'namespace', 'open', 'def', 'theorem' AND NOTHING ELSE: no command of the shelf's: FOR A HAND-IN. Each laying: the table of numbers ('.._ren') and one theorem, a field a fact of the dump's own or the kernel's comparison; each contract: ONE APPLICATION.
-/
import Derived.Shelf.SlGeneric
import Derived.Shelf.SlIter.Nil
import Derived.Shelf.SortM.Plain
import Derived.Shelf.SortM.SortNone
import Derived.Ground.GgzProg
import Derived.Ground.SlgmProg
import Derived.Test.YtpjkiikmjddpiaaGreatDoorProg
namespace Go.Proofs
open Go.Shelf
def Tryz.keys49_ren : Go.Shelf.Ren := ⟨fun | 7 => 49 | 10 => 75 | n => n, fun | 23 => 106 | 26 => 9 | 3 => 3 | 28 => 112 | 0 => 0 | 27 => 111 | 33 => 58 | 4 => 4 | n => n, fun | n => n⟩
theorem Tryz.keys49 : Go.Proofs.SlLaysZ.n7 Tryz.prog Tryz.keys49_ren := {
  mixed := by kernel_rfl
  f7 := ⟨Tryz.f49.name, by decide, Tryz.func49.trans (congrArg some (by kernel_rfl))⟩
  f10 := ⟨Tryz.f75.name, by decide, Tryz.func75.trans (congrArg some (by kernel_rfl))⟩
  t0 := Tryz.underlying0
  a0 := Tryz.isAgg0
  z0 := Tryz.sizeOf0
  v0 := Tryz.zeroValue0
  t4 := Tryz.underlying4
  a4 := Tryz.isAgg4
  z4 := Tryz.sizeOf4
  v4 := Tryz.zeroValue4
  t23 := Tryz.underlying106
  a23 := Tryz.isAgg106
  z23 := Tryz.sizeOf106
  v23 := Tryz.zeroValue106
  t26 := Tryz.underlying9
  a26 := Tryz.isAgg9
  z26 := Tryz.sizeOf9
  v26 := Tryz.zeroValue9
  t27 := Tryz.underlying111
  a27 := Tryz.isAgg111
  z27 := Tryz.sizeOf111
  v27 := Tryz.zeroValue111
  t28 := Tryz.underlying112
  a28 := Tryz.isAgg112
  z28 := Tryz.sizeOf112
  v28 := Tryz.zeroValue112
  t33 := Tryz.underlying58
  a33 := Tryz.isAgg58
  z33 := Tryz.sizeOf58
  v33 := Tryz.zeroValue58 }
def Tryz.sorted48_ren : Go.Shelf.Ren := ⟨fun | 6 => 48 | 8 => 73 | 9 => 74 | 11 => 93 | 13 => 95 | 12 => 94 | 23 => 127 | 24 => 128 | 14 => 118 | 15 => 119 | 16 => 120 | 17 => 121 | 18 => 122 | 19 => 123 | 20 => 124 | 21 => 125 | 22 => 126 | 25 => 168 | 26 => 169 | 27 => 170 | 28 => 171 | 29 => 172 | 30 => 173 | 31 => 215 | n => n, fun | 26 => 9 | 28 => 112 | 24 => 48 | 0 => 0 | 3 => 3 | 37 => 220 | 48 => 147 | 50 => 253 | 4 => 4 | 40 => 246 | 39 => 245 | 45 => 93 | 5 => 5 | 9 => 9 | 51 => 295 | 55 => 299 | 57 => 348 | 58 => 256 | 33 => 58 | n => n, fun | n => n⟩
theorem Tryz.sorted48 : Go.Proofs.SlLaysZ.n6 Tryz.prog Tryz.sorted48_ren := {
  mixed := by kernel_rfl
  f6 := ⟨Tryz.f48.name, by decide, Tryz.func48.trans (congrArg some (by kernel_rfl))⟩
  f8 := ⟨Tryz.f73.name, by decide, Tryz.func73.trans (congrArg some (by kernel_rfl))⟩
  f11 := ⟨Tryz.f93.name, by decide, Tryz.func93.trans (congrArg some (by kernel_rfl))⟩
  t0 := Tryz.underlying0
  a0 := Tryz.isAgg0
  z0 := Tryz.sizeOf0
  v0 := Tryz.zeroValue0
  t24 := Tryz.underlying48
  a24 := Tryz.isAgg48
  z24 := Tryz.sizeOf48
  v24 := Tryz.zeroValue48
  t26 := Tryz.underlying9
  a26 := Tryz.isAgg9
  z26 := Tryz.sizeOf9
  v26 := Tryz.zeroValue9
  t28 := Tryz.underlying112
  a28 := Tryz.isAgg112
  z28 := Tryz.sizeOf112
  v28 := Tryz.zeroValue112
  i26 := by kernel_rfl }
def Tryz.sort74_ren : Go.Shelf.Ren := ⟨fun | 6 => 74 | 8 => 95 | 9 => 94 | 19 => 127 | 20 => 128 | 21 => 118 | 22 => 119 | 23 => 120 | 24 => 121 | 25 => 122 | 26 => 123 | 27 => 124 | 28 => 125 | 29 => 126 | 36 => 168 | 31 => 169 | 32 => 170 | 37 => 171 | 38 => 172 | 39 => 173 | 41 => 215 | n => n, fun | 27 => 48 | 29 => 9 | 3 => 3 | 32 => 220 | 26 => 48 | 0 => 0 | 44 => 147 | 46 => 253 | 4 => 4 | 36 => 246 | 35 => 245 | 41 => 93 | 5 => 5 | 9 => 9 | 53 => 295 | 57 => 299 | 63 => 348 | 64 => 256 | n => n, fun | n => n⟩
theorem Tryz.sort74 : Go.Proofs.SlLaysM.n6 Tryz.prog Tryz.sort74_ren := {
  mixed := by kernel_rfl
  f6 := ⟨Tryz.f74.name, by decide, Tryz.func74.trans (congrArg some (by kernel_rfl))⟩
  f8 := Tryz.func95.trans (congrArg some (by kernel_rfl))
  f9 := ⟨Tryz.f94.name, by decide, Tryz.func94.trans (congrArg some (by kernel_rfl))⟩
  f19 := Tryz.func127.trans (congrArg some (by kernel_rfl))
  f20 := Tryz.func128.trans (congrArg some (by kernel_rfl))
  f21 := ⟨Tryz.f118.name, by decide, Tryz.func118.trans (congrArg some (by kernel_rfl))⟩
  f22 := ⟨Tryz.f119.name, by decide, Tryz.func119.trans (congrArg some (by kernel_rfl))⟩
  f23 := ⟨Tryz.f120.name, by decide, Tryz.func120.trans (congrArg some (by kernel_rfl))⟩
  f24 := ⟨Tryz.f121.name, by decide, Tryz.func121.trans (congrArg some (by kernel_rfl))⟩
  f25 := ⟨Tryz.f122.name, by decide, Tryz.func122.trans (congrArg some (by kernel_rfl))⟩
  f26 := ⟨Tryz.f123.name, by decide, Tryz.func123.trans (congrArg some (by kernel_rfl))⟩
  f27 := ⟨Tryz.f124.name, by decide, Tryz.func124.trans (congrArg some (by kernel_rfl))⟩
  f28 := ⟨Tryz.f125.name, by decide, Tryz.func125.trans (congrArg some (by kernel_rfl))⟩
  f29 := ⟨Tryz.f126.name, by decide, Tryz.func126.trans (congrArg some (by kernel_rfl))⟩
  f31 := Tryz.func169.trans (congrArg some (by kernel_rfl))
  f32 := Tryz.func170.trans (congrArg some (by kernel_rfl))
  f36 := ⟨Tryz.f168.name, by decide, Tryz.func168.trans (congrArg some (by kernel_rfl))⟩
  f37 := ⟨Tryz.f171.name, by decide, Tryz.func171.trans (congrArg some (by kernel_rfl))⟩
  f38 := ⟨Tryz.f172.name, by decide, Tryz.func172.trans (congrArg some (by kernel_rfl))⟩
  f39 := ⟨Tryz.f173.name, by decide, Tryz.func173.trans (congrArg some (by kernel_rfl))⟩
  f41 := ⟨Tryz.f215.name, by decide, Tryz.func215.trans (congrArg some (by kernel_rfl))⟩
  t0 := Tryz.underlying0
  a0 := Tryz.isAgg0
  z0 := Tryz.sizeOf0
  v0 := Tryz.zeroValue0
  t3 := Tryz.underlying3
  a3 := Tryz.isAgg3
  z3 := Tryz.sizeOf3
  v3 := Tryz.zeroValue3
  t4 := Tryz.underlying4
  a4 := Tryz.isAgg4
  z4 := Tryz.sizeOf4
  v4 := Tryz.zeroValue4
  t5 := Tryz.underlying5
  a5 := Tryz.isAgg5
  z5 := Tryz.sizeOf5
  v5 := Tryz.zeroValue5
  t9 := Tryz.underlying9
  a9 := Tryz.isAgg9
  z9 := Tryz.sizeOf9
  v9 := Tryz.zeroValue9
  t26 := Tryz.underlying48
  a26 := Tryz.isAgg48
  z26 := Tryz.sizeOf48
  v26 := Tryz.zeroValue48
  t27 := Tryz.underlying48
  a27 := Tryz.isAgg48
  z27 := Tryz.sizeOf48
  v27 := Tryz.zeroValue48
  t29 := Tryz.underlying9
  a29 := Tryz.isAgg9
  z29 := Tryz.sizeOf9
  v29 := Tryz.zeroValue9
  t32 := Tryz.underlying220
  a32 := Tryz.isAgg220
  z32 := Tryz.sizeOf220
  v32 := Tryz.zeroValue220
  t35 := Tryz.underlying245
  a35 := Tryz.isAgg245
  z35 := Tryz.sizeOf245
  v35 := Tryz.zeroValue245
  t36 := Tryz.underlying246
  a36 := Tryz.isAgg246
  z36 := Tryz.sizeOf246
  v36 := Tryz.zeroValue246
  t41 := Tryz.underlying93
  a41 := Tryz.isAgg93
  z41 := Tryz.sizeOf93
  v41 := Tryz.zeroValue93
  t44 := Tryz.underlying147
  a44 := Tryz.isAgg147
  z44 := Tryz.sizeOf147
  v44 := Tryz.zeroValue147
  t46 := Tryz.underlying253
  a46 := Tryz.isAgg253
  z46 := Tryz.sizeOf253
  v46 := Tryz.zeroValue253
  t53 := Tryz.underlying295
  a53 := Tryz.isAgg295
  z53 := Tryz.sizeOf295
  v53 := Tryz.zeroValue295
  t57 := Tryz.underlying299
  a57 := Tryz.isAgg299
  z57 := Tryz.sizeOf299
  v57 := Tryz.zeroValue299
  t63 := Tryz.underlying348
  a63 := Tryz.isAgg348
  z63 := Tryz.sizeOf348
  v63 := Tryz.zeroValue348
  t64 := Tryz.underlying256
  a64 := Tryz.isAgg256
  z64 := Tryz.sizeOf256
  v64 := Tryz.zeroValue256 }
open Go.RowKit Go.Maps Go.Sort in
theorem Tryz.sorts48 (m : Nat) : AnyZ.SortsIn Tryz.prog Tryz.sorted48_ren Fence.wide m :=
  ⟨fun blk off cap ss W hH hblk hsz => callsIn_wide.2 (AnyM.slices_Sort_string Tryz.sort74 blk off cap ss W hH hblk hsz),
   fun p cap W => callsIn_wide.2 (AnyM.slices_Sort_string_none Tryz.sort74 p cap W)⟩
end Go.Proofs
