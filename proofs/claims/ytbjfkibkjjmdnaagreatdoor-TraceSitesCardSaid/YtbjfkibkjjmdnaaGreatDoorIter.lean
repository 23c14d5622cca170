/-
  DERIVED: THE SHELF's CONTRACTS AT THIS DUMP, IN PLAIN WORDS (tools/lay-plain.mjs out of 'YtbjfkibkjjmdnaaGreatDoorIter.lean', which tools/lay-shelf.mjs wrote): THE SAME DECLARATIONS UNDER THE SAME NAMES: 'import', 'namespace', 'open', 'def', 'theorem' AND NOTHING ELSE: no command of the shelf's: FOR A HAND-IN. Each laying: the table of numbers ('.._ren') and one theorem, a field a fact of the dump's own or the kernel's comparison; each contract: ONE APPLICATION.
-/
import Derived.Shelf.SlGeneric
import Derived.Shelf.SlIter.Nil
import Derived.Shelf.SortM.Plain
import Derived.Shelf.SortM.SortNone
import Derived.Ground.GgzProg
import Derived.Ground.SlgmProg
import Derived.Test.YtbjfkibkjjmdnaaGreatDoorProg
namespace Go.Proofs
open Go.Shelf
def Tryz.keys49_ren : Go.Shelf.Ren := ⟨fun | 7 => 49 | 10 => 73 | n => n, fun | 23 => 107 | 26 => 9 | 3 => 3 | 28 => 113 | 0 => 0 | 27 => 112 | 33 => 86 | 4 => 4 | n => n, fun | n => n⟩
theorem Tryz.keys49 : Go.Proofs.SlLaysZ.n7 Tryz.prog Tryz.keys49_ren := {
  mixed := by kernel_rfl
  f7 := ⟨Tryz.f49.name, by decide, Tryz.func49.trans (congrArg some (by kernel_rfl))⟩
  f10 := ⟨Tryz.f73.name, by decide, Tryz.func73.trans (congrArg some (by kernel_rfl))⟩
  t0 := Tryz.underlying0
  a0 := Tryz.isAgg0
  z0 := Tryz.sizeOf0
  v0 := Tryz.zeroValue0
  t4 := Tryz.underlying4
  a4 := Tryz.isAgg4
  z4 := Tryz.sizeOf4
  v4 := Tryz.zeroValue4
  t23 := Tryz.underlying107
  a23 := Tryz.isAgg107
  z23 := Tryz.sizeOf107
  v23 := Tryz.zeroValue107
  t26 := Tryz.underlying9
  a26 := Tryz.isAgg9
  z26 := Tryz.sizeOf9
  v26 := Tryz.zeroValue9
  t27 := Tryz.underlying112
  a27 := Tryz.isAgg112
  z27 := Tryz.sizeOf112
  v27 := Tryz.zeroValue112
  t28 := Tryz.underlying113
  a28 := Tryz.isAgg113
  z28 := Tryz.sizeOf113
  v28 := Tryz.zeroValue113
  t33 := Tryz.underlying86
  a33 := Tryz.isAgg86
  z33 := Tryz.sizeOf86
  v33 := Tryz.zeroValue86 }
def Tryz.sorted48_ren : Go.Shelf.Ren := ⟨fun | 6 => 48 | 8 => 71 | 9 => 72 | 11 => 96 | 13 => 98 | 12 => 97 | 23 => 129 | 24 => 130 | 14 => 120 | 15 => 121 | 16 => 122 | 17 => 123 | 18 => 124 | 19 => 125 | 20 => 126 | 21 => 127 | 22 => 128 | 25 => 171 | 26 => 172 | 27 => 173 | 28 => 174 | 29 => 175 | 30 => 176 | 31 => 220 | n => n, fun | 26 => 9 | 28 => 113 | 24 => 34 | 0 => 0 | 3 => 3 | 37 => 225 | 48 => 185 | 50 => 258 | 4 => 4 | 40 => 250 | 39 => 249 | 45 => 98 | 5 => 5 | 9 => 9 | 51 => 299 | 55 => 303 | 57 => 353 | 58 => 261 | 33 => 86 | n => n, fun | n => n⟩
theorem Tryz.sorted48 : Go.Proofs.SlLaysZ.n6 Tryz.prog Tryz.sorted48_ren := {
  mixed := by kernel_rfl
  f6 := ⟨Tryz.f48.name, by decide, Tryz.func48.trans (congrArg some (by kernel_rfl))⟩
  f8 := ⟨Tryz.f71.name, by decide, Tryz.func71.trans (congrArg some (by kernel_rfl))⟩
  f11 := ⟨Tryz.f96.name, by decide, Tryz.func96.trans (congrArg some (by kernel_rfl))⟩
  t0 := Tryz.underlying0
  a0 := Tryz.isAgg0
  z0 := Tryz.sizeOf0
  v0 := Tryz.zeroValue0
  t24 := Tryz.underlying34
  a24 := Tryz.isAgg34
  z24 := Tryz.sizeOf34
  v24 := Tryz.zeroValue34
  t26 := Tryz.underlying9
  a26 := Tryz.isAgg9
  z26 := Tryz.sizeOf9
  v26 := Tryz.zeroValue9
  t28 := Tryz.underlying113
  a28 := Tryz.isAgg113
  z28 := Tryz.sizeOf113
  v28 := Tryz.zeroValue113
  i26 := by kernel_rfl }
def Tryz.sort72_ren : Go.Shelf.Ren := ⟨fun | 6 => 72 | 8 => 98 | 9 => 97 | 19 => 129 | 20 => 130 | 21 => 120 | 22 => 121 | 23 => 122 | 24 => 123 | 25 => 124 | 26 => 125 | 27 => 126 | 28 => 127 | 29 => 128 | 36 => 171 | 31 => 172 | 32 => 173 | 37 => 174 | 38 => 175 | 39 => 176 | 41 => 220 | n => n, fun | 27 => 34 | 29 => 9 | 3 => 3 | 32 => 225 | 26 => 34 | 0 => 0 | 44 => 185 | 46 => 258 | 4 => 4 | 36 => 250 | 35 => 249 | 41 => 98 | 5 => 5 | 9 => 9 | 53 => 299 | 57 => 303 | 63 => 353 | 64 => 261 | n => n, fun | n => n⟩
theorem Tryz.sort72 : Go.Proofs.SlLaysM.n6 Tryz.prog Tryz.sort72_ren := {
  mixed := by kernel_rfl
  f6 := ⟨Tryz.f72.name, by decide, Tryz.func72.trans (congrArg some (by kernel_rfl))⟩
  f8 := Tryz.func98.trans (congrArg some (by kernel_rfl))
  f9 := ⟨Tryz.f97.name, by decide, Tryz.func97.trans (congrArg some (by kernel_rfl))⟩
  f19 := Tryz.func129.trans (congrArg some (by kernel_rfl))
  f20 := Tryz.func130.trans (congrArg some (by kernel_rfl))
  f21 := ⟨Tryz.f120.name, by decide, Tryz.func120.trans (congrArg some (by kernel_rfl))⟩
  f22 := ⟨Tryz.f121.name, by decide, Tryz.func121.trans (congrArg some (by kernel_rfl))⟩
  f23 := ⟨Tryz.f122.name, by decide, Tryz.func122.trans (congrArg some (by kernel_rfl))⟩
  f24 := ⟨Tryz.f123.name, by decide, Tryz.func123.trans (congrArg some (by kernel_rfl))⟩
  f25 := ⟨Tryz.f124.name, by decide, Tryz.func124.trans (congrArg some (by kernel_rfl))⟩
  f26 := ⟨Tryz.f125.name, by decide, Tryz.func125.trans (congrArg some (by kernel_rfl))⟩
  f27 := ⟨Tryz.f126.name, by decide, Tryz.func126.trans (congrArg some (by kernel_rfl))⟩
  f28 := ⟨Tryz.f127.name, by decide, Tryz.func127.trans (congrArg some (by kernel_rfl))⟩
  f29 := ⟨Tryz.f128.name, by decide, Tryz.func128.trans (congrArg some (by kernel_rfl))⟩
  f31 := Tryz.func172.trans (congrArg some (by kernel_rfl))
  f32 := Tryz.func173.trans (congrArg some (by kernel_rfl))
  f36 := ⟨Tryz.f171.name, by decide, Tryz.func171.trans (congrArg some (by kernel_rfl))⟩
  f37 := ⟨Tryz.f174.name, by decide, Tryz.func174.trans (congrArg some (by kernel_rfl))⟩
  f38 := ⟨Tryz.f175.name, by decide, Tryz.func175.trans (congrArg some (by kernel_rfl))⟩
  f39 := ⟨Tryz.f176.name, by decide, Tryz.func176.trans (congrArg some (by kernel_rfl))⟩
  f41 := ⟨Tryz.f220.name, by decide, Tryz.func220.trans (congrArg some (by kernel_rfl))⟩
  t0 := Tryz.underlying0
  a0 := Tryz.isAgg0
  z0 := Tryz.sizeOf0
  v0 := Tryz.zeroValue0
  t3 := Tryz.underlying3
  a3 := Tryz.isAgg3
  z3 := Tryz.sizeOf3
  v3 := Tryz.zeroValue3
  t4 := Tryz.underlying4
  a4 := Tryz.isAgg4
  z4 := Tryz.sizeOf4
  v4 := Tryz.zeroValue4
  t5 := Tryz.underlying5
  a5 := Tryz.isAgg5
  z5 := Tryz.sizeOf5
  v5 := Tryz.zeroValue5
  t9 := Tryz.underlying9
  a9 := Tryz.isAgg9
  z9 := Tryz.sizeOf9
  v9 := Tryz.zeroValue9
  t26 := Tryz.underlying34
  a26 := Tryz.isAgg34
  z26 := Tryz.sizeOf34
  v26 := Tryz.zeroValue34
  t27 := Tryz.underlying34
  a27 := Tryz.isAgg34
  z27 := Tryz.sizeOf34
  v27 := Tryz.zeroValue34
  t29 := Tryz.underlying9
  a29 := Tryz.isAgg9
  z29 := Tryz.sizeOf9
  v29 := Tryz.zeroValue9
  t32 := Tryz.underlying225
  a32 := Tryz.isAgg225
  z32 := Tryz.sizeOf225
  v32 := Tryz.zeroValue225
  t35 := Tryz.underlying249
  a35 := Tryz.isAgg249
  z35 := Tryz.sizeOf249
  v35 := Tryz.zeroValue249
  t36 := Tryz.underlying250
  a36 := Tryz.isAgg250
  z36 := Tryz.sizeOf250
  v36 := Tryz.zeroValue250
  t41 := Tryz.underlying98
  a41 := Tryz.isAgg98
  z41 := Tryz.sizeOf98
  v41 := Tryz.zeroValue98
  t44 := Tryz.underlying185
  a44 := Tryz.isAgg185
  z44 := Tryz.sizeOf185
  v44 := Tryz.zeroValue185
  t46 := Tryz.underlying258
  a46 := Tryz.isAgg258
  z46 := Tryz.sizeOf258
  v46 := Tryz.zeroValue258
  t53 := Tryz.underlying299
  a53 := Tryz.isAgg299
  z53 := Tryz.sizeOf299
  v53 := Tryz.zeroValue299
  t57 := Tryz.underlying303
  a57 := Tryz.isAgg303
  z57 := Tryz.sizeOf303
  v57 := Tryz.zeroValue303
  t63 := Tryz.underlying353
  a63 := Tryz.isAgg353
  z63 := Tryz.sizeOf353
  v63 := Tryz.zeroValue353
  t64 := Tryz.underlying261
  a64 := Tryz.isAgg261
  z64 := Tryz.sizeOf261
  v64 := Tryz.zeroValue261 }
open Go.RowKit Go.Maps Go.Sort in
theorem Tryz.sorts48 (m : Nat) : AnyZ.SortsIn Tryz.prog Tryz.sorted48_ren Fence.wide m :=
  ⟨fun blk off cap ss W hH hblk hsz => callsIn_wide.2 (AnyM.slices_Sort_string Tryz.sort72 blk off cap ss W hH hblk hsz),
   fun p cap W => callsIn_wide.2 (AnyM.slices_Sort_string_none Tryz.sort72 p cap W)⟩
end Go.Proofs
