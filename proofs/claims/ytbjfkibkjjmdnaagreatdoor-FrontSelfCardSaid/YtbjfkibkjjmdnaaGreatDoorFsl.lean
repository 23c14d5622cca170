/-
  A part of the proof: the lines of the files are those.
-/
import Derived.Test.YtbjfkibkjjmdnaaGreatDoorFs0
import Derived.Test.YtbjfkibkjjmdnaaGreatDoorFso
import Derived.KernelRfl
namespace Go.Den
set_option maxRecDepth 100000
theorem l_aa0 : LinesF aa0 := by
  unfold LinesF
  kernel_rfl
theorem f_aa0 : FilOk aa0 := fil_ok l_aa0 (by kernel_rfl) (by kernel_rfl)
theorem l_ab0 : LinesF ab0 := by
  unfold LinesF
  kernel_rfl
theorem f_ab0 : FilOk ab0 := fil_ok l_ab0 (by kernel_rfl) (by kernel_rfl)
theorem l_ba0 : LinesF ba0 := by
  unfold LinesF
  kernel_rfl
theorem f_ba0 : FilOk ba0 := fil_ok l_ba0 (by kernel_rfl) (by kernel_rfl)
theorem l_aa1 : LinesF aa1 := by
  unfold LinesF
  kernel_rfl
theorem f_aa1 : FilOk aa1 := fil_ok l_aa1 (by kernel_rfl) (by kernel_rfl)
theorem l_ab1 : LinesF ab1 := by
  unfold LinesF
  kernel_rfl
theorem f_ab1 : FilOk ab1 := fil_ok l_ab1 (by kernel_rfl) (by kernel_rfl)
theorem l_ba1 : LinesF ba1 := by
  unfold LinesF
  kernel_rfl
theorem f_ba1 : FilOk ba1 := fil_ok l_ba1 (by kernel_rfl) (by kernel_rfl)
theorem l_aa2 : LinesF aa2 := by
  unfold LinesF
  kernel_rfl
theorem f_aa2 : FilOk aa2 := fil_ok l_aa2 (by kernel_rfl) (by kernel_rfl)
theorem l_ab2 : LinesF ab2 := by
  unfold LinesF
  kernel_rfl
theorem f_ab2 : FilOk ab2 := fil_ok l_ab2 (by kernel_rfl) (by kernel_rfl)
theorem l_ba2 : LinesF ba2 := by
  unfold LinesF
  kernel_rfl
theorem f_ba2 : FilOk ba2 := fil_ok l_ba2 (by kernel_rfl) (by kernel_rfl)
theorem l_aa3 : LinesF aa3 := by
  unfold LinesF
  kernel_rfl
theorem f_aa3 : FilOk aa3 := fil_ok l_aa3 (by kernel_rfl) (by kernel_rfl)
theorem l_ab3 : LinesF ab3 := by
  unfold LinesF
  kernel_rfl
theorem f_ab3 : FilOk ab3 := fil_ok l_ab3 (by kernel_rfl) (by kernel_rfl)
theorem l_ba3 : LinesF ba3 := by
  unfold LinesF
  kernel_rfl
theorem f_ba3 : FilOk ba3 := fil_ok l_ba3 (by kernel_rfl) (by kernel_rfl)
theorem l_aa4 : LinesF aa4 := by
  unfold LinesF
  kernel_rfl
theorem f_aa4 : FilOk aa4 := fil_ok l_aa4 (by kernel_rfl) (by kernel_rfl)
theorem l_ab4 : LinesF ab4 := by
  unfold LinesF
  kernel_rfl
theorem f_ab4 : FilOk ab4 := fil_ok l_ab4 (by kernel_rfl) (by kernel_rfl)
theorem l_ba4 : LinesF ba4 := by
  unfold LinesF
  kernel_rfl
theorem f_ba4 : FilOk ba4 := fil_ok l_ba4 (by kernel_rfl) (by kernel_rfl)
theorem l_aa5 : LinesF aa5 := by
  unfold LinesF
  kernel_rfl
theorem f_aa5 : FilOk aa5 := fil_ok l_aa5 (by kernel_rfl) (by kernel_rfl)
theorem l_ab5 : LinesF ab5 := by
  unfold LinesF
  kernel_rfl
theorem f_ab5 : FilOk ab5 := fil_ok l_ab5 (by kernel_rfl) (by kernel_rfl)
theorem l_ba5 : LinesF ba5 := by
  unfold LinesF
  kernel_rfl
theorem f_ba5 : FilOk ba5 := fil_ok l_ba5 (by kernel_rfl) (by kernel_rfl)
end Go.Den
