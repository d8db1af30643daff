/-
  Part of the proof of TopDays: lemmas that the others lean on.
-/
import Derived.Test.YtmekaipcoghlfaaGreatDoorFz
set_option linter.all false
set_option linter.unusedVariables false
set_option linter.unusedSimpArgs false
noncomputable section
namespace Go.Proofs.YtmekaipcoghlfaaGreatDoor
open Go
set_option maxRecDepth 100000
theorem noOwnUnsafe : Tryz.pinned.checked.prog.headLifts.contains "ownunsafe" = false := by kernel_rfl
theorem fits : Tryz.pinned.checked.prog.listedFits (("unicode/utf8.first", Rows.laid_unicode_utf8_first) :: LL) = true := by
  unfold Program.listedFits
  rw [noOwnUnsafe]
  kernel_rfl
end Go.Proofs.YtmekaipcoghlfaaGreatDoor
end
