/-
  Part of the proof of TopDays: lemmas that the others lean on.
-/
import Derived.Test.YtmekaipcoghlfaaGreatDoorFz
set_option linter.all false
set_option linter.unusedVariables false
set_option linter.unusedSimpArgs false
noncomputable section
namespace Go.Proofs.YtmekaipcoghlfaaGreatDoor
open Go
set_option maxRecDepth 100000
theorem fb : Tryz.prog.worded (varsWordLater !true) = false := by kernel_rfl
end Go.Proofs.YtmekaipcoghlfaaGreatDoor
end
