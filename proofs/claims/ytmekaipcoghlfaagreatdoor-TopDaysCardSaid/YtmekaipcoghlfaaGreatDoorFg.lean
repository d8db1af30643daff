/-
  Part of the proof of TopDays: lemmas that the others lean on.
-/
import Derived.Test.YtmekaipcoghlfaaGreatDoorFz
set_option linter.all false
set_option linter.unusedVariables false
set_option linter.unusedSimpArgs false
noncomputable section
namespace Go.Proofs.YtmekaipcoghlfaaGreatDoor
open Go
set_option maxRecDepth 100000
theorem fg (os : Os) (tape : Tape) : doorLeaves Tryz.prog 72 8 65 LL os tape = some (LL.filter fun x => x.2.handleName?.isNone, (funcsListed LL).map (·.2.funcsOut)) := by kernel_rfl
end Go.Proofs.YtmekaipcoghlfaaGreatDoor
end
