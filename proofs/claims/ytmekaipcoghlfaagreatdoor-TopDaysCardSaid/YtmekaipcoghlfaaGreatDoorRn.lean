/-
  Part of the proof of TopDays: lemmas that the others lean on.
-/
import Derived.Test.YtmekaipcoghlfaaGreatDoorRows
import Derived.JoinedOf
import GoSem.ClaimSeven
import Derived.Test.YtmekaipcoghlfaaGreatDoorRk
set_option linter.all false
set_option linter.unusedVariables false
set_option linter.unusedSimpArgs false
noncomputable section
namespace Go.Proofs.YtmekaipcoghlfaaGreatDoor
open Go
set_option maxRecDepth 100000
theorem j10 : (Rows.topDaysRow.inPlace == Tryz.prog.inPlace 4) = true := by
  unfold Program.inPlace
  rw [closure4]
  kernel_rfl
theorem unf4 : Tryz.prog.unfollowed 4 = true := by
  unfold Program.unfollowed
  rw [closure4]
  kernel_rfl
theorem j11 : (Rows.topDaysRow.unfollowed == Tryz.prog.unfollowed 4) = true := by
  rw [unf4]
  rfl
theorem j12 : (Rows.topDaysRow.recurses == Tryz.prog.recurses 4) = true := by
  unfold Program.recurses
  rw [unf4, Bool.true_or]
  rfl
theorem j13 : (Rows.topDaysRow.named == Tryz.prog.varsNamed 4) = true := by
  unfold Program.varsNamed
  rw [closure4]
  kernel_rfl
theorem goesA : (LL4.any fun g => (Tryz.prog.funcs[g]?).any Func.goes) = false := by kernel_rfl
theorem goesB : Tryz.prog.funcs.any Func.goes = false := by kernel_rfl
theorem goes4 : Tryz.prog.goes 4 = false := by
  unfold Program.goes
  rw [closure4, goesA, goesB, Bool.and_false]
  rfl
end Go.Proofs.YtmekaipcoghlfaaGreatDoor
end
