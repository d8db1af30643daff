/-
  Part of the proof of TopDays: lemmas that the others lean on.
-/
import Derived.Test.YtmekaipcoghlfaaGreatDoorRow
import Derived.Test.YtmekaipcoghlfaaGreatDoorRj
import Derived.Test.YtmekaipcoghlfaaGreatDoorRn
set_option linter.all false
set_option linter.unusedVariables false
set_option linter.unusedSimpArgs false
noncomputable section
namespace Go.Proofs.YtmekaipcoghlfaaGreatDoor
open Go
set_option maxRecDepth 100000
theorem closed : joinedFacts Tryz.prog 4 Tryz.f4 Rows.topDaysSpec Rows.topDaysRow = true := (and2 (and2 (and2 (and2 (and2 (and2 (and2 (and2 (and2 (and2 (and2 (and2 (and2 (and2 (and2 (and2 (and2 (and2 (and2 (and2 (and2 (and2 (and2 (and2 (and2 (and2 (and2 (and2 (and2 (and2 (and2 j1 j2) j3) j4) j5) j6) j7) j8) j9) j10) j11) j12) j13) j14) j15) j16) j17) j18) j19) j20) j21) j22) j23) j24) j25) j26) j27) j28) j29) j30) j31) j32)
theorem over : Rows.TopDaysSaid :=
  OpenClaim.holds_of_wide 4 Tryz.f4 rfl rfl rfl rfl rfl rfl rfl ⟨rfl, rfl, rfl, rfl, rfl⟩ rfl rfl rfl rfl rfl named4 Tryz.func4 closed
    inst4 wrap4 (fun os started H enc _ => lifted os started H enc)
end Go.Proofs.YtmekaipcoghlfaaGreatDoor
end
