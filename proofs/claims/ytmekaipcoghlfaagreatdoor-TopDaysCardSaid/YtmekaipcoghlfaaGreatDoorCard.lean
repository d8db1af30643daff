/-
  TopDays: its tied card: whatever the year, month and day and the number of days, the Go text returns true and its input reads as before; what its row lists is tied to the text of the program.
-/
import Derived.Test.YtmekaipcoghlfaaGreatDoorRo
import Derived.Test.YtmekaipcoghlfaaGreatDoorCf
import Derived.Test.YtmekaipcoghlfaaGreatDoorFa
import Derived.Test.YtmekaipcoghlfaaGreatDoorFb
import Derived.Test.YtmekaipcoghlfaaGreatDoorFc
import Derived.Test.YtmekaipcoghlfaaGreatDoorFd
import Derived.Test.YtmekaipcoghlfaaGreatDoorFf
import Derived.Test.YtmekaipcoghlfaaGreatDoorFg
import Derived.Test.YtmekaipcoghlfaaGreatDoorFh
import Derived.Test.YtmekaipcoghlfaaGreatDoorFi
import Derived.Test.YtmekaipcoghlfaaGreatDoorCards
import Derived.SevenTiedAt
set_option linter.all false
set_option linter.unusedVariables false
set_option linter.unusedSimpArgs false
noncomputable section
namespace Go.Proofs.YtmekaipcoghlfaaGreatDoor
open Go
set_option maxRecDepth 100000
theorem tie : Tryz.prog.laidByTextLater LL KK true := Program.laidByTextLater_by_one 72 8 65 fa fb fc fd fe ff fg
theorem row_tie : Rows.topDaysRow.laidByTextAt .later Tryz.pinned [.pinned, .data, .sentinel, .sentinel, .data, .data, .data] true :=
  OpenClaim.laidByTextAt_pinned rfl rfl tie rfl rfl rfl rfl (fun y hy e => by
    simp only [Rows.topDaysRow, List.zip_cons_cons, List.zip_nil_right, List.mem_cons, List.mem_nil_iff, or_false] at hy
    rcases hy with rfl | rfl | rfl | rfl | rfl | rfl | rfl
    · exact ⟨pin, by kernel_rfl⟩
    · cases e
    · cases e
    · cases e
    · cases e
    · cases e
    · cases e) fits
theorem card_goes : false = Rows.topDaysRow.goesBy Tryz.pinned.checked.prog := by
  have h1 : Tryz.pinned.checked.prog.funcNamed Rows.topDaysRow.func = some 4 := named4
  have h2 : Tryz.pinned.checked.prog.goes 4 = false := goes4
  unfold OpenClaim.goesBy Program.goesAt Program.goesFrom
  rw [h1, Option.any_some, h2]
  rfl
/-- TopDays: THE TIED CARD. -/
theorem card_holds : Rows.TopDaysCardSaid :=
  Claim7.holds_tied_plain_at .later [] [.pinned, .data, .sentinel, .sentinel, .data, .data, .data] true (true, "1f9e77038ddf4eddc658d3ec7a135a1584d0078d7a9280bd951214d23383b3c3") true
    over (fun _ h => by cases h) card_wf (fun _ h => by cases h) row_tie rfl ⟨rfl, rfl⟩ card_main rfl
    (fun f fn hf hfn => by
      obtain rfl : f = 4 := Option.some.inj (card_func.symm.trans hf) |>.symm
      obtain rfl : fn = Tryz.f4 := (Option.some.inj (Tryz.func4.symm.trans hfn)).symm
      exact ⟨card_looks, fun j t ht => by
        rw [Tryz.params4] at ht
        have hm : t ∈ [3, 3, 3, 21] := by simpa using Array.mem_of_getElem? ht
        exact (show Tryz.prog.wantsStandIn t = false by simpa using List.all_eq_true.1 card_std t hm)⟩)
    card_goes
end Go.Proofs.YtmekaipcoghlfaaGreatDoor
end
