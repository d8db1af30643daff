/-
  Part of the proof of TopDays: lemmas that the others lean on.
-/
import Derived.Test.YtmekaipcoghlfaaGreatDoorCards
import Derived.SevenTiedAt
import Derived.JoinedOf
set_option linter.all false
set_option linter.unusedVariables false
set_option linter.unusedSimpArgs false
noncomputable section
namespace Go.Proofs.YtmekaipcoghlfaaGreatDoor
open Go
set_option maxRecDepth 100000
theorem card_wf : Rows.topDaysRow.wfByText (OpenSpec.ofChange Rows.topDaysSpec) = true := by kernel_rfl
theorem card_main : Tryz.pinned.checked.prog.mainIs = some (true, ( "1f9e77038ddf4eddc658d3ec7a135a1584d0078d7a9280bd951214d23383b3c3" : String).toList) := by kernel_rfl
theorem card_looks57 : (fun g => !([] : List FuncId).contains g && (Tryz.prog.funcs[g]?).any fun fn => match fn.body with | some c => c.looks Tryz.prog | none => false) 57 = true := by kernel_rfl
theorem card_looks : true = Tryz.prog.looks [] := by
  refine Eq.symm ?_
  unfold Program.looks
  exact List.any_eq_true.2 ⟨57, List.mem_range.2 (Array.getElem?_eq_some_iff.1 Tryz.func57).1, card_looks57⟩
theorem card_func : Tryz.prog.funcNamed "casuist/casuisttop.TopDays" = some 4 := by kernel_rfl
theorem card_std : ([3, 3, 3, 21].all fun u => !Tryz.prog.wantsStandIn u) = true := by kernel_rfl
end Go.Proofs.YtmekaipcoghlfaaGreatDoor
end
