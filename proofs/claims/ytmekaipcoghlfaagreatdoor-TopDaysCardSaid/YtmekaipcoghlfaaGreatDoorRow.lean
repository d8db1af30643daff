/-
  TopDays, as its row says it: whatever the year, month and day and the number of days, the Go text returns true and its input reads as before.
-/
import Derived.Test.YtmekaipcoghlfaaGreatDoorRows
import Derived.ProofKit
import Derived.OpenShut
import Derived.MakeChecks
import Derived.JoinedOf
import Derived.LaidOnce
import Derived.LaidHandle
import Derived.Test.YtmekaipcoghlfaaGreatDoorTop
import Derived.Test.YtmekaipcoghlfaaGreatDoorGlob
set_option linter.all false
set_option linter.unusedVariables false
set_option linter.unusedSimpArgs false
noncomputable section
namespace Go.Proofs.YtmekaipcoghlfaaGreatDoor
open Go Go.Am Go.ChangeShapes Go.WideShapes Go.ChangeAt Go.RowKit
set_option maxRecDepth 100000
theorem own : ownKnob Tryz.prog.godebug = none := by kernel_rfl
/-- What the row lists. -/
abbrev lst : List (String × DataW Unit) := Rows.topDaysRow.laid
theorem lst_plain : (lst.all fun x => x.2.handleName?.isNone) = true := by kernel_rfl
def pow10Z : List Int := [1, 10, 100, 1000, 10000, 100000, 1000000, 10000000, 100000000, 1000000000, 10000000000, 100000000000, 1000000000000, 10000000000000, 100000000000000, 1000000000000000, 10000000000000000, 100000000000000000, 1000000000000000000, 10000000000000000000]
def db32Z : List Int := [0, 1, 28, 2, 29, 14, 24, 3, 30, 22, 20, 15, 25, 17, 4, 8, 31, 27, 13, 23, 21, 19, 16, 7, 26, 12, 18, 6, 11, 5, 10, 9]
def db64Z : List Int := [0, 1, 56, 2, 57, 49, 28, 3, 61, 58, 42, 50, 38, 29, 17, 4, 62, 47, 59, 36, 45, 43, 51, 22, 53, 39, 33, 30, 24, 18, 12, 5, 63, 55, 48, 27, 60, 41, 37, 16, 46, 35, 44, 21, 52, 32, 23, 11, 54, 26, 40, 15, 34, 20, 31, 10, 25, 14, 19, 9, 13, 8, 7, 6]
def accZ : List Int := [128, 191, 160, 191, 128, 159, 144, 191, 128, 143, 0, 0, 0, 0, 0, 0, 0, 0, 0, 0, 0, 0, 0, 0, 0, 0, 0, 0, 0, 0, 0, 0]
def synL : List UInt8 := [105, 110, 118, 97, 108, 105, 100, 32, 115, 121, 110, 116, 97, 120]
def ranL : List UInt8 := [118, 97, 108, 117, 101, 32, 111, 117, 116, 32, 111, 102, 32, 114, 97, 110, 103, 101]
theorem mem_pow : ("internal/strconv.uint64pow10", Lib.tabData .u64 pow10Z) ∈ lst := List.mem_of_getElem? (i := 4) (by kernel_rfl)
theorem mem_db32 : ("math/bits.deBruijn32tab", Lib.tabData .u8 db32Z) ∈ lst := List.mem_of_getElem? (i := 5) (by kernel_rfl)
theorem mem_db64 : ("math/bits.deBruijn64tab", Lib.tabData .u8 db64Z) ∈ lst := List.mem_of_getElem? (i := 6) (by kernel_rfl)
def errD (l : List UInt8) : DataW Unit := .iface "*errors.errorString" (.ptr (.agg [.lit (.string l)]))
theorem tail_ran : lst.drop 3 = ("strconv.ErrRange", errD ranL) :: lst.drop 4 := by kernel_rfl
theorem tail_syn : lst.drop 2 = ("strconv.ErrSyntax", errD synL) :: lst.drop 3 := by kernel_rfl
theorem row545 (u : TypeId) (h : PR.typeName? 3 u = some "*errors.errorString") : u = 545 :=
  typeName_ptr_named (nm := "errors.errorString") (by rw [show "*" ++ "errors.errorString" = "*errors.errorString" by decide]; kernel_rfl) (by kernel_rfl) (by decide) u (by rw [show "*" ++ "errors.errorString" = "*errors.errorString" by decide]; exact h)
theorem hr_laid {W : World} (h : laidMetH PR lst W) : HR E0 W (g0 W) [] := by
  rw [MakeChecks.laidMetH_plain _ _ _ lst_plain] at h
  obtain ⟨ps, hv, -, -⟩ := id h
  have p4 : GlobOK W 4 gl4 := glob_tab (reads_of hv _ _ mem_pow) (g := 4) (t := 371) (e := 22) (m := 20) (by kernel_rfl) (by kernel_rfl) (by kernel_rfl) (by kernel_rfl) (by kernel_rfl) (by kernel_rfl)
  have p6 : GlobOK W 6 gl6 := glob_tab (reads_of hv _ _ mem_db32) (g := 6) (t := 485) (e := 5) (m := 32) (by kernel_rfl) (by kernel_rfl) (by kernel_rfl) (by kernel_rfl) (by kernel_rfl) (by kernel_rfl)
  have p7 : GlobOK W 7 gl7 := glob_tab (reads_of hv _ _ mem_db64) (g := 7) (t := 486) (e := 5) (m := 64) (by kernel_rfl) (by kernel_rfl) (by kernel_rfl) (by kernel_rfl) (by kernel_rfl) (by kernel_rfl)
  have t9 := laid_tails 3 h
  rw [tail_ran] at t9
  have p9 : GlobOK W 9 gl9 := glob_err t9 (g := 9) (ti := 219) (by kernel_rfl) (by kernel_rfl) (by kernel_rfl) row545 (te := 547) (ms := #[("Error", 132)]) (f := ⟨ "s", 9, 0, false, "", "errors", 0⟩) (ts := 9) (by kernel_rfl) (by kernel_rfl) rfl rfl (by kernel_rfl) (by kernel_rfl) (by kernel_rfl)
  have t8 := laid_tails 2 h
  rw [tail_syn] at t8
  have p8 : GlobOK W 8 gl8 := glob_err t8 (g := 8) (ti := 219) (by kernel_rfl) (by kernel_rfl) (by kernel_rfl) row545 (te := 547) (ms := #[("Error", 132)]) (f := ⟨ "s", 9, 0, false, "", "errors", 0⟩) (ts := 9) (by kernel_rfl) (by kernel_rfl) rfl rfl (by kernel_rfl) (by kernel_rfl) (by kernel_rfl)
  refine hr_of fun n cells hn => ?_
  unfold gl at hn
  split at hn
  · obtain rfl := Option.some.inj hn
    exact p4
  · obtain rfl := Option.some.inj hn
    exact p6
  · obtain rfl := Option.some.inj hn
    exact p7
  · obtain rfl := Option.some.inj hn
    exact p8
  · obtain rfl := Option.some.inj hn
    exact p9
  · cases hn
/-! ### A world that fits -/
noncomputable def low : Nat := (World.holding Tryz.prog default ⟨#[], #[], []⟩).heap.size
noncomputable def setG (h : Array Obj) (g : Nat) (cs : List Value) : Array Obj := h.modify g fun
  | .cells _ t frozen => .cells cs.toArray t frozen
  | o => o
noncomputable def laidWorld (os : Os) : World :=
  let w0 := World.holding Tryz.prog os ⟨#[.cells #[.string ⟨synL.toArray⟩] 547, .cells #[.string ⟨ranL.toArray⟩] 547], #[], []⟩
  { w0 with heap := setG (setG (setG (setG (setG (setG (setG w0.heap 2 (Go.Pinned.utf8FirstZ.map fun (n : Nat) => .int .u8 n)) 3 (accZ.map (.int .u8))) 4 (pow10Z.map (.int .u64))) 6 (db32Z.map (.int .u8))) 7 (db64Z.map (.int .u8)))
      8 [.iface 545 (.pointer (some ⟨low, 0, none⟩))]) 9 [.iface 545 (.pointer (some ⟨low + 1, 0, none⟩))] }
theorem laidMet_bits {P : Program} {w : World} {l : List (String × DataW Unit)} (fuel M : Nat) (h : (DataW.laidRun P w fuel (l.map (·.1))).map (·.1) = some l)
    (hr : (DataW.laidRun P w fuel (l.map (·.1))).map (fun x => nodupBits M x.2 0 && laidRowsB P w x.2) = some true) : laidMet P l w := by
  cases hx : DataW.laidRun P w fuel (l.map (·.1)) with
  | none => simp [hx] at h
  | some x =>
    obtain ⟨l', ps⟩ := x
    simp only [hx, Option.map_some, Option.some.injEq] at h hr
    subst h
    simp only [Bool.and_eq_true] at hr
    exact laidMet_of_run fuel hx (decide_eq_true (nodupBits_sound hr.1).1) hr.2
theorem met_run (os : Os) (args : Array Value) : (DataW.laidRun PR ((laidWorld os).forCall (fun _ _ => 0) ⟨#[], args, []⟩).memory 8 (lst.map (·.1))).map (·.1) = some lst := by kernel_rfl
theorem met_fit (os : Os) (args : Array Value) : (DataW.laidRun PR ((laidWorld os).forCall (fun _ _ => 0) ⟨#[], args, []⟩).memory 8 (lst.map (·.1))).map (fun x => nodupBits 300 x.2 0 && laidRowsB PR ((laidWorld os).forCall (fun _ _ => 0) ⟨#[], args, []⟩).memory x.2) = some true := by kernel_rfl
theorem laidWorld_met (os : Os) (args : Array Value) : laidMetH PR lst ((laidWorld os).forCall (fun _ _ => 0) ⟨#[], args, []⟩).memory := by
  rw [MakeChecks.laidMetH_plain _ _ _ lst_plain]
  exact laidMet_bits 8 300 (met_run os args) (met_fit os args)
def arg0 : Array Value := #[.int .i64 0, .int .i64 0, .int .i64 0, .int .i32 0]
theorem wit_vars (os : Os) : ((laidWorld os).forCall (fun _ _ => 0) ⟨#[], arg0, []⟩).variablesRefB PR = true := by kernel_rfl
theorem wit_rest (os : Os) : (((laidWorld os).forCall (fun _ _ => 0) ⟨#[], arg0, []⟩).heap.toList.drop PR.globals.size).take ((begin PR (fun _ _ => 0) default).world.heap.size - PR.globals.size) =
      (begin PR (fun _ _ => 0) default).world.heap.toList.drop PR.globals.size := by kernel_rfl
theorem wit_ok (os : Os) : Input.okWideB PR ((laidWorld os).forCall (fun _ _ => 0) ⟨#[], arg0, []⟩) 4 ⟨#[], arg0, []⟩ = true := by kernel_rfl
theorem lifted (os : Os) (started : os.Started) (H : Type) (enc : TypeId × Value → H) :
    ReturnsInHanded {} Tryz.checked os 4 .any (fun w args => (Rows.topDaysSpec.pre enc Tryz.prog Tryz.f4 [] false w args ∧ laidMetH Tryz.prog lst w) ∧ sizedMet enc Tryz.prog Tryz.f4 (OpenSpec.ofChange Rows.topDaysSpec) false w args)
      (Rows.topDaysSpec.post enc Tryz.prog Tryz.f4 false true false false) := by
  refine returnsInHanded_of_change_and (C := Tryz.checked) (X := fun w _ => laidMetH Tryz.prog lst w) (fun _ _ _ hh h => h.of_heap hh) own started (by kernel_rfl) Tryz.func4
    (ChangeSpec.witness_shaped (enc := enc) (C := Tryz.checked) (os := os) (X := fun w _ => laidMetH Tryz.prog lst w) false (laidWorld os) arg0 8 rfl (World.shaped_of_RefB (wit_vars os) (wit_rest os)) (wit_ok os) (by kernel_rfl) (by kernel_rfl) (laidWorld_met os _)) ?_
  intro W base args ds gs before hval0 hW _ _ hL _
  have hval : ∀ (j : Nat) t v, Tryz.f4.params[j]? = some t → args[j]? = some v → Value.okWide Tryz.prog W .any base t v := hval0
  have hW' := hW
  obtain ⟨p, q, hA0, hV, rfl, hfz, hnd⟩ := hW
  have hA : DataW.TrodAll enc Tryz.prog W 0 (fun _ => true) true Tryz.f4.params.toList args.toList ds p := hA0
  rw [Tryz.params4] at hA hval
  obtain ⟨v0, vs0, d0, ds0, p0, q0, hargs, rfl, rfl, h0, r0⟩ := trodAll_cons hA
  obtain ⟨v1, vs1, d1, ds1, p1, q1, rfl, rfl, rfl, h1, r1⟩ := trodAll_cons r0
  obtain ⟨v2, vs2, d2, ds2, p2, q2, rfl, rfl, rfl, h2, r2⟩ := trodAll_cons r1
  obtain ⟨v3, vs3, d3, ds3, p3, q3, rfl, rfl, rfl, h3, r3⟩ := trodAll_cons r2
  obtain ⟨rfl, rfl, rfl⟩ := trodAll_nil r3
  obtain rfl : args = #[v0, v1, v2, v3] := by cases args; simp_all
  obtain ⟨rfl, rfl⟩ := trodVars_none hV
  obtain ⟨a0, rfl, rfl, rfl, w0⟩ := open_int Tryz.underlying3 (hval 0 3 v0 rfl rfl) h0
  obtain ⟨a1, rfl, rfl, rfl, w1⟩ := open_int Tryz.underlying3 (hval 1 3 v1 rfl rfl) h1
  obtain ⟨a2, rfl, rfl, rfl, w2⟩ := open_int Tryz.underlying3 (hval 2 3 v2 rfl rfl) h2
  obtain ⟨a3, rfl, rfl, rfl, w3⟩ := open_int Tryz.underlying21 (hval 3 21 v3 rfl rfl) h3
  clear hA0 hval0
  simp only [List.append_nil] at hW'
  obtain ⟨n0, n1⟩ := i32_bd w3
  refine (topDays a0 a1 a2 a3 n0 n1 [] W (g0 W) [.int .i64 a0, .int .i64 a1, .int .i64 a2, .int .i32 a3] (hr_laid hL) (.cons (.fr (.int ..)) (.cons (.fr (.int ..)) (.cons (.fr (.int ..)) (.cons (.fr (.int ..)) .nil))))).mono fun e W' ⟨v, g', he, m1, m2, m3⟩ => ?_
  subst he
  obtain rfl : v = .bool true := by
    cases m2 with
    | fr hf => cases hf; rfl
  refine ⟨_, rfl, _, _, _, [], [], [], hW', trodAll_cons_mk (shut_bool Tryz.underlying4 _) trodAll_mk0, ?_, rfl, kept_of m3, fun h => by cases h⟩
  exact trodAll_cons_mk (shut_int Tryz.underlying3 w0) (trodAll_cons_mk (shut_int Tryz.underlying3 w1) (trodAll_cons_mk (shut_int Tryz.underlying3 w2) (trodAll_cons_mk (shut_int Tryz.underlying21 w3) trodAll_mk0)))
end Go.Proofs.YtmekaipcoghlfaaGreatDoor
end
