/-
  Part of the proof of TopDays: lemmas that the others lean on.
-/
import Derived.Test.YtmekaipcoghlfaaGreatDoorYa
import Derived.Test.YtmekaipcoghlfaaGreatDoorCc
import Derived.Test.YtmekaipcoghlfaaGreatDoorCb
import Derived.Test.YtmekaipcoghlfaaGreatDoorBase
set_option linter.all false
set_option linter.unusedVariables false
set_option linter.unusedSimpArgs false
noncomputable section
namespace Go.Proofs.YtmekaipcoghlfaaGreatDoor
open Go Go.Am Go.Proofs
theorem leap6_ok (y : Int) : Sm 72 [.int .i64 y] (.bool (Cal.leap y)) := by
  have h4 := tmod0 y 4
  have h100 := tmod0 y 100
  have h400 := tmod0 y 400
  by_cases c : y % 400 = 0
  · refine (l6 y (by show ((Int.tmod y 400 : Int) == 0) = true; rw [h400]; simp [c])).cast ?_
    rw [(Cal.leap_iff y).2 (by omega)]
  by_cases a : y % 4 = 0
  · refine (l61 y (by show ((Int.tmod y 4 : Int) == 0) = true; rw [h4]; simp [a]) (by show ((Int.tmod y 400 : Int) == 0) = false; rw [h400]; simp [c])).cast ?_
    show AV.bool ((Int.tmod y 100 : Int) != 0) = _
    rw [bne, h100]
    congr 1
    by_cases b : y % 100 = 0
    · have : Cal.leap y = false := by
        rcases hl : Cal.leap y with _ | _
        · rfl
        · have := (Cal.leap_iff y).1 hl; omega
      rw [this]; simp [b]
    · rw [(Cal.leap_iff y).2 (by omega)]; simp [b]
  · refine (l62 y (by show ((Int.tmod y 4 : Int) == 0) = false; rw [h4]; simp [a]) (by show ((Int.tmod y 400 : Int) == 0) = false; rw [h400]; simp [c])).cast ?_
    have : Cal.leap y = false := by
      rcases hl : Cal.leap y with _ | _
      · rfl
      · have := (Cal.leap_iff y).1 hl; omega
    rw [this]
theorem len6_ok (y m : Int) (h1 : 1 ≤ m) (h2 : m ≤ 12) : Sm 40 [.int .i64 y, .int .i64 m] (.int .i64 (Cal.len y m)) := by
  obtain rfl | rfl | rfl | rfl | rfl | rfl | rfl | rfl | rfl | rfl | rfl | rfl : m = 1 ∨ m = 2 ∨ m = 3 ∨ m = 4 ∨ m = 5 ∨ m = 6 ∨ m = 7 ∨ m = 8 ∨ m = 9 ∨ m = 10 ∨ m = 11 ∨ m = 12 := by omega
  · exact len6_1 y
  · rcases hl : Cal.leap y with _ | _
    · exact (len6_21 y hl (leap6_ok y)).cast (by simp [Cal.len, hl])
    · exact (len6_2 y hl (leap6_ok y)).cast (by simp [Cal.len, hl])
  · exact len6_3 y
  · exact len6_4 y
  · exact len6_5 y
  · exact len6_6 y
  · exact len6_7 y
  · exact len6_8 y
  · exact len6_9 y
  · exact len6_10 y
  · exact len6_11 y
  · exact len6_12 y
theorem yr6_ok (y : Int) (h0 : -1100000000 ≤ y) (h1 : y ≤ 1100000000) : Sm 44 [.int .i64 y] (.int .i64 (Cal.yr y)) := by
  have e0 : yr6_0 y = y - 1 := wrapI (by omega) (by omega)
  have e1 : yr6_1 y = 365 * (yr6_0 y) := wrapI (by omega) (by omega)
  have e2 : yr6_2 y = (yr6_1 y) + ((yr6_0 y) / 4) := wrapI (by omega) (by omega)
  have e3 : yr6_3 y = (yr6_2 y) - ((yr6_0 y) / 100) := wrapI (by omega) (by omega)
  have e4 : yr6_4 y = (yr6_3 y) + ((yr6_0 y) / 400) := wrapI (by omega) (by omega)
  refine (yr6 y (rfloor_ok _ _ (by omega) (by omega) (by omega)) (rfloor_ok _ _ (by omega) (by omega) (by omega)) (rfloor_ok _ _ (by omega) (by omega) (by omega))).cast ?_
  rw [e4, e3, e2, e1, e0]
  rfl
theorem yd6_ok (y m d : Int) (h1 : 1 ≤ m) (h2 : m ≤ 12) (h3 : 1 ≤ d) (h4 : d ≤ 31) : Sm 46 [.int .i64 y, .int .i64 m, .int .i64 d] (.int .i64 (Cal.yd y m d)) := by
  obtain rfl | rfl | rfl | rfl | rfl | rfl | rfl | rfl | rfl | rfl | rfl | rfl : m = 1 ∨ m = 2 ∨ m = 3 ∨ m = 4 ∨ m = 5 ∨ m = 6 ∨ m = 7 ∨ m = 8 ∨ m = 9 ∨ m = 10 ∨ m = 11 ∨ m = 12 := by omega
  · exact (yd6_1 y d).cast (by simp [Cal.yd])
  · 
    have l1 := Cal.len_bd y 1
    have e0 : yd6_2_0 y d = d + Cal.len y 1 := wrapI (by omega) (by omega)
    refine (yd6_2 y d (len6_ok y 1 (by decide) (by decide))).cast ?_
    rw [show (yd6_2_0 y d) = Cal.yd y 2 d by
      rw [e0]
      simp [Cal.len, Cal.yd]
      try (rcases Cal.leap y with _ | _ <;> simp <;> omega)]
  · 
    have l1 := Cal.len_bd y 1
    have l2 := Cal.len_bd y 2
    have e0 : yd6_3_0 y d = d + Cal.len y 1 := wrapI (by omega) (by omega)
    have e1 : yd6_3_1 y d = (yd6_3_0 y d) + Cal.len y 2 := wrapI (by omega) (by omega)
    refine (yd6_3 y d (len6_ok y 2 (by decide) (by decide)) (len6_ok y 1 (by decide) (by decide))).cast ?_
    rw [show (yd6_3_1 y d) = Cal.yd y 3 d by
      rw [e1, e0]
      simp [Cal.len, Cal.yd]
      try (rcases Cal.leap y with _ | _ <;> simp <;> omega)]
  · 
    have l1 := Cal.len_bd y 1
    have l2 := Cal.len_bd y 2
    have l3 := Cal.len_bd y 3
    have e0 : yd6_4_0 y d = d + Cal.len y 1 := wrapI (by omega) (by omega)
    have e1 : yd6_4_1 y d = (yd6_4_0 y d) + Cal.len y 2 := wrapI (by omega) (by omega)
    have e2 : yd6_4_2 y d = (yd6_4_1 y d) + Cal.len y 3 := wrapI (by omega) (by omega)
    refine (yd6_4 y d (len6_ok y 3 (by decide) (by decide)) (len6_ok y 2 (by decide) (by decide)) (len6_ok y 1 (by decide) (by decide))).cast ?_
    rw [show (yd6_4_2 y d) = Cal.yd y 4 d by
      rw [e2, e1, e0]
      simp [Cal.len, Cal.yd]
      try (rcases Cal.leap y with _ | _ <;> simp <;> omega)]
  · 
    have l1 := Cal.len_bd y 1
    have l2 := Cal.len_bd y 2
    have l3 := Cal.len_bd y 3
    have l4 := Cal.len_bd y 4
    have e0 : yd6_5_0 y d = d + Cal.len y 1 := wrapI (by omega) (by omega)
    have e1 : yd6_5_1 y d = (yd6_5_0 y d) + Cal.len y 2 := wrapI (by omega) (by omega)
    have e2 : yd6_5_2 y d = (yd6_5_1 y d) + Cal.len y 3 := wrapI (by omega) (by omega)
    have e3 : yd6_5_3 y d = (yd6_5_2 y d) + Cal.len y 4 := wrapI (by omega) (by omega)
    refine (yd6_5 y d (len6_ok y 4 (by decide) (by decide)) (len6_ok y 3 (by decide) (by decide)) (len6_ok y 2 (by decide) (by decide)) (len6_ok y 1 (by decide) (by decide))).cast ?_
    rw [show (yd6_5_3 y d) = Cal.yd y 5 d by
      rw [e3, e2, e1, e0]
      simp [Cal.len, Cal.yd]
      try (rcases Cal.leap y with _ | _ <;> simp <;> omega)]
  · 
    have l1 := Cal.len_bd y 1
    have l2 := Cal.len_bd y 2
    have l3 := Cal.len_bd y 3
    have l4 := Cal.len_bd y 4
    have l5 := Cal.len_bd y 5
    have e0 : yd6_6_0 y d = d + Cal.len y 1 := wrapI (by omega) (by omega)
    have e1 : yd6_6_1 y d = (yd6_6_0 y d) + Cal.len y 2 := wrapI (by omega) (by omega)
    have e2 : yd6_6_2 y d = (yd6_6_1 y d) + Cal.len y 3 := wrapI (by omega) (by omega)
    have e3 : yd6_6_3 y d = (yd6_6_2 y d) + Cal.len y 4 := wrapI (by omega) (by omega)
    have e4 : yd6_6_4 y d = (yd6_6_3 y d) + Cal.len y 5 := wrapI (by omega) (by omega)
    refine (yd6_6 y d (len6_ok y 5 (by decide) (by decide)) (len6_ok y 4 (by decide) (by decide)) (len6_ok y 3 (by decide) (by decide)) (len6_ok y 2 (by decide) (by decide)) (len6_ok y 1 (by decide) (by decide))).cast ?_
    rw [show (yd6_6_4 y d) = Cal.yd y 6 d by
      rw [e4, e3, e2, e1, e0]
      simp [Cal.len, Cal.yd]
      try (rcases Cal.leap y with _ | _ <;> simp <;> omega)]
  · 
    have l1 := Cal.len_bd y 1
    have l2 := Cal.len_bd y 2
    have l3 := Cal.len_bd y 3
    have l4 := Cal.len_bd y 4
    have l5 := Cal.len_bd y 5
    have l6 := Cal.len_bd y 6
    have e0 : yd6_7_0 y d = d + Cal.len y 1 := wrapI (by omega) (by omega)
    have e1 : yd6_7_1 y d = (yd6_7_0 y d) + Cal.len y 2 := wrapI (by omega) (by omega)
    have e2 : yd6_7_2 y d = (yd6_7_1 y d) + Cal.len y 3 := wrapI (by omega) (by omega)
    have e3 : yd6_7_3 y d = (yd6_7_2 y d) + Cal.len y 4 := wrapI (by omega) (by omega)
    have e4 : yd6_7_4 y d = (yd6_7_3 y d) + Cal.len y 5 := wrapI (by omega) (by omega)
    have e5 : yd6_7_5 y d = (yd6_7_4 y d) + Cal.len y 6 := wrapI (by omega) (by omega)
    refine (yd6_7 y d (len6_ok y 6 (by decide) (by decide)) (len6_ok y 5 (by decide) (by decide)) (len6_ok y 4 (by decide) (by decide)) (len6_ok y 3 (by decide) (by decide)) (len6_ok y 2 (by decide) (by decide)) (len6_ok y 1 (by decide) (by decide))).cast ?_
    rw [show (yd6_7_5 y d) = Cal.yd y 7 d by
      rw [e5, e4, e3, e2, e1, e0]
      simp [Cal.len, Cal.yd]
      try (rcases Cal.leap y with _ | _ <;> simp <;> omega)]
  · 
    have l1 := Cal.len_bd y 1
    have l2 := Cal.len_bd y 2
    have l3 := Cal.len_bd y 3
    have l4 := Cal.len_bd y 4
    have l5 := Cal.len_bd y 5
    have l6 := Cal.len_bd y 6
    have l7 := Cal.len_bd y 7
    have e0 : yd6_8_0 y d = d + Cal.len y 1 := wrapI (by omega) (by omega)
    have e1 : yd6_8_1 y d = (yd6_8_0 y d) + Cal.len y 2 := wrapI (by omega) (by omega)
    have e2 : yd6_8_2 y d = (yd6_8_1 y d) + Cal.len y 3 := wrapI (by omega) (by omega)
    have e3 : yd6_8_3 y d = (yd6_8_2 y d) + Cal.len y 4 := wrapI (by omega) (by omega)
    have e4 : yd6_8_4 y d = (yd6_8_3 y d) + Cal.len y 5 := wrapI (by omega) (by omega)
    have e5 : yd6_8_5 y d = (yd6_8_4 y d) + Cal.len y 6 := wrapI (by omega) (by omega)
    have e6 : yd6_8_6 y d = (yd6_8_5 y d) + Cal.len y 7 := wrapI (by omega) (by omega)
    refine (yd6_8 y d (len6_ok y 7 (by decide) (by decide)) (len6_ok y 6 (by decide) (by decide)) (len6_ok y 5 (by decide) (by decide)) (len6_ok y 4 (by decide) (by decide)) (len6_ok y 3 (by decide) (by decide)) (len6_ok y 2 (by decide) (by decide)) (len6_ok y 1 (by decide) (by decide))).cast ?_
    rw [show (yd6_8_6 y d) = Cal.yd y 8 d by
      rw [e6, e5, e4, e3, e2, e1, e0]
      simp [Cal.len, Cal.yd]
      try (rcases Cal.leap y with _ | _ <;> simp <;> omega)]
  · 
    have l1 := Cal.len_bd y 1
    have l2 := Cal.len_bd y 2
    have l3 := Cal.len_bd y 3
    have l4 := Cal.len_bd y 4
    have l5 := Cal.len_bd y 5
    have l6 := Cal.len_bd y 6
    have l7 := Cal.len_bd y 7
    have l8 := Cal.len_bd y 8
    have e0 : yd6_9_0 y d = d + Cal.len y 1 := wrapI (by omega) (by omega)
    have e1 : yd6_9_1 y d = (yd6_9_0 y d) + Cal.len y 2 := wrapI (by omega) (by omega)
    have e2 : yd6_9_2 y d = (yd6_9_1 y d) + Cal.len y 3 := wrapI (by omega) (by omega)
    have e3 : yd6_9_3 y d = (yd6_9_2 y d) + Cal.len y 4 := wrapI (by omega) (by omega)
    have e4 : yd6_9_4 y d = (yd6_9_3 y d) + Cal.len y 5 := wrapI (by omega) (by omega)
    have e5 : yd6_9_5 y d = (yd6_9_4 y d) + Cal.len y 6 := wrapI (by omega) (by omega)
    have e6 : yd6_9_6 y d = (yd6_9_5 y d) + Cal.len y 7 := wrapI (by omega) (by omega)
    have e7 : yd6_9_7 y d = (yd6_9_6 y d) + Cal.len y 8 := wrapI (by omega) (by omega)
    refine (yd6_9 y d (len6_ok y 8 (by decide) (by decide)) (len6_ok y 7 (by decide) (by decide)) (len6_ok y 6 (by decide) (by decide)) (len6_ok y 5 (by decide) (by decide)) (len6_ok y 4 (by decide) (by decide)) (len6_ok y 3 (by decide) (by decide)) (len6_ok y 2 (by decide) (by decide)) (len6_ok y 1 (by decide) (by decide))).cast ?_
    rw [show (yd6_9_7 y d) = Cal.yd y 9 d by
      rw [e7, e6, e5, e4, e3, e2, e1, e0]
      simp [Cal.len, Cal.yd]
      try (rcases Cal.leap y with _ | _ <;> simp <;> omega)]
  · 
    have l1 := Cal.len_bd y 1
    have l2 := Cal.len_bd y 2
    have l3 := Cal.len_bd y 3
    have l4 := Cal.len_bd y 4
    have l5 := Cal.len_bd y 5
    have l6 := Cal.len_bd y 6
    have l7 := Cal.len_bd y 7
    have l8 := Cal.len_bd y 8
    have l9 := Cal.len_bd y 9
    have e0 : yd6_10_0 y d = d + Cal.len y 1 := wrapI (by omega) (by omega)
    have e1 : yd6_10_1 y d = (yd6_10_0 y d) + Cal.len y 2 := wrapI (by omega) (by omega)
    have e2 : yd6_10_2 y d = (yd6_10_1 y d) + Cal.len y 3 := wrapI (by omega) (by omega)
    have e3 : yd6_10_3 y d = (yd6_10_2 y d) + Cal.len y 4 := wrapI (by omega) (by omega)
    have e4 : yd6_10_4 y d = (yd6_10_3 y d) + Cal.len y 5 := wrapI (by omega) (by omega)
    have e5 : yd6_10_5 y d = (yd6_10_4 y d) + Cal.len y 6 := wrapI (by omega) (by omega)
    have e6 : yd6_10_6 y d = (yd6_10_5 y d) + Cal.len y 7 := wrapI (by omega) (by omega)
    have e7 : yd6_10_7 y d = (yd6_10_6 y d) + Cal.len y 8 := wrapI (by omega) (by omega)
    have e8 : yd6_10_8 y d = (yd6_10_7 y d) + Cal.len y 9 := wrapI (by omega) (by omega)
    refine (yd6_10 y d (len6_ok y 9 (by decide) (by decide)) (len6_ok y 8 (by decide) (by decide)) (len6_ok y 7 (by decide) (by decide)) (len6_ok y 6 (by decide) (by decide)) (len6_ok y 5 (by decide) (by decide)) (len6_ok y 4 (by decide) (by decide)) (len6_ok y 3 (by decide) (by decide)) (len6_ok y 2 (by decide) (by decide)) (len6_ok y 1 (by decide) (by decide))).cast ?_
    rw [show (yd6_10_8 y d) = Cal.yd y 10 d by
      rw [e8, e7, e6, e5, e4, e3, e2, e1, e0]
      simp [Cal.len, Cal.yd]
      try (rcases Cal.leap y with _ | _ <;> simp <;> omega)]
  · 
    have l1 := Cal.len_bd y 1
    have l2 := Cal.len_bd y 2
    have l3 := Cal.len_bd y 3
    have l4 := Cal.len_bd y 4
    have l5 := Cal.len_bd y 5
    have l6 := Cal.len_bd y 6
    have l7 := Cal.len_bd y 7
    have l8 := Cal.len_bd y 8
    have l9 := Cal.len_bd y 9
    have l10 := Cal.len_bd y 10
    have e0 : yd6_11_0 y d = d + Cal.len y 1 := wrapI (by omega) (by omega)
    have e1 : yd6_11_1 y d = (yd6_11_0 y d) + Cal.len y 2 := wrapI (by omega) (by omega)
    have e2 : yd6_11_2 y d = (yd6_11_1 y d) + Cal.len y 3 := wrapI (by omega) (by omega)
    have e3 : yd6_11_3 y d = (yd6_11_2 y d) + Cal.len y 4 := wrapI (by omega) (by omega)
    have e4 : yd6_11_4 y d = (yd6_11_3 y d) + Cal.len y 5 := wrapI (by omega) (by omega)
    have e5 : yd6_11_5 y d = (yd6_11_4 y d) + Cal.len y 6 := wrapI (by omega) (by omega)
    have e6 : yd6_11_6 y d = (yd6_11_5 y d) + Cal.len y 7 := wrapI (by omega) (by omega)
    have e7 : yd6_11_7 y d = (yd6_11_6 y d) + Cal.len y 8 := wrapI (by omega) (by omega)
    have e8 : yd6_11_8 y d = (yd6_11_7 y d) + Cal.len y 9 := wrapI (by omega) (by omega)
    have e9 : yd6_11_9 y d = (yd6_11_8 y d) + Cal.len y 10 := wrapI (by omega) (by omega)
    refine (yd6_11 y d (len6_ok y 10 (by decide) (by decide)) (len6_ok y 9 (by decide) (by decide)) (len6_ok y 8 (by decide) (by decide)) (len6_ok y 7 (by decide) (by decide)) (len6_ok y 6 (by decide) (by decide)) (len6_ok y 5 (by decide) (by decide)) (len6_ok y 4 (by decide) (by decide)) (len6_ok y 3 (by decide) (by decide)) (len6_ok y 2 (by decide) (by decide)) (len6_ok y 1 (by decide) (by decide))).cast ?_
    rw [show (yd6_11_9 y d) = Cal.yd y 11 d by
      rw [e9, e8, e7, e6, e5, e4, e3, e2, e1, e0]
      simp [Cal.len, Cal.yd]
      try (rcases Cal.leap y with _ | _ <;> simp <;> omega)]
  · 
    have l1 := Cal.len_bd y 1
    have l2 := Cal.len_bd y 2
    have l3 := Cal.len_bd y 3
    have l4 := Cal.len_bd y 4
    have l5 := Cal.len_bd y 5
    have l6 := Cal.len_bd y 6
    have l7 := Cal.len_bd y 7
    have l8 := Cal.len_bd y 8
    have l9 := Cal.len_bd y 9
    have l10 := Cal.len_bd y 10
    have l11 := Cal.len_bd y 11
    have e0 : yd6_12_0 y d = d + Cal.len y 1 := wrapI (by omega) (by omega)
    have e1 : yd6_12_1 y d = (yd6_12_0 y d) + Cal.len y 2 := wrapI (by omega) (by omega)
    have e2 : yd6_12_2 y d = (yd6_12_1 y d) + Cal.len y 3 := wrapI (by omega) (by omega)
    have e3 : yd6_12_3 y d = (yd6_12_2 y d) + Cal.len y 4 := wrapI (by omega) (by omega)
    have e4 : yd6_12_4 y d = (yd6_12_3 y d) + Cal.len y 5 := wrapI (by omega) (by omega)
    have e5 : yd6_12_5 y d = (yd6_12_4 y d) + Cal.len y 6 := wrapI (by omega) (by omega)
    have e6 : yd6_12_6 y d = (yd6_12_5 y d) + Cal.len y 7 := wrapI (by omega) (by omega)
    have e7 : yd6_12_7 y d = (yd6_12_6 y d) + Cal.len y 8 := wrapI (by omega) (by omega)
    have e8 : yd6_12_8 y d = (yd6_12_7 y d) + Cal.len y 9 := wrapI (by omega) (by omega)
    have e9 : yd6_12_9 y d = (yd6_12_8 y d) + Cal.len y 10 := wrapI (by omega) (by omega)
    have e10 : yd6_12_10 y d = (yd6_12_9 y d) + Cal.len y 11 := wrapI (by omega) (by omega)
    refine (yd6_12 y d (len6_ok y 11 (by decide) (by decide)) (len6_ok y 10 (by decide) (by decide)) (len6_ok y 9 (by decide) (by decide)) (len6_ok y 8 (by decide) (by decide)) (len6_ok y 7 (by decide) (by decide)) (len6_ok y 6 (by decide) (by decide)) (len6_ok y 5 (by decide) (by decide)) (len6_ok y 4 (by decide) (by decide)) (len6_ok y 3 (by decide) (by decide)) (len6_ok y 2 (by decide) (by decide)) (len6_ok y 1 (by decide) (by decide))).cast ?_
    rw [show (yd6_12_10 y d) = Cal.yd y 12 d by
      rw [e10, e9, e8, e7, e6, e5, e4, e3, e2, e1, e0]
      simp [Cal.len, Cal.yd]
      try (rcases Cal.leap y with _ | _ <;> simp <;> omega)]
theorem yd_bd (y m d : Int) (h1 : 1 ≤ m) (h2 : m ≤ 12) (h3 : 1 ≤ d) (h4 : d ≤ 31) : 1 ≤ Cal.yd y m d ∧ Cal.yd y m d ≤ 366 := by
  have hl : 0 ≤ (if Cal.leap y = true then (1 : Int) else 0) ∧ (if Cal.leap y = true then (1 : Int) else 0) ≤ 1 := by split <;> omega
  unfold Cal.yd
  generalize (if Cal.leap y = true then (1 : Int) else 0) = l at hl
  have : m = 1 ∨ m = 2 ∨ m = 3 ∨ m = 4 ∨ m = 5 ∨ m = 6 ∨ m = 7 ∨ m = 8 ∨ m = 9 ∨ m = 10 ∨ m = 11 ∨ m = 12 := by omega
  rcases this with h | h | h | h | h | h | h | h | h | h | h | h <;> subst h <;> simp <;> omega
theorem yr_bd (y : Int) (h0 : -1100000000 ≤ y) (h1 : y ≤ 1100000000) : -402000000000 ≤ Cal.yr y ∧ Cal.yr y ≤ 402000000000 := by
  unfold Cal.yr
  omega
theorem num6_ok (y m d : Int) (h0 : -1100000000 ≤ y) (h0' : y ≤ 1100000000) (h1 : 1 ≤ m) (h2 : m ≤ 12) (h3 : 1 ≤ d) (h4 : d ≤ 31) : Sm 23 [.int .i64 y, .int .i64 m, .int .i64 d] (.int .i64 (Cal.num y m d)) := by
  have hb := yd_bd y m d h1 h2 h3 h4
  have hr := yr_bd y h0 h0'
  refine (num6 y m d _ (yd6_ok y m d h1 h2 h3 h4) (yr6_ok y h0 h0')).cast ?_
  have e0 : num6_0 y m d (Cal.yd y m d) = Cal.yr y + Cal.yd y m d := wrapI (by omega) (by omega)
  have e1 : num6_1 y m d (Cal.yd y m d) = num6_0 y m d (Cal.yd y m d) - 1 := wrapI (by omega) (by omega)
  have e2 : num6_2 y m d (Cal.yd y m d) = num6_1 y m d (Cal.yd y m d) - 719162 := wrapI (by omega) (by omega)
  rw [e2, e1, e0, Cal.num_yd y m d h1 h2]
theorem num_bd (y m d : Int) (h0 : -1000000000 ≤ y) (h0' : y ≤ 1000000000) (h1 : 1 ≤ m) (h2 : m ≤ 12) (h3 : 1 ≤ d) (h4 : d ≤ 31) : -400000000000 ≤ Cal.num y m d ∧ Cal.num y m d ≤ 400000000000 := by
  have := Cal.num_yd y m d h1 h2
  have hb := yd_bd y m d h1 h2 h3 h4
  unfold Cal.yr at this
  omega
/-- 1 for Monday, to 7 for Sunday. -/
def wday (n : Int) : Int := (n + 3) % 7 + 1
theorem wd6_ok (y m d N : Int) (hN : -400000000000 ≤ N) (hN' : N ≤ 400000000000) (h : Sm 23 [.int .i64 y, .int .i64 m, .int .i64 d] (.int .i64 N)) : Sm 24 [.int .i64 y, .int .i64 m, .int .i64 d] (.int .i64 (wday N)) := by
  have e0 : wd6_0 y m d N = N + 3 := wrapI (by omega) (by omega)
  have e1 : wd6_1 y m d N = 7 * ((wd6_0 y m d N) / 7) := wrapI (by omega) (by omega)
  have e2 : wd6_2 y m d N = (wd6_0 y m d N) - (wd6_1 y m d N) := wrapI (by omega) (by omega)
  have e3 : wd6_3 y m d N = (wd6_2 y m d N) + 1 := wrapI (by omega) (by omega)
  refine (wd6 y m d N (rfloor_ok _ _ (by omega) (by omega) (by omega)) h).cast ?_
  rw [show wd6_3 y m d N = wday N by unfold wday; omega]
theorem tmod_bd (a b : Int) (hb : 0 < b) : -b < Int.tmod a b ∧ Int.tmod a b < b := ⟨Int.lt_tmod_of_pos a hb, Int.tmod_lt_of_pos a hb⟩
theorem tmod7 (a : Int) : Int.tmod a 7 = if a < 0 ∧ a % 7 ≠ 0 then a % 7 - 7 else a % 7 := by
  rw [Int.tmod_eq_emod]
  by_cases h : 0 ≤ a ∨ (7 : Int) ∣ a
  · rw [if_pos h, if_neg (by omega)]; omega
  · rw [if_neg h, if_pos (by omega)]; omega
theorem cwd_ok (y m d N : Int) (hN : -400000000000 ≤ N) (hN' : N ≤ 400000000000) (h : Sm 507 [.agg [.int .i64 y, .int .i64 m, .int .i64 d]] (.tuple [.int .i64 N, .bool true])) :
    Sm 401 [.agg [.int .i64 y, .int .i64 m, .int .i64 d]] (.int .i64 (wday N)) := by
  refine (cwd y m d N h).cast ?_
  have e0 : cwd_0 y m d N = if N < 0 ∧ N % 7 ≠ 0 then N % 7 - 7 else N % 7 := tmod7 N
  have b0 : -7 < cwd_0 y m d N ∧ cwd_0 y m d N < 7 := tmod_bd N 7 (by decide)
  have e1 : cwd_1 y m d N = (cwd_0 y m d N) + 10 := wrapI (by omega) (by omega)
  have e2 : cwd_2 y m d N = (cwd_1 y m d N) % 7 := tmodI (by omega) (by omega)
  have e3 : cwd_3 y m d N = (cwd_2 y m d N) + 1 := wrapI (by omega) (by omega)
  rw [show cwd_3 y m d N = wday N by
    unfold wday
    rw [e3, e2, e1, e0]
    split <;> omega]
/-- A day of any numbers. -/
theorem mk6_ok (y m d : Int) : ∃ Y M D, -999999999 ≤ Y ∧ Y ≤ 999999999 ∧ Cal.valid Y M D ∧ Sm 18 [.int .i64 y, .int .i64 m, .int .i64 d] (.agg [.int .i64 Y, .int .i64 M, .int .i64 D]) := by
  obtain ⟨a1, a2⟩ := tmod_bd y 1000000000 (by decide)
  obtain ⟨b1, b2⟩ := tmod_bd m 12 (by decide)
  have hM : ∃ M, 1 ≤ M ∧ M ≤ 12 ∧ ∀ L, mk6_4 y m d L = M := by
    refine ⟨(Int.tmod m 12 + 12) % 12 + 1, by omega, by omega, fun L => ?_⟩
    have e2 : mk6_2 y m d L = Int.tmod m 12 + 12 := wrapI (show -9223372036854775808 ≤ Int.tmod m 12 + 12 by omega) (show Int.tmod m 12 + 12 ≤ _ by omega)
    have e3 : mk6_3 y m d L = (mk6_2 y m d L) % 12 := tmodI (by omega) (by omega)
    have e4 : mk6_4 y m d L = (mk6_3 y m d L) + 1 := wrapI (by omega) (by omega)
    rw [e4, e3, e2]
  obtain ⟨M, m1, m2, hM⟩ := hM
  have hb := Cal.len_bd (Int.tmod y 1000000000) M
  generalize hL : Cal.len (Int.tmod y 1000000000) M = L at hb
  obtain ⟨c1, c2⟩ := tmod_bd d L (by omega)
  have e6 : mk6_6 y m d L = Int.tmod d L + L := wrapI (show -9223372036854775808 ≤ Int.tmod d L + L by omega) (show Int.tmod d L + L ≤ _ by omega)
  have f7 : 0 ≤ mk6_7 y m d L ∧ mk6_7 y m d L < L := by
    unfold mk6_7
    rw [Int.tmod_eq_emod_of_nonneg (by omega)]
    exact ⟨Int.emod_nonneg _ (by omega), Int.emod_lt_of_pos _ (by omega)⟩
  have e8 : mk6_8 y m d L = (mk6_7 y m d L) + 1 := wrapI (by omega) (by omega)
  refine ⟨Int.tmod y 1000000000, M, mk6_8 y m d L, by omega, by omega, ⟨m1, m2, by omega, by rw [hL]; omega⟩, ?_⟩
  have h40 := len6_ok (Int.tmod y 1000000000) M m1 m2
  rw [hL] at h40
  refine (mk6 y m d L (decide_eq_true (by omega)) (by rw [hM L]; exact h40)).cast ?_
  rw [hM L]
  rfl
theorem btw_ok (y m d a b c N M : Int) (h1 : -400000000000 ≤ N) (h2 : N ≤ 400000000000) (h3 : -400000000000 ≤ M) (h4 : M ≤ 400000000000)
    (hM : Sm 507 [.agg [.int .i64 a, .int .i64 b, .int .i64 c]] (.tuple [.int .i64 M, .bool true])) (hN : Sm 507 [.agg [.int .i64 y, .int .i64 m, .int .i64 d]] (.tuple [.int .i64 N, .bool true])) :
    Sm 498 [.agg [.int .i64 y, .int .i64 m, .int .i64 d, .int .i64 0, .bool true, .int .i64 0], .agg [.int .i64 a, .int .i64 b, .int .i64 c, .int .i64 0, .bool true, .int .i64 0]] (.tuple [.int .i64 (86400 * (M - N)), .bool true]) := by
  refine (btw y m d a b c N M hM hN).cast ?_
  have e0 : btw_0 y m d a b c N M = 86400 * N := wrapI (by omega) (by omega)
  have e1 : btw_1 y m d a b c N M = (btw_0 y m d a b c N M) + 0 := wrapI (by omega) (by omega)
  have e2 : btw_2 y m d a b c N M = (btw_1 y m d a b c N M) - 0 := wrapI (by omega) (by omega)
  have e3 : btw_3 y m d a b c N M = 86400 * M := wrapI (by omega) (by omega)
  have e4 : btw_4 y m d a b c N M = (btw_3 y m d a b c N M) + 0 := wrapI (by omega) (by omega)
  have e5 : btw_5 y m d a b c N M = (btw_4 y m d a b c N M) - 0 := wrapI (by omega) (by omega)
  have e6 : btw_6 y m d a b c N M = (btw_5 y m d a b c N M) - (btw_2 y m d a b c N M) := wrapI (by omega) (by omega)
  rw [show btw_6 y m d a b c N M = 86400 * (M - N) by omega]
end Go.Proofs.YtmekaipcoghlfaaGreatDoor
end
noncomputable section
namespace Go.Proofs.YtmekaipcoghlfaaGreatDoor
open Go Go.Am Go.Proofs
theorem cnum_ok (y m d : Int) (h1 : 1 ≤ m) (h2 : m ≤ 12) (h3 : 1 ≤ d) (h4 : d ≤ Cal.len y m) (h5 : -999999999 ≤ y) (h6 : y ≤ 999999999) :
    Sm 507 [.agg [.int .i64 y, .int .i64 m, .int .i64 d]] (.tuple [.int .i64 (Cal.num y m d), .bool true]) := num_ok y m d h1 h2 h3 h4 h5 h6
/-- A day so many days later. -/
theorem later_ok (y m d n : Int) (hv : Cal.valid y m d) (h5 : -999999999 ≤ y) (h6 : y ≤ 999999999) (n0 : -2147483648 ≤ n) (n1 : n ≤ 2147483647) :
    ∃ Y M D, Cal.valid Y M D ∧ Cal.num Y M D = Cal.num y m d + n ∧ -2000000000 ≤ Y ∧ Y ≤ 2000000000 ∧
      (yearB Y = true → Sm 565 [.agg [.int .i64 y, .int .i64 m, .int .i64 d], .int .i64 (86400 * n)] (.tuple [.agg [.int .i64 Y, .int .i64 M, .int .i64 D], .bool true])) ∧
      (yearB Y = false → Sm 565 [.agg [.int .i64 y, .int .i64 m, .int .i64 d], .int .i64 (86400 * n)] (.tuple [.agg [.int .i64 0, .int .i64 0, .int .i64 0], .bool false])) := by
  obtain ⟨v1, v2, v3, v4⟩ := hv
  have hl := Cal.len_bd y m
  obtain ⟨b0, b1⟩ := num_bd y m d (by omega) (by omega) v1 v2 v3 (by omega)
  have b2 : -370000000000 ≤ Cal.num y m d ∧ Cal.num y m d ≤ 370000000000 := by
    have := Cal.num_yd y m d v1 v2
    have hb := yd_bd y m d v1 v2 v3 (by omega)
    unfold Cal.yr at this
    omega
  have hN := cnum_ok y m d v1 v2 v3 v4 h5 h6
  obtain ⟨Y, M, D, w, hw, y0, y1, hs⟩ := cofin_ok (Cal.num y m d + n) (by omega) (by omega)
  refine ⟨Y, M, D, w, hw, y0, y1, ?_, ?_⟩
  all_goals generalize hNN : Cal.num y m d = N at *
  · intro hb
    rw [if_pos hb] at hs
    have e0 : dlt_0 y m d (86400 * n) N Y M D = 86400 * N := wrapI (by omega) (by omega)
    have e1 : dlt_1 y m d (86400 * n) N Y M D = (dlt_0 y m d (86400 * n) N Y M D) + 0 := wrapI (by omega) (by omega)
    have e2 : dlt_2 y m d (86400 * n) N Y M D = (dlt_1 y m d (86400 * n) N Y M D) - 0 := wrapI (by omega) (by omega)
    have e5 : dlt_5 y m d (86400 * n) N Y M D = (dlt_2 y m d (86400 * n) N Y M D) + 86400 * n := wrapI (by omega) (by omega)
    have e8 : dlt_8 y m d (86400 * n) N Y M D = (dlt_5 y m d (86400 * n) N Y M D) + 0 := wrapI (by omega) (by omega)
    have f8 : dlt_8 y m d (86400 * n) N Y M D = 86400 * (N + n) := by omega
    have e9 : dlt_9 y m d (86400 * n) N Y M D = N + n := by
      unfold dlt_9
      rw [f8, Int.mul_tdiv_cancel_left _ (by decide)]
      exact wrapI (by omega) (by omega)
    have e10 : dlt_10 y m d (86400 * n) N Y M D = 0 := by
      unfold dlt_10
      rw [f8]
      exact Int.mul_tmod_right _ _
    exact dlt y m d (86400 * n) N Y M D (by rw [e9]; exact hs) (by unfold dlt_11; rw [e10]; rfl) (decide_eq_false (by omega)) (decide_eq_false (by omega)) (decide_eq_false (by omega)) (decide_eq_false (by omega)) hN
  · intro hb
    rw [if_neg (by rw [hb]; decide)] at hs
    have e0 : dlf_0 y m d (86400 * n) N = 86400 * N := wrapI (by omega) (by omega)
    have e1 : dlf_1 y m d (86400 * n) N = (dlf_0 y m d (86400 * n) N) + 0 := wrapI (by omega) (by omega)
    have e2 : dlf_2 y m d (86400 * n) N = (dlf_1 y m d (86400 * n) N) - 0 := wrapI (by omega) (by omega)
    have e5 : dlf_5 y m d (86400 * n) N = (dlf_2 y m d (86400 * n) N) + 86400 * n := wrapI (by omega) (by omega)
    have e8 : dlf_8 y m d (86400 * n) N = (dlf_5 y m d (86400 * n) N) + 0 := wrapI (by omega) (by omega)
    have f8 : dlf_8 y m d (86400 * n) N = 86400 * (N + n) := by omega
    have e9 : dlf_9 y m d (86400 * n) N = N + n := by
      unfold dlf_9
      rw [f8, Int.mul_tdiv_cancel_left _ (by decide)]
      exact wrapI (by omega) (by omega)
    have e10 : dlf_10 y m d (86400 * n) N = 0 := by
      unfold dlf_10
      rw [f8]
      exact Int.mul_tmod_right _ _
    exact dlf y m d (86400 * n) N (by rw [e9]; exact hs) (by unfold dlf_11; rw [e10]; rfl) (decide_eq_false (by omega)) (decide_eq_false (by omega)) (decide_eq_false (by omega)) (decide_eq_false (by omega)) hN
end Go.Proofs.YtmekaipcoghlfaaGreatDoor
end
noncomputable section
namespace Go.Proofs.YtmekaipcoghlfaaGreatDoor
open Go Go.Am Go.Proofs
def ofL (n : Int) (A : Int) (lo : Int) (hi : Int) : St := ⟨(.node (.int .i64 n) (.node (.tuple []) (.node (.int .i64 0) (.node (.int .i64 A) (.node (.junk) (.node (.tuple []) .leaf .leaf) (.node (.tuple []) .leaf .leaf)) (.node (.junk) (.node (.tuple []) .leaf .leaf) .leaf)) (.node (.int .i64 n) (.node (.junk) (.node (.tuple []) .leaf .leaf) (.node (.tuple []) .leaf .leaf)) (.node (.junk) (.node (.tuple []) .leaf .leaf) .leaf))) (.node (.int .i64 lo) (.node (.tuple []) (.node (.junk) (.node (.tuple []) .leaf .leaf) (.node (.tuple []) .leaf .leaf)) (.node (.junk) (.node (.tuple []) .leaf .leaf) .leaf)) (.node (.int .i64 A) (.node (.junk) (.node (.tuple []) .leaf .leaf) .leaf) (.node (.tuple []) (.node (.tuple []) .leaf .leaf) .leaf)))) (.node (.int .i64 0) (.node (.int .i64 0) (.node (.junk) (.node (.junk) (.node (.tuple []) .leaf .leaf) (.node (.tuple []) .leaf .leaf)) (.node (.junk) (.node (.tuple []) .leaf .leaf) .leaf)) (.node (.int .i64 719162) (.node (.junk) (.node (.tuple []) .leaf .leaf) .leaf) (.node (.tuple []) (.node (.tuple []) .leaf .leaf) .leaf))) (.node (.int .i64 hi) (.node (.tuple []) (.node (.junk) (.node (.tuple []) .leaf .leaf) (.node (.tuple []) .leaf .leaf)) (.node (.junk) (.node (.tuple []) .leaf .leaf) .leaf)) (.node (.junk) (.node (.junk) (.node (.tuple []) .leaf .leaf) .leaf) (.node (.tuple []) (.node (.tuple []) .leaf .leaf) .leaf))))), [], []⟩
def of_0 (n A lo hi : Int) : Int := (IntKind.wrap .i64 (hi - lo))
def of_1 (n A lo hi : Int) : Bool := (decide (((of_0 n A lo hi) : Int) > 1))
def of_2 (n A lo hi : Int) : Int := (IntKind.wrap .i64 (lo + hi))
def of_3 (n A lo hi : Int) : Bool := (decide (((Cal.yr ((of_2 n A lo hi) / 2)) : Int) ≤ A))
theorem of (n A lo hi : Int) (x : X) (S' : St) (hj : LoopOK PR E1 (lc 22 0) (ofL n A ((of_2 n A lo hi) / 2) hi) x S') (o0 : (of_3 n A lo hi) = true) (o1 : Sm 44 [.int .i64 ((of_2 n A lo hi) / 2)] (.int .i64 (Cal.yr ((of_2 n A lo hi) / 2)))) (o2 : Sm 45 [.int .i64 (of_2 n A lo hi), .int .i64 2] (.int .i64 ((of_2 n A lo hi) / 2))) (o3 : (of_1 n A lo hi) = true) :
    LoopOK PR E1 (lc 22 0) (ofL n A lo hi) x S' :=
  LoopOK.of (n := 3) (scr := [.auto 1, .br true, .ret (.int .i64 ((of_2 n A lo hi) / 2)) [], .ret (.int .i64 (Cal.yr ((of_2 n A lo hi) / 2))) [], .br true, .jump x S']) (rest := [])
    (obs := [LoopOK PR E1 (lc 22 0) ⟨(.node (.int .i64 n) (.node (.tuple []) (.node (.int .i64 0) (.node (.int .i64 A) (.node (.int .i64 lo) (.node (.tuple []) .leaf .leaf) (.node (.tuple []) .leaf .leaf)) (.node (.int .i64 (Cal.yr ((of_2 n A lo hi) / 2))) (.node (.tuple []) .leaf .leaf) .leaf)) (.node (.int .i64 n) (.node (.int .i64 hi) (.node (.tuple []) .leaf .leaf) (.node (.tuple []) .leaf .leaf)) (.node (.junk) (.node (.tuple []) .leaf .leaf) .leaf))) (.node (.int .i64 ((of_2 n A lo hi) / 2)) (.node (.tuple []) (.node (.bool (of_1 n A lo hi)) (.node (.tuple []) .leaf .leaf) (.node (.tuple []) .leaf .leaf)) (.node (.bool (of_3 n A lo hi)) (.node (.tuple []) .leaf .leaf) .leaf)) (.node (.int .i64 A) (.node (.int .i64 ((of_2 n A lo hi) / 2)) (.node (.tuple []) .leaf .leaf) .leaf) (.node (.tuple []) (.node (.tuple []) .leaf .leaf) .leaf)))) (.node (.int .i64 0) (.node (.int .i64 0) (.node (.int .i64 ((of_2 n A lo hi) / 2)) (.node (.int .i64 (of_0 n A lo hi)) (.node (.tuple []) .leaf .leaf) (.node (.tuple []) .leaf .leaf)) (.node (.int .i64 A) (.node (.tuple []) .leaf .leaf) .leaf)) (.node (.int .i64 719162) (.node (.int .i64 (of_2 n A lo hi)) (.node (.tuple []) .leaf .leaf) .leaf) (.node (.tuple []) (.node (.tuple []) .leaf .leaf) .leaf))) (.node (.int .i64 hi) (.node (.tuple []) (.node (.int .i64 lo) (.node (.tuple []) .leaf .leaf) (.node (.tuple []) .leaf .leaf)) (.node (.int .i64 ((of_2 n A lo hi) / 2)) (.node (.tuple []) .leaf .leaf) .leaf)) (.node (.int .i64 hi) (.node (.int .i64 ((of_2 n A lo hi) / 2)) (.node (.tuple []) .leaf .leaf) .leaf) (.node (.tuple []) (.node (.tuple []) .leaf .leaf) .leaf))))), [], []⟩ x S',
      (of_3 n A lo hi) = true,
      OK PR E1 44 [.int .i64 ((of_2 n A lo hi) / 2)] [] (.int .i64 (Cal.yr ((of_2 n A lo hi) / 2))) [],
      OK PR E1 45 [.int .i64 (of_2 n A lo hi), .int .i64 2] [] (.int .i64 ((of_2 n A lo hi) / 2)) [],
      (of_1 n A lo hi) = true]) (by kernel_rfl) (by kernel_rfl) ⟨LoopOK.junk [8, 14, 15, 16, 17, 18, 19, 20, 21, 22, 23, 24, 25, 26, 27] hj, o0, o1.e1, o2.e1, o3, trivial⟩
def of1_0 (n A lo hi : Int) : Int := (IntKind.wrap .i64 (hi - lo))
def of1_1 (n A lo hi : Int) : Bool := (decide (((of1_0 n A lo hi) : Int) > 1))
def of1_2 (n A lo hi : Int) : Int := (IntKind.wrap .i64 (lo + hi))
def of1_3 (n A lo hi : Int) : Bool := (decide (((Cal.yr ((of1_2 n A lo hi) / 2)) : Int) ≤ A))
theorem of1 (n A lo hi : Int) (x : X) (S' : St) (hj : LoopOK PR E1 (lc 22 0) (ofL n A lo ((of1_2 n A lo hi) / 2)) x S') (o0 : (of1_3 n A lo hi) = false) (o1 : Sm 44 [.int .i64 ((of1_2 n A lo hi) / 2)] (.int .i64 (Cal.yr ((of1_2 n A lo hi) / 2)))) (o2 : Sm 45 [.int .i64 (of1_2 n A lo hi), .int .i64 2] (.int .i64 ((of1_2 n A lo hi) / 2))) (o3 : (of1_1 n A lo hi) = true) :
    LoopOK PR E1 (lc 22 0) (ofL n A lo hi) x S' :=
  LoopOK.of (n := 3) (scr := [.auto 1, .br true, .ret (.int .i64 ((of1_2 n A lo hi) / 2)) [], .ret (.int .i64 (Cal.yr ((of1_2 n A lo hi) / 2))) [], .br false, .jump x S']) (rest := [])
    (obs := [LoopOK PR E1 (lc 22 0) ⟨(.node (.int .i64 n) (.node (.tuple []) (.node (.int .i64 0) (.node (.int .i64 A) (.node (.int .i64 lo) (.node (.tuple []) .leaf .leaf) (.node (.tuple []) .leaf .leaf)) (.node (.int .i64 (Cal.yr ((of1_2 n A lo hi) / 2))) (.node (.tuple []) .leaf .leaf) .leaf)) (.node (.int .i64 n) (.node (.int .i64 hi) (.node (.tuple []) .leaf .leaf) (.node (.tuple []) .leaf .leaf)) (.node (.int .i64 ((of1_2 n A lo hi) / 2)) (.node (.tuple []) .leaf .leaf) .leaf))) (.node (.int .i64 lo) (.node (.tuple []) (.node (.bool (of1_1 n A lo hi)) (.node (.tuple []) .leaf .leaf) (.node (.tuple []) .leaf .leaf)) (.node (.bool (of1_3 n A lo hi)) (.node (.tuple []) .leaf .leaf) .leaf)) (.node (.int .i64 A) (.node (.int .i64 ((of1_2 n A lo hi) / 2)) (.node (.tuple []) .leaf .leaf) .leaf) (.node (.tuple []) (.node (.tuple []) .leaf .leaf) .leaf)))) (.node (.int .i64 0) (.node (.int .i64 0) (.node (.int .i64 ((of1_2 n A lo hi) / 2)) (.node (.int .i64 (of1_0 n A lo hi)) (.node (.tuple []) .leaf .leaf) (.node (.tuple []) .leaf .leaf)) (.node (.int .i64 A) (.node (.tuple []) .leaf .leaf) .leaf)) (.node (.int .i64 719162) (.node (.int .i64 (of1_2 n A lo hi)) (.node (.tuple []) .leaf .leaf) .leaf) (.node (.tuple []) (.node (.tuple []) .leaf .leaf) .leaf))) (.node (.int .i64 ((of1_2 n A lo hi) / 2)) (.node (.tuple []) (.node (.int .i64 lo) (.node (.tuple []) .leaf .leaf) (.node (.tuple []) .leaf .leaf)) (.node (.junk) (.node (.tuple []) .leaf .leaf) .leaf)) (.node (.int .i64 hi) (.node (.int .i64 ((of1_2 n A lo hi) / 2)) (.node (.tuple []) .leaf .leaf) .leaf) (.node (.tuple []) (.node (.tuple []) .leaf .leaf) .leaf))))), [], []⟩ x S',
      (of1_3 n A lo hi) = false,
      OK PR E1 44 [.int .i64 ((of1_2 n A lo hi) / 2)] [] (.int .i64 (Cal.yr ((of1_2 n A lo hi) / 2))) [],
      OK PR E1 45 [.int .i64 (of1_2 n A lo hi), .int .i64 2] [] (.int .i64 ((of1_2 n A lo hi) / 2)) [],
      (of1_1 n A lo hi) = true]) (by kernel_rfl) (by kernel_rfl) ⟨LoopOK.junk [8, 14, 15, 16, 17, 18, 19, 20, 21, 22, 23, 24, 25, 26, 27] hj, o0, o1.e1, o2.e1, o3, trivial⟩
def of2_0 (n A lo hi : Int) : Int := (IntKind.wrap .i64 (hi - lo))
def of2_1 (n A lo hi : Int) : Bool := (decide (((of2_0 n A lo hi) : Int) > 1))
def of2X (n : Int) (A : Int) (lo : Int) (hi : Int) : St := ⟨(.node (.int .i64 n) (.node (.tuple []) (.node (.int .i64 0) (.node (.int .i64 A) (.node (.junk) (.node (.tuple []) .leaf .leaf) (.node (.tuple []) .leaf .leaf)) (.node (.junk) (.node (.tuple []) .leaf .leaf) .leaf)) (.node (.int .i64 n) (.node (.junk) (.node (.tuple []) .leaf .leaf) (.node (.tuple []) .leaf .leaf)) (.node (.junk) (.node (.tuple []) .leaf .leaf) .leaf))) (.node (.int .i64 lo) (.node (.tuple []) (.node (.junk) (.node (.tuple []) .leaf .leaf) (.node (.tuple []) .leaf .leaf)) (.node (.junk) (.node (.tuple []) .leaf .leaf) .leaf)) (.node (.int .i64 A) (.node (.junk) (.node (.tuple []) .leaf .leaf) .leaf) (.node (.tuple []) (.node (.tuple []) .leaf .leaf) .leaf)))) (.node (.int .i64 0) (.node (.int .i64 0) (.node (.junk) (.node (.junk) (.node (.tuple []) .leaf .leaf) (.node (.tuple []) .leaf .leaf)) (.node (.junk) (.node (.tuple []) .leaf .leaf) .leaf)) (.node (.int .i64 719162) (.node (.junk) (.node (.tuple []) .leaf .leaf) .leaf) (.node (.tuple []) (.node (.tuple []) .leaf .leaf) .leaf))) (.node (.int .i64 hi) (.node (.tuple []) (.node (.junk) (.node (.tuple []) .leaf .leaf) (.node (.tuple []) .leaf .leaf)) (.node (.junk) (.node (.tuple []) .leaf .leaf) .leaf)) (.node (.junk) (.node (.junk) (.node (.tuple []) .leaf .leaf) .leaf) (.node (.tuple []) (.node (.tuple []) .leaf .leaf) .leaf))))), [], []⟩
theorem of2 (n A lo hi : Int) (o0 : (of2_1 n A lo hi) = false) :
    LoopOK PR E1 (lc 22 0) (ofL n A lo hi) (.exit 0) (of2X n A lo hi) :=
  LoopOK.junk' [8, 14, 15, 16, 17, 18, 19, 20, 21, 22, 23, 24, 25, 26, 27] (S' := ⟨(.node (.int .i64 n) (.node (.tuple []) (.node (.int .i64 0) (.node (.int .i64 A) (.node (.int .i64 lo) (.node (.tuple []) .leaf .leaf) (.node (.tuple []) .leaf .leaf)) (.node (.junk) (.node (.tuple []) .leaf .leaf) .leaf)) (.node (.int .i64 n) (.node (.junk) (.node (.tuple []) .leaf .leaf) (.node (.tuple []) .leaf .leaf)) (.node (.junk) (.node (.tuple []) .leaf .leaf) .leaf))) (.node (.int .i64 lo) (.node (.tuple []) (.node (.bool (of2_1 n A lo hi)) (.node (.tuple []) .leaf .leaf) (.node (.tuple []) .leaf .leaf)) (.node (.junk) (.node (.tuple []) .leaf .leaf) .leaf)) (.node (.int .i64 A) (.node (.junk) (.node (.tuple []) .leaf .leaf) .leaf) (.node (.tuple []) (.node (.tuple []) .leaf .leaf) .leaf)))) (.node (.int .i64 0) (.node (.int .i64 0) (.node (.junk) (.node (.int .i64 (of2_0 n A lo hi)) (.node (.tuple []) .leaf .leaf) (.node (.tuple []) .leaf .leaf)) (.node (.junk) (.node (.tuple []) .leaf .leaf) .leaf)) (.node (.int .i64 719162) (.node (.junk) (.node (.tuple []) .leaf .leaf) .leaf) (.node (.tuple []) (.node (.tuple []) .leaf .leaf) .leaf))) (.node (.int .i64 hi) (.node (.tuple []) (.node (.junk) (.node (.tuple []) .leaf .leaf) (.node (.tuple []) .leaf .leaf)) (.node (.junk) (.node (.tuple []) .leaf .leaf) .leaf)) (.node (.int .i64 hi) (.node (.junk) (.node (.tuple []) .leaf .leaf) .leaf) (.node (.tuple []) (.node (.tuple []) .leaf .leaf) .leaf))))), [], []⟩) (LoopOK.of (n := 3) (scr := [.auto 1, .br false]) (rest := [])
    (obs := [(of2_1 n A lo hi) = false]) (by kernel_rfl) (by kernel_rfl) ⟨o0, trivial⟩)
end Go.Proofs.YtmekaipcoghlfaaGreatDoor
end
