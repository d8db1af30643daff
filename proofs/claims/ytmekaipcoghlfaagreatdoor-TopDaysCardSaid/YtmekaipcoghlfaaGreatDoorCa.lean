/-
  Part of the proof of TopDays: lemmas that the others lean on.
-/
set_option linter.all false
set_option linter.unusedVariables false
set_option linter.unusedSimpArgs false
section
namespace Cal
def leap (y : Int) : Bool := decide (y % 4 = 0) && (decide (y % 100 ≠ 0) || decide (y % 400 = 0))
def len (y m : Int) : Int := if m = 2 then (if leap y = true then 29 else 28) else if m = 4 ∨ m = 6 ∨ m = 9 ∨ m = 11 then 30 else 31
/-- A day's number, from the first of January 1970 on; the year begins in March. -/
def num (y m d : Int) : Int :=
  let z := if m ≤ 2 then y - 1 else y
  let k := if m ≤ 2 then m + 9 else m - 3
  365 * z + z / 4 - z / 100 + z / 400 + (153 * k + 2) / 5 + d - 1 - 719468
def valid (y m d : Int) : Prop := 1 ≤ m ∧ m ≤ 12 ∧ 1 ≤ d ∧ d ≤ len y m
theorem len_bd (y m : Int) : 28 ≤ len y m ∧ len y m ≤ 31 := by
  unfold len
  split
  · split <;> omega
  · split <;> omega
end Cal
namespace Go.Am
theorem tdivI {a b : Int} (h : 0 ≤ a) (hb : 0 < b) : Int.tdiv a b = a / b := Int.tdiv_eq_ediv_of_nonneg h
theorem tmodI {a b : Int} (h : 0 ≤ a) (hb : 0 < b) : Int.tmod a b = a % b := Int.tmod_eq_emod_of_nonneg h
theorem beqT {a b : Int} (h : a = b) : (a == b) = true := by simpa using h
theorem beqF {a b : Int} (h : a ≠ b) : (a == b) = false := by simpa using h
theorem bneT {a b : Int} (h : a ≠ b) : (a != b) = true := by simpa using h
theorem bneF {a b : Int} (h : a = b) : (a != b) = false := by simpa using h
end Go.Am
end
section
namespace Cal
theorem of_year0 (o : Int) (h0 : 0 ≤ o) (h1 : o ≤ 146096) : ∃ c r q y, (o = 146096 ∨ (0 ≤ c ∧ c ≤ 3 ∧ o = 36524 * c + r ∧ 0 ≤ r ∧ r ≤ 36523 ∧ q = (24 * c + r) / 1460 ∧ y = (r - q) / 365 ∧ o / 1460 = 25 * c + q ∧ o / 36524 = c ∧ o / 146096 = 0)) := by
  by_cases h : o = 146096
  · exact ⟨0, 0, 0, 0, .inl h⟩
  · refine ⟨o / 36524, o - 36524 * (o / 36524), (24 * (o / 36524) + (o - 36524 * (o / 36524))) / 1460, ((o - 36524 * (o / 36524)) - (24 * (o / 36524) + (o - 36524 * (o / 36524))) / 1460) / 365, .inr ⟨by omega, by omega, by omega, by omega, by omega, rfl, rfl, ?_, rfl, by omega⟩⟩
    have : o / 36524 = 0 ∨ o / 36524 = 1 ∨ o / 36524 = 2 ∨ o / 36524 = 3 := by omega
    rcases this with h | h | h | h <;> rw [h] <;> omega

theorem of_y4 (c r q y : Int) (h0 : 0 ≤ c) (h1 : c ≤ 3) (h2 : 0 ≤ r) (h3 : r ≤ 36523) (hq : q = (24 * c + r) / 1460) (hy : y = (r - q) / 365) :
    0 ≤ y ∧ y ≤ 99 ∧ 0 ≤ r - 365 * y - y / 4 ∧ r - 365 * y - y / 4 ≤ 365 ∧ (r - 365 * y - y / 4 = 365 → y % 4 = 3 ∧ (y = 99 → c = 3)) := by
  have : c = 0 ∨ c = 1 ∨ c = 2 ∨ c = 3 := by omega
  refine ⟨by omega, by omega, by omega, by omega, ?_⟩
  intro h
  refine ⟨by omega, ?_⟩
  intro h99
  rcases this with rfl | rfl | rfl | rfl <;> omega

/-- The year of a day in its 400 years, which begin in March; and the day in that year. -/
theorem of_year (o : Int) (h0 : 0 ≤ o) (h1 : o ≤ 146096) (Y : Int) (hY : Y = (o - o / 1460 + o / 36524 - o / 146096) / 365) :
    0 ≤ Y ∧ Y ≤ 399 ∧ 0 ≤ o - (365 * Y + Y / 4 - Y / 100) ∧ o - (365 * Y + Y / 4 - Y / 100) ≤ 365 ∧
      (o - (365 * Y + Y / 4 - Y / 100) = 365 → (Y + 1) % 4 = 0 ∧ ((Y + 1) % 100 ≠ 0 ∨ (Y + 1) % 400 = 0)) := by
  obtain ⟨c, r, q, y, rfl | ⟨a1, a2, a3, a4, a5, a6, a7, a8, a9, a10⟩⟩ := of_year0 o h0 h1
  · have : Y = 399 := by omega
    subst this
    decide
  · obtain ⟨b1, b2, b3, b4, b5⟩ := of_y4 c r q y a1 a2 a4 a5 a6 a7
    have e : Y = 100 * c + y := by rw [hY, a8, a9, a10]; omega
    have e1 : Y / 4 = 25 * c + y / 4 := by omega
    have e2 : Y / 100 = c := by omega
    have e3 : o - (365 * Y + Y / 4 - Y / 100) = r - 365 * y - y / 4 := by rw [e1, e2]; omega
    rw [e3]
    refine ⟨by omega, by omega, b3, b4, fun h => ?_⟩
    obtain ⟨c1, c2⟩ := b5 h
    refine ⟨by omega, ?_⟩
    by_cases h99 : y = 99
    · have := c2 h99
      right; omega
    · left; omega

/-- The month of a day of a year that begins in March. -/
theorem of_month (day : Int) (h0 : 0 ≤ day) (h1 : day ≤ 365) (k : Int) (hk : k = (5 * day + 2) / 153) (d : Int) (hd : d = day - (153 * k + 2) / 5 + 1) :
    0 ≤ k ∧ k ≤ 11 ∧ 1 ≤ d ∧ d ≤ 31 ∧ ((k = 1 ∨ k = 3 ∨ k = 6 ∨ k = 8) → d ≤ 30) ∧ (k = 11 → d ≤ 29) ∧ (k = 11 → d = 29 → day = 365) := by
  have : k = 0 ∨ k = 1 ∨ k = 2 ∨ k = 3 ∨ k = 4 ∨ k = 5 ∨ k = 6 ∨ k = 7 ∨ k = 8 ∨ k = 9 ∨ k = 10 ∨ k = 11 := by omega
  rcases this with h | h | h | h | h | h | h | h | h | h | h | h <;> subst h <;> refine ⟨by omega, by omega, by omega, by omega, ?_, ?_, ?_⟩ <;> intros <;> omega
theorem leap_iff (y : Int) : leap y = true ↔ y % 4 = 0 ∧ (y % 100 ≠ 0 ∨ y % 400 = 0) := by
  unfold leap
  simp

theorem of_day (N era o Y day k d : Int) (he : era = N / 146097) (ho : o = N - 146097 * era) (hY : Y = (o - o / 1460 + o / 36524 - o / 146096) / 365)
    (hday : day = o - (365 * Y + Y / 4 - Y / 100)) (hk : k = (5 * day + 2) / 153) (hd : d = day - (153 * k + 2) / 5 + 1) :
    (0 ≤ Y ∧ Y ≤ 399 ∧ 0 ≤ day ∧ day ≤ 365 ∧ 0 ≤ k ∧ k ≤ 11 ∧ 1 ≤ d ∧ d ≤ 31) ∧
    (k + 3 > 12 → valid (400 * era + Y + 1) (k + 3 - 12) d ∧ num (400 * era + Y + 1) (k + 3 - 12) d = N - 719468) ∧
    (¬ k + 3 > 12 → valid (400 * era + Y) (k + 3) d ∧ num (400 * era + Y) (k + 3) d = N - 719468) := by
  have o0 : 0 ≤ o := by omega
  have o1 : o ≤ 146096 := by omega
  obtain ⟨y0, y1, y2, y3, y4⟩ := of_year o o0 o1 Y hY
  rw [← hday] at y2 y3 y4
  obtain ⟨k0, k1, d0, d1, d2, d3, d4⟩ := of_month day y2 y3 k hk d hd
  have q4 : (400 * era + Y) / 4 = 100 * era + Y / 4 := by omega
  have q100 : (400 * era + Y) / 100 = 4 * era + Y / 100 := by omega
  have q400 : (400 * era + Y) / 400 = era := by omega
  refine ⟨⟨y0, y1, y2, y3, k0, k1, d0, d1⟩, fun hm => ⟨⟨by omega, by omega, d0, ?_⟩, ?_⟩, fun hm => ⟨⟨by omega, by omega, d0, ?_⟩, ?_⟩⟩
  · unfold len
    by_cases h : k + 3 - 12 = 2
    · rw [if_pos h]
      by_cases hl : leap (400 * era + Y + 1) = true
      · rw [if_pos hl]; exact d3 (by omega)
      · rw [if_neg hl]
        have h29 := d3 (by omega)
        by_cases h' : d = 29
        · exfalso
          have := y4 (d4 (by omega) h')
          exact hl ((leap_iff _).2 ⟨by omega, by omega⟩)
        · omega
    · rw [if_neg h, if_neg (by omega)]; exact d1
  · unfold num
    have h2 : k + 3 - 12 ≤ 2 := by omega
    simp only [h2, if_true]
    have z : 400 * era + Y + 1 - 1 = 400 * era + Y := by omega
    have kk : k + 3 - 12 + 9 = k := by omega
    rw [z, kk, q4, q100, q400]
    omega
  · unfold len
    rw [if_neg (by omega)]
    split
    · exact d2 (by omega)
    · exact d1
  · unfold num
    have h2 : ¬ k + 3 ≤ 2 := by omega
    simp only [h2, if_false]
    have kk : k + 3 - 3 = k := by omega
    rw [kk, q4, q100, q400]
    omega

/-- Two days of one number are one day. -/
theorem len_pos (y m : Int) : 28 ≤ len y m := (len_bd y m).1
end Cal
end
section
namespace Cal
/-- How many days lie between the first of January of the year 1 and that of a year. -/
def yr (y : Int) : Int := 365 * (y - 1) + (y - 1) / 4 - (y - 1) / 100 + (y - 1) / 400
/-- A day's place in its year. -/
def yd (y m d : Int) : Int := d + (if m = 1 then 0 else if m = 2 then 31 else if m = 3 then 59 else if m = 4 then 90 else if m = 5 then 120 else if m = 6 then 151 else if m = 7 then 181 else if m = 8 then 212 else if m = 9 then 243 else if m = 10 then 273 else if m = 11 then 304 else 334) + (if m > 2 then (if leap y = true then 1 else 0) else 0)
theorem yr_leap (y : Int) : y / 4 - y / 100 + y / 400 = (y - 1) / 4 - (y - 1) / 100 + (y - 1) / 400 + (if leap y = true then 1 else 0) := by
  by_cases h : leap y = true
  · rw [if_pos h]
    obtain ⟨a, b⟩ := (leap_iff y).1 h
    omega
  · rw [if_neg h]
    have : ¬ (y % 4 = 0 ∧ (y % 100 ≠ 0 ∨ y % 400 = 0)) := fun h' => h ((leap_iff y).2 h')
    omega
theorem num_yd (y m d : Int) (h1 : 1 ≤ m) (h2 : m ≤ 12) : yr y + yd y m d - 1 - 719162 = num y m d := by
  have hy := yr_leap y
  have : m = 1 ∨ m = 2 ∨ m = 3 ∨ m = 4 ∨ m = 5 ∨ m = 6 ∨ m = 7 ∨ m = 8 ∨ m = 9 ∨ m = 10 ∨ m = 11 ∨ m = 12 := by omega
  generalize hl : (if leap y = true then (1 : Int) else 0) = l at hy
  unfold yr yd num
  rw [hl]
  rcases this with h | h | h | h | h | h | h | h | h | h | h | h <;> subst h <;> simp <;> omega
end Cal
end
