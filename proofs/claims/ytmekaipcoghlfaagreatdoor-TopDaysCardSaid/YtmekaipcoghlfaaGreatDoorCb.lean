/-
  Part of the proof of TopDays: lemmas that the others lean on.
-/
import Derived.Test.YtmekaipcoghlfaaGreatDoorBase
import Derived.Test.YtmekaipcoghlfaaGreatDoorCa
import Derived.Laws.Bits64
set_option linter.all false
set_option linter.unusedVariables false
set_option linter.unusedSimpArgs false
noncomputable section
namespace Go.Proofs.YtmekaipcoghlfaaGreatDoor
open Go Go.Am Go.Proofs
theorem wrapI {n : Int} (h0 : -9223372036854775808 ≤ n) (h1 : n ≤ 9223372036854775807) : IntKind.wrap .i64 n = n := by rw [IntKind.wrap_i64]; omega
theorem wrapU {n : Int} (h0 : 0 ≤ n) (h1 : n ≤ 18446744073709551615) : IntKind.wrap .u64 n = n := by rw [IntKind.wrap_u64]; omega
theorem Sm.cast {f : Nat} {args : List AV} {v v' : AV} (hs : Sm f args v) (h : v = v') : Sm f args v' := h ▸ hs
theorem tmod0 (a : Int) (b : Int) : (((Int.tmod a b) : Int) == 0) = decide (a % b = 0) := by
  rw [Bool.eq_iff_iff]
  simp [← Int.dvd_iff_tmod_eq_zero, ← Int.dvd_iff_emod_eq_zero]
theorem leap_ok (y : Int) : Sm 96 [.int .i64 y] (.bool (Cal.leap y)) := by
  have h4 := tmod0 y 4
  have h100 := tmod0 y 100
  have h400 := tmod0 y 400
  unfold Cal.leap
  by_cases a : y % 4 = 0
  · by_cases b : y % 100 = 0
    · refine .cast (v := .bool (((Int.tmod y 400) : Int) == 0)) ?_ (by rw [h400]; simp [a, b])
      refine .of1 (scr := [.auto 2, .br true, .auto 4, .br false]) (rest := []) (rd := [])
        (obs := [(((Int.tmod y 100) : Int) != 0) = false,
          (((Int.tmod y 4) : Int) == 0) = true]) (fun h => by kernel_rfl) ⟨?_, ?_, trivial⟩
      · rw [bne, h100]; simp [b]
      · rw [h4]; simp [a]
    · refine .cast (v := .bool true) ?_ (by simp [a, b])
      refine .of1 (scr := [.auto 2, .br true, .auto 4, .br true]) (rest := []) (rd := [])
        (obs := [(((Int.tmod y 100) : Int) != 0) = true,
          (((Int.tmod y 4) : Int) == 0) = true]) (fun h => by kernel_rfl) ⟨?_, ?_, trivial⟩
      · rw [bne, h100]; simp [b]
      · rw [h4]; simp [a]
  · refine .cast (v := .bool false) ?_ (by simp [a])
    refine .of1 (scr := [.auto 2, .br false]) (rest := []) (rd := [])
      (obs := [(((Int.tmod y 4) : Int) == 0) = false]) (fun h => by kernel_rfl) ⟨?_, trivial⟩
    rw [h4]; simp [a]
theorem len2_ok (y : Int) : Sm 73 [.int .i64 y, .int .i64 2] (.int .i64 (Cal.len y 2)) := by
  rcases hl : Cal.leap y with _ | _
  · refine .cast (v := .int .i64 28) ?_ (by simp [Cal.len, hl])
    exact .of1 (scr := [.auto 13, .ret (.bool (Cal.leap y)) [], .br false]) (rest := []) (rd := []) (obs := [Cal.leap y = false, OK PR E1 96 [.int .i64 y] [] (.bool (Cal.leap y)) []]) (fun h => by kernel_rfl) ⟨hl, (leap_ok y).e1, trivial⟩
  · refine .cast (v := .int .i64 29) ?_ (by simp [Cal.len, hl])
    exact .of1 (scr := [.auto 13, .ret (.bool (Cal.leap y)) [], .br true]) (rest := []) (rd := []) (obs := [Cal.leap y = true, OK PR E1 96 [.int .i64 y] [] (.bool (Cal.leap y)) []]) (fun h => by kernel_rfl) ⟨hl, (leap_ok y).e1, trivial⟩
theorem len_ok (y m : Int) (h1 : 1 ≤ m) (h2 : m ≤ 12) : Sm 73 [.int .i64 y, .int .i64 m] (.int .i64 (Cal.len y m)) := by
  obtain rfl | rfl | rfl | rfl | rfl | rfl | rfl | rfl | rfl | rfl | rfl | rfl : m = 1 ∨ m = 2 ∨ m = 3 ∨ m = 4 ∨ m = 5 ∨ m = 6 ∨ m = 7 ∨ m = 8 ∨ m = 9 ∨ m = 10 ∨ m = 11 ∨ m = 12 := by omega
  case inr.inl => exact len2_ok y
  all_goals exact .of1 (scr := []) (rest := []) (rd := []) (obs := []) (fun h => by kernel_rfl) trivial
/-- Which days there are, of those with a month and a day in it. -/
theorem may_ok (y m d : Int) (h1 : 1 ≤ m) (h2 : m ≤ 12) (h3 : 1 ≤ d) (h4 : d ≤ Cal.len y m) :
    Sm 41 [.agg [.int .i64 y, .int .i64 m, .int .i64 d]] (.bool (decide (-999999999 ≤ y) && decide (y ≤ 999999999))) := by
  by_cases a : -999999999 ≤ y
  · by_cases b : y ≤ 999999999
    · refine .cast (v := .bool (decide ((d : Int) ≤ (Cal.len y m)))) ?_ (by simp [a, b, h4])
      refine .of1 (scr := [.auto 2, .br true, .auto 4, .br true, .auto 4, .br true, .auto 9, .ret (.int .i64 (Cal.len y m)) []]) (rest := []) (rd := [])
        (obs := [OK PR E1 73 [.int .i64 y, .int .i64 m] [] (.int .i64 (Cal.len y m)) [],
          (decide ((d : Int) ≥ 1)) = true,
          (decide ((y : Int) ≤ 999999999)) = true,
          (decide ((y : Int) ≥ (-999999999))) = true]) (fun h => by kernel_rfl) ⟨(len_ok y m h1 h2).e1, decide_eq_true h3, decide_eq_true b, decide_eq_true a, trivial⟩
    · refine .cast (v := .bool false) ?_ (by simp [b])
      exact .of1 (scr := [.auto 2, .br true, .auto 4, .br false]) (rest := []) (rd := [])
        (obs := [(decide ((y : Int) ≤ 999999999)) = false,
          (decide ((y : Int) ≥ (-999999999))) = true]) (fun h => by kernel_rfl) ⟨decide_eq_false b, decide_eq_true a, trivial⟩
  · refine .cast (v := .bool false) ?_ (by simp [a])
    exact .of1 (scr := [.auto 2, .br false]) (rest := []) (rd := [])
      (obs := [(decide ((y : Int) ≥ (-999999999))) = false]) (fun h => by kernel_rfl) ⟨decide_eq_false a, trivial⟩
theorem may_true (y m d : Int) (h1 : 1 ≤ m) (h2 : m ≤ 12) (h3 : 1 ≤ d) (h4 : d ≤ Cal.len y m) (h5 : -999999999 ≤ y) (h6 : y ≤ 999999999) :
    Sm 41 [.agg [.int .i64 y, .int .i64 m, .int .i64 d]] (.bool true) := (may_ok y m d h1 h2 h3 h4).cast (by simp [h5, h6])


theorem tdiv_floor (a b : Int) (hb : 0 < b) : Int.tdiv a b = if Int.tmod a b < 0 then a / b + 1 else a / b := by
  have h1 := Int.emod_nonneg a (show b ≠ 0 by omega)
  have h2 := Int.emod_lt_of_pos a hb
  by_cases h : 0 ≤ a ∨ b ∣ a
  · rw [Int.tdiv_eq_ediv, if_pos h, Int.tmod_eq_emod, if_pos h, if_neg (by omega)]; omega
  · rw [Int.tdiv_eq_ediv, if_neg h, Int.tmod_eq_emod, if_neg h, Int.sign_eq_one_of_pos hb, if_pos (by omega)]

theorem cfloor_ok (a b : Int) (hb : 0 < b) (h0 : -9000000000000000000 ≤ a / b) (h1 : a / b ≤ 9000000000000000000) : Sm 571 [.int .i64 a, .int .i64 b] (.int .i64 (a / b)) := by
  have hd : Int.tdiv a b = if Int.tmod a b < 0 then a / b + 1 else a / b := tdiv_floor a b hb
  have hne : (decide ((b : Int) ≠ 0)) = true := decide_eq_true (by omega)
  by_cases hm : Int.tmod a b < 0
  · rw [if_pos hm] at hd
    refine .cast (v := .int .i64 (IntKind.wrap .i64 (IntKind.wrap .i64 (Int.tdiv a b) - 1))) ?_ (by rw [hd, wrapI (n := a / b + 1) (by omega) (by omega), wrapI (by omega) (by omega)]; congr 1; omega)
    exact .of1 (scr := [.auto 1, .ob, .ob, .br true]) (rest := []) (rd := [])
      (obs := [decide ((Int.tmod a b : Int) < 0) = true, (decide ((b : Int) ≠ 0)) = true, (decide ((b : Int) ≠ 0)) = true]) (fun h => by kernel_rfl) ⟨decide_eq_true hm, hne, hne, trivial⟩
  · rw [if_neg hm] at hd
    refine .cast (v := .int .i64 (IntKind.wrap .i64 (Int.tdiv a b))) ?_ (by rw [hd, wrapI (by omega) (by omega)])
    exact .of1 (scr := [.auto 1, .ob, .ob, .br false]) (rest := []) (rd := [])
      (obs := [decide ((Int.tmod a b : Int) < 0) = false, (decide ((b : Int) ≠ 0)) = true, (decide ((b : Int) ≠ 0)) = true]) (fun h => by kernel_rfl) ⟨decide_eq_false hm, hne, hne, trivial⟩

theorem rfloor_ok (a b : Int) (hb : 0 < b) (h0 : -9000000000000000000 ≤ a / b) (h1 : a / b ≤ 9000000000000000000) : Sm 45 [.int .i64 a, .int .i64 b] (.int .i64 (a / b)) := by
  have hd : Int.tdiv a b = if Int.tmod a b < 0 then a / b + 1 else a / b := tdiv_floor a b hb
  have hne : (decide ((b : Int) ≠ 0)) = true := decide_eq_true (by omega)
  by_cases hm : Int.tmod a b < 0
  · rw [if_pos hm] at hd
    refine .cast (v := .int .i64 (IntKind.wrap .i64 (IntKind.wrap .i64 (Int.tdiv a b) - 1))) ?_ (by rw [hd, wrapI (n := a / b + 1) (by omega) (by omega), wrapI (by omega) (by omega)]; congr 1; omega)
    exact .of1 (scr := [.auto 1, .ob, .ob, .br true]) (rest := []) (rd := [])
      (obs := [decide ((Int.tmod a b : Int) < 0) = true, (decide ((b : Int) ≠ 0)) = true, (decide ((b : Int) ≠ 0)) = true]) (fun h => by kernel_rfl) ⟨decide_eq_true hm, hne, hne, trivial⟩
  · rw [if_neg hm] at hd
    refine .cast (v := .int .i64 (IntKind.wrap .i64 (Int.tdiv a b))) ?_ (by rw [hd, wrapI (by omega) (by omega)])
    exact .of1 (scr := [.auto 1, .ob, .ob, .br false]) (rest := []) (rd := [])
      (obs := [decide ((Int.tmod a b : Int) < 0) = false, (decide ((b : Int) ≠ 0)) = true, (decide ((b : Int) ≠ 0)) = true]) (fun h => by kernel_rfl) ⟨decide_eq_false hm, hne, hne, trivial⟩

def number_0 (y m d : Int) : Int := (IntKind.wrap .i64 (y - 1))
def number_1 (y m d : Int) : Int := (IntKind.wrap .i64 (m + 12))
def number_2 (y m d : Int) : Int := (IntKind.wrap .i64 (400 * ((number_0 y m d) / 400)))
def number_3 (y m d : Int) : Int := (IntKind.wrap .i64 ((number_0 y m d) - (number_2 y m d)))
def number_4 (y m d : Int) : Int := (IntKind.wrap .i64 ((number_1 y m d) - 3))
def number_5 (y m d : Int) : Int := (IntKind.wrap .i64 (153 * (number_4 y m d)))
def number_6 (y m d : Int) : Int := (IntKind.wrap .i64 ((number_5 y m d) + 2))
def number_7 (y m d : Int) : Int := (IntKind.wrap .i64 (Int.tdiv (number_6 y m d) 5))
def number_8 (y m d : Int) : Int := (IntKind.wrap .i64 ((number_7 y m d) + d))
def number_9 (y m d : Int) : Int := (IntKind.wrap .i64 ((number_8 y m d) - 1))
def number_10 (y m d : Int) : Int := (IntKind.wrap .i64 (146097 * ((number_0 y m d) / 400)))
def number_11 (y m d : Int) : Int := (IntKind.wrap .i64 (365 * (number_3 y m d)))
def number_12 (y m d : Int) : Int := (IntKind.wrap .i64 ((number_10 y m d) + (number_11 y m d)))
def number_13 (y m d : Int) : Int := (IntKind.wrap .i64 (Int.tdiv (number_3 y m d) 4))
def number_14 (y m d : Int) : Int := (IntKind.wrap .i64 ((number_12 y m d) + (number_13 y m d)))
def number_15 (y m d : Int) : Int := (IntKind.wrap .i64 (Int.tdiv (number_3 y m d) 100))
def number_16 (y m d : Int) : Int := (IntKind.wrap .i64 ((number_14 y m d) - (number_15 y m d)))
def number_17 (y m d : Int) : Int := (IntKind.wrap .i64 ((number_16 y m d) + (number_9 y m d)))
def number_18 (y m d : Int) : Int := (IntKind.wrap .i64 ((number_17 y m d) - 719468))
theorem number_ok (y m d : Int) (h1 : 1 ≤ m) (h2 : m ≤ 12) (h3 : 1 ≤ d) (h4 : d ≤ Cal.len y m) (h5 : -999999999 ≤ y) (h6 : y ≤ 999999999) (hm : m ≤ 2) : Sm 507 [.agg [.int .i64 y, .int .i64 m, .int .i64 d]] (.tuple [.int .i64 (Cal.num y m d), .bool true]) := by
  have hl := Cal.len_bd y m
  have e_number_0 : number_0 y m d = (y - 1) := wrapI (by omega) (by omega)
  have e_number_1 : number_1 y m d = (m + 12) := wrapI (by omega) (by omega)
  have e_number_2 : number_2 y m d = (400 * ((number_0 y m d) / 400)) := wrapI (by omega) (by omega)
  have e_number_3 : number_3 y m d = ((number_0 y m d) - (number_2 y m d)) := wrapI (by omega) (by omega)
  have e_number_4 : number_4 y m d = ((number_1 y m d) - 3) := wrapI (by omega) (by omega)
  have e_number_5 : number_5 y m d = (153 * (number_4 y m d)) := wrapI (by omega) (by omega)
  have e_number_6 : number_6 y m d = ((number_5 y m d) + 2) := wrapI (by omega) (by omega)
  have e_number_7 : number_7 y m d = (number_6 y m d) / 5 := (congrArg _ (tdivI (by omega) (by omega))).trans (wrapI (by omega) (by omega))
  have e_number_8 : number_8 y m d = ((number_7 y m d) + d) := wrapI (by omega) (by omega)
  have e_number_9 : number_9 y m d = ((number_8 y m d) - 1) := wrapI (by omega) (by omega)
  have e_number_10 : number_10 y m d = (146097 * ((number_0 y m d) / 400)) := wrapI (by omega) (by omega)
  have e_number_11 : number_11 y m d = (365 * (number_3 y m d)) := wrapI (by omega) (by omega)
  have e_number_12 : number_12 y m d = ((number_10 y m d) + (number_11 y m d)) := wrapI (by omega) (by omega)
  have e_number_13 : number_13 y m d = (number_3 y m d) / 4 := (congrArg _ (tdivI (by omega) (by omega))).trans (wrapI (by omega) (by omega))
  have e_number_14 : number_14 y m d = ((number_12 y m d) + (number_13 y m d)) := wrapI (by omega) (by omega)
  have e_number_15 : number_15 y m d = (number_3 y m d) / 100 := (congrArg _ (tdivI (by omega) (by omega))).trans (wrapI (by omega) (by omega))
  have e_number_16 : number_16 y m d = ((number_14 y m d) - (number_15 y m d)) := wrapI (by omega) (by omega)
  have e_number_17 : number_17 y m d = ((number_16 y m d) + (number_9 y m d)) := wrapI (by omega) (by omega)
  have e_number_18 : number_18 y m d = ((number_17 y m d) - 719468) := wrapI (by omega) (by omega)
  have hc : number_18 y m d = Cal.num y m d := by
    unfold Cal.num
    simp only [hm, if_true]
    have k1 : (y - 1) / 4 = 100 * ((y - 1) / 400) + ((y - 1) - 400 * ((y - 1) / 400)) / 4 := by omega
    have k2 : (y - 1) / 100 = 4 * ((y - 1) / 400) + ((y - 1) - 400 * ((y - 1) / 400)) / 100 := by omega
    simp only [e_number_0, e_number_1, e_number_2, e_number_3, e_number_4, e_number_5, e_number_6, e_number_7, e_number_8, e_number_9, e_number_10, e_number_11, e_number_12, e_number_13, e_number_14, e_number_15, e_number_16, e_number_17, e_number_18]
    have k3 : m + 12 - 3 = m + 9 := by omega
    rw [k3]
    rw [k1, k2]
    omega
  refine .cast (v := .tuple [.int .i64 (number_18 y m d), .bool true]) ?_ (by rw [hc])
  refine .of1 (scr := [.auto 2, .ret (.bool true) [], .auto 3, .br true, .ret (.int .i64 ((number_0 y m d) / 400)) []]) (rest := []) (rd := [])
    (obs := [OK PR E1 571 [.int .i64 (number_0 y m d), .int .i64 400] [] (.int .i64 ((number_0 y m d) / 400)) [],
      (decide ((m : Int) ≤ 2)) = true,
      OK PR E1 41 [.agg [.int .i64 y, .int .i64 m, .int .i64 d]] [] (.bool true) []]) (fun h => by kernel_rfl) ⟨(cfloor_ok _ _ (by omega) (by omega) (by omega)).e1, decide_eq_true hm, (may_true y m d h1 h2 h3 h4 h5 h6).e1, trivial⟩
def number1_0 (y m d : Int) : Int := (IntKind.wrap .i64 (400 * (y / 400)))
def number1_1 (y m d : Int) : Int := (IntKind.wrap .i64 (y - (number1_0 y m d)))
def number1_2 (y m d : Int) : Int := (IntKind.wrap .i64 (m - 3))
def number1_3 (y m d : Int) : Int := (IntKind.wrap .i64 (153 * (number1_2 y m d)))
def number1_4 (y m d : Int) : Int := (IntKind.wrap .i64 ((number1_3 y m d) + 2))
def number1_5 (y m d : Int) : Int := (IntKind.wrap .i64 (Int.tdiv (number1_4 y m d) 5))
def number1_6 (y m d : Int) : Int := (IntKind.wrap .i64 ((number1_5 y m d) + d))
def number1_7 (y m d : Int) : Int := (IntKind.wrap .i64 ((number1_6 y m d) - 1))
def number1_8 (y m d : Int) : Int := (IntKind.wrap .i64 (146097 * (y / 400)))
def number1_9 (y m d : Int) : Int := (IntKind.wrap .i64 (365 * (number1_1 y m d)))
def number1_10 (y m d : Int) : Int := (IntKind.wrap .i64 ((number1_8 y m d) + (number1_9 y m d)))
def number1_11 (y m d : Int) : Int := (IntKind.wrap .i64 (Int.tdiv (number1_1 y m d) 4))
def number1_12 (y m d : Int) : Int := (IntKind.wrap .i64 ((number1_10 y m d) + (number1_11 y m d)))
def number1_13 (y m d : Int) : Int := (IntKind.wrap .i64 (Int.tdiv (number1_1 y m d) 100))
def number1_14 (y m d : Int) : Int := (IntKind.wrap .i64 ((number1_12 y m d) - (number1_13 y m d)))
def number1_15 (y m d : Int) : Int := (IntKind.wrap .i64 ((number1_14 y m d) + (number1_7 y m d)))
def number1_16 (y m d : Int) : Int := (IntKind.wrap .i64 ((number1_15 y m d) - 719468))
theorem number1_ok (y m d : Int) (h1 : 1 ≤ m) (h2 : m ≤ 12) (h3 : 1 ≤ d) (h4 : d ≤ Cal.len y m) (h5 : -999999999 ≤ y) (h6 : y ≤ 999999999) (hm : ¬ m ≤ 2) : Sm 507 [.agg [.int .i64 y, .int .i64 m, .int .i64 d]] (.tuple [.int .i64 (Cal.num y m d), .bool true]) := by
  have hl := Cal.len_bd y m
  have e_number1_0 : number1_0 y m d = (400 * (y / 400)) := wrapI (by omega) (by omega)
  have e_number1_1 : number1_1 y m d = (y - (number1_0 y m d)) := wrapI (by omega) (by omega)
  have e_number1_2 : number1_2 y m d = (m - 3) := wrapI (by omega) (by omega)
  have e_number1_3 : number1_3 y m d = (153 * (number1_2 y m d)) := wrapI (by omega) (by omega)
  have e_number1_4 : number1_4 y m d = ((number1_3 y m d) + 2) := wrapI (by omega) (by omega)
  have e_number1_5 : number1_5 y m d = (number1_4 y m d) / 5 := (congrArg _ (tdivI (by omega) (by omega))).trans (wrapI (by omega) (by omega))
  have e_number1_6 : number1_6 y m d = ((number1_5 y m d) + d) := wrapI (by omega) (by omega)
  have e_number1_7 : number1_7 y m d = ((number1_6 y m d) - 1) := wrapI (by omega) (by omega)
  have e_number1_8 : number1_8 y m d = (146097 * (y / 400)) := wrapI (by omega) (by omega)
  have e_number1_9 : number1_9 y m d = (365 * (number1_1 y m d)) := wrapI (by omega) (by omega)
  have e_number1_10 : number1_10 y m d = ((number1_8 y m d) + (number1_9 y m d)) := wrapI (by omega) (by omega)
  have e_number1_11 : number1_11 y m d = (number1_1 y m d) / 4 := (congrArg _ (tdivI (by omega) (by omega))).trans (wrapI (by omega) (by omega))
  have e_number1_12 : number1_12 y m d = ((number1_10 y m d) + (number1_11 y m d)) := wrapI (by omega) (by omega)
  have e_number1_13 : number1_13 y m d = (number1_1 y m d) / 100 := (congrArg _ (tdivI (by omega) (by omega))).trans (wrapI (by omega) (by omega))
  have e_number1_14 : number1_14 y m d = ((number1_12 y m d) - (number1_13 y m d)) := wrapI (by omega) (by omega)
  have e_number1_15 : number1_15 y m d = ((number1_14 y m d) + (number1_7 y m d)) := wrapI (by omega) (by omega)
  have e_number1_16 : number1_16 y m d = ((number1_15 y m d) - 719468) := wrapI (by omega) (by omega)
  have hc : number1_16 y m d = Cal.num y m d := by
    unfold Cal.num
    simp only [hm, if_false]
    have k1 : y / 4 = 100 * (y / 400) + (y - 400 * (y / 400)) / 4 := by omega
    have k2 : y / 100 = 4 * (y / 400) + (y - 400 * (y / 400)) / 100 := by omega
    simp only [e_number1_0, e_number1_1, e_number1_2, e_number1_3, e_number1_4, e_number1_5, e_number1_6, e_number1_7, e_number1_8, e_number1_9, e_number1_10, e_number1_11, e_number1_12, e_number1_13, e_number1_14, e_number1_15, e_number1_16]
    rw [k1, k2]
    omega
  refine .cast (v := .tuple [.int .i64 (number1_16 y m d), .bool true]) ?_ (by rw [hc])
  refine .of1 (scr := [.auto 2, .ret (.bool true) [], .auto 3, .br false, .ret (.int .i64 (y / 400)) []]) (rest := []) (rd := [])
    (obs := [OK PR E1 571 [.int .i64 y, .int .i64 400] [] (.int .i64 (y / 400)) [],
      (decide ((m : Int) ≤ 2)) = false,
      OK PR E1 41 [.agg [.int .i64 y, .int .i64 m, .int .i64 d]] [] (.bool true) []]) (fun h => by kernel_rfl) ⟨(cfloor_ok _ _ (by omega) (by omega) (by omega)).e1, decide_eq_false hm, (may_true y m d h1 h2 h3 h4 h5 h6).e1, trivial⟩
theorem num_ok (y m d : Int) (h1 : 1 ≤ m) (h2 : m ≤ 12) (h3 : 1 ≤ d) (h4 : d ≤ Cal.len y m) (h5 : -999999999 ≤ y) (h6 : y ≤ 999999999) : Sm 507 [.agg [.int .i64 y, .int .i64 m, .int .i64 d]] (.tuple [.int .i64 (Cal.num y m d), .bool true]) := by
  by_cases hm : m ≤ 2
  · exact number_ok y m d h1 h2 h3 h4 h5 h6 hm
  · exact number1_ok y m d h1 h2 h3 h4 h5 h6 hm
end Go.Proofs.YtmekaipcoghlfaaGreatDoor
end
