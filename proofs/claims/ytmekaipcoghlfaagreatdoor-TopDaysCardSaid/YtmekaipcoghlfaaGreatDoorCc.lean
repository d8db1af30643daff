/-
  Part of the proof of TopDays: lemmas that the others lean on.
-/
import Derived.Test.YtmekaipcoghlfaaGreatDoorCb
import Derived.Test.YtmekaipcoghlfaaGreatDoorCa
set_option linter.all false
set_option linter.unusedVariables false
set_option linter.unusedSimpArgs false
noncomputable section
namespace Go.Proofs.YtmekaipcoghlfaaGreatDoor
open Go Go.Am Go.Proofs

def cof_0 (n : Int) : Bool := (decide ((n : Int) < (-400000000000)))
def cof_1 (n : Int) : Int := (IntKind.wrap .i64 (n + 719468))
def cof_2 (n : Int) : Int := (IntKind.wrap .i64 (146097 * ((cof_1 n) / 146097)))
def cof_3 (n : Int) : Int := (IntKind.wrap .i64 ((cof_1 n) - (cof_2 n)))
def cof_4 (n : Int) : Int := (IntKind.wrap .i64 (Int.tdiv (cof_3 n) 1460))
def cof_5 (n : Int) : Int := (IntKind.wrap .i64 ((cof_3 n) - (cof_4 n)))
def cof_6 (n : Int) : Int := (IntKind.wrap .i64 (Int.tdiv (cof_3 n) 36524))
def cof_7 (n : Int) : Int := (IntKind.wrap .i64 ((cof_5 n) + (cof_6 n)))
def cof_8 (n : Int) : Int := (IntKind.wrap .i64 (Int.tdiv (cof_3 n) 146096))
def cof_9 (n : Int) : Int := (IntKind.wrap .i64 ((cof_7 n) - (cof_8 n)))
def cof_10 (n : Int) : Int := (IntKind.wrap .i64 (Int.tdiv (cof_9 n) 365))
def cof_11 (n : Int) : Int := (IntKind.wrap .i64 (365 * (cof_10 n)))
def cof_12 (n : Int) : Int := (IntKind.wrap .i64 (Int.tdiv (cof_10 n) 4))
def cof_13 (n : Int) : Int := (IntKind.wrap .i64 ((cof_11 n) + (cof_12 n)))
def cof_14 (n : Int) : Int := (IntKind.wrap .i64 (Int.tdiv (cof_10 n) 100))
def cof_15 (n : Int) : Int := (IntKind.wrap .i64 ((cof_13 n) - (cof_14 n)))
def cof_16 (n : Int) : Int := (IntKind.wrap .i64 ((cof_3 n) - (cof_15 n)))
def cof_17 (n : Int) : Int := (IntKind.wrap .i64 (5 * (cof_16 n)))
def cof_18 (n : Int) : Int := (IntKind.wrap .i64 ((cof_17 n) + 2))
def cof_19 (n : Int) : Int := (IntKind.wrap .i64 (Int.tdiv (cof_18 n) 153))
def cof_20 (n : Int) : Int := (IntKind.wrap .i64 (400 * ((cof_1 n) / 146097)))
def cof_21 (n : Int) : Int := (IntKind.wrap .i64 ((cof_20 n) + (cof_10 n)))
def cof_22 (n : Int) : Int := (IntKind.wrap .i64 ((cof_19 n) + 3))
def cof_23 (n : Int) : Int := (IntKind.wrap .i64 (153 * (cof_19 n)))
def cof_24 (n : Int) : Int := (IntKind.wrap .i64 ((cof_23 n) + 2))
def cof_25 (n : Int) : Int := (IntKind.wrap .i64 (Int.tdiv (cof_24 n) 5))
def cof_26 (n : Int) : Int := (IntKind.wrap .i64 ((cof_16 n) - (cof_25 n)))
def cof_27 (n : Int) : Int := (IntKind.wrap .i64 ((cof_26 n) + 1))
def cof_28 (n : Int) : Int := (IntKind.wrap .i64 ((cof_21 n) + 1))
def cof_29 (n : Int) : Int := (IntKind.wrap .i64 ((cof_22 n) - 12))
/-- Which years there are. -/
def yearB (y : Int) : Bool := decide (-999999999 ≤ y) && decide (y ≤ 999999999)
theorem cofin_ok (n : Int) (h0 : -400000000000 ≤ n) (h1 : n ≤ 400000000000) : ∃ y m d, Cal.valid y m d ∧ Cal.num y m d = n ∧ -2000000000 ≤ y ∧ y ≤ 2000000000 ∧
    Sm 596 [.int .i64 n] (if yearB y = true then .tuple [.agg [.int .i64 y, .int .i64 m, .int .i64 d], .bool true] else .tuple [.agg [.int .i64 0, .int .i64 0, .int .i64 0], .bool false]) := by
  have e_cof_1 : cof_1 n = (n + 719468) := wrapI (by omega) (by omega)
  have e_cof_2 : cof_2 n = (146097 * ((cof_1 n) / 146097)) := wrapI (by omega) (by omega)
  have e_cof_3 : cof_3 n = ((cof_1 n) - (cof_2 n)) := wrapI (by omega) (by omega)
  have e_cof_4 : cof_4 n = (cof_3 n) / 1460 := (congrArg _ (tdivI (by omega) (by omega))).trans (wrapI (by omega) (by omega))
  have e_cof_5 : cof_5 n = ((cof_3 n) - (cof_4 n)) := wrapI (by omega) (by omega)
  have e_cof_6 : cof_6 n = (cof_3 n) / 36524 := (congrArg _ (tdivI (by omega) (by omega))).trans (wrapI (by omega) (by omega))
  have e_cof_7 : cof_7 n = ((cof_5 n) + (cof_6 n)) := wrapI (by omega) (by omega)
  have e_cof_8 : cof_8 n = (cof_3 n) / 146096 := (congrArg _ (tdivI (by omega) (by omega))).trans (wrapI (by omega) (by omega))
  have e_cof_9 : cof_9 n = ((cof_7 n) - (cof_8 n)) := wrapI (by omega) (by omega)
  have e_cof_10 : cof_10 n = (cof_9 n) / 365 := (congrArg _ (tdivI (by omega) (by omega))).trans (wrapI (by omega) (by omega))
  have e_cof_11 : cof_11 n = (365 * (cof_10 n)) := wrapI (by omega) (by omega)
  have e_cof_12 : cof_12 n = (cof_10 n) / 4 := (congrArg _ (tdivI (by omega) (by omega))).trans (wrapI (by omega) (by omega))
  have e_cof_13 : cof_13 n = ((cof_11 n) + (cof_12 n)) := wrapI (by omega) (by omega)
  have e_cof_14 : cof_14 n = (cof_10 n) / 100 := (congrArg _ (tdivI (by omega) (by omega))).trans (wrapI (by omega) (by omega))
  have e_cof_15 : cof_15 n = ((cof_13 n) - (cof_14 n)) := wrapI (by omega) (by omega)
  have e_cof_16 : cof_16 n = ((cof_3 n) - (cof_15 n)) := wrapI (by omega) (by omega)
  have hY : cof_10 n = (cof_3 n - cof_3 n / 1460 + cof_3 n / 36524 - cof_3 n / 146096) / 365 := by rw [e_cof_10, e_cof_9, e_cof_7, e_cof_5, e_cof_4, e_cof_6, e_cof_8]
  have hday : cof_16 n = cof_3 n - (365 * cof_10 n + cof_10 n / 4 - cof_10 n / 100) := by rw [e_cof_16, e_cof_15, e_cof_13, e_cof_11, e_cof_12, e_cof_14]
  have ho : cof_3 n = cof_1 n - 146097 * (cof_1 n / 146097) := by rw [e_cof_3, e_cof_2]
  obtain ⟨y0, y1, y2, y3, -⟩ := Cal.of_year (cof_3 n) (by omega) (by omega) (cof_10 n) hY
  rw [← hday] at y2 y3
  clear e_cof_4 e_cof_5 e_cof_6 e_cof_7 e_cof_8 e_cof_9 e_cof_10 e_cof_11 e_cof_12 e_cof_13 e_cof_14 e_cof_15 e_cof_16
  have e_cof_17 : cof_17 n = (5 * (cof_16 n)) := wrapI (by omega) (by omega)
  have e_cof_18 : cof_18 n = ((cof_17 n) + 2) := wrapI (by omega) (by omega)
  have e_cof_19 : cof_19 n = (cof_18 n) / 153 := (congrArg _ (tdivI (by omega) (by omega))).trans (wrapI (by omega) (by omega))
  have e_cof_20 : cof_20 n = (400 * ((cof_1 n) / 146097)) := wrapI (by omega) (by omega)
  have e_cof_21 : cof_21 n = ((cof_20 n) + (cof_10 n)) := wrapI (by omega) (by omega)
  have e_cof_22 : cof_22 n = ((cof_19 n) + 3) := wrapI (by omega) (by omega)
  have e_cof_23 : cof_23 n = (153 * (cof_19 n)) := wrapI (by omega) (by omega)
  have e_cof_24 : cof_24 n = ((cof_23 n) + 2) := wrapI (by omega) (by omega)
  have e_cof_25 : cof_25 n = (cof_24 n) / 5 := (congrArg _ (tdivI (by omega) (by omega))).trans (wrapI (by omega) (by omega))
  have e_cof_26 : cof_26 n = ((cof_16 n) - (cof_25 n)) := wrapI (by omega) (by omega)
  have e_cof_27 : cof_27 n = ((cof_26 n) + 1) := wrapI (by omega) (by omega)
  have e_cof_28 : cof_28 n = ((cof_21 n) + 1) := wrapI (by omega) (by omega)
  have e_cof_29 : cof_29 n = ((cof_22 n) - 12) := wrapI (by omega) (by omega)
  have hk : cof_19 n = (5 * cof_16 n + 2) / 153 := by rw [e_cof_19, e_cof_18, e_cof_17]
  have hd : cof_27 n = cof_16 n - (153 * cof_19 n + 2) / 5 + 1 := by rw [e_cof_27, e_cof_26, e_cof_25, e_cof_24, e_cof_23]
  obtain ⟨-, F1, F2⟩ := Cal.of_day (cof_1 n) (cof_1 n / 146097) (cof_3 n) (cof_10 n) (cof_16 n) (cof_19 n) (cof_27 n) rfl ho hY hday hk hd
  have o1 : decide ((n : Int) > 400000000000) = false := decide_eq_false (by omega)
  have o0 : cof_0 n = false := decide_eq_false (by omega)
  have of : OK PR E1 571 [.int .i64 (cof_1 n), .int .i64 146097] [] (.int .i64 ((cof_1 n) / 146097)) [] := (cfloor_ok _ _ (by omega) (by omega) (by omega)).e1
  by_cases hm : cof_22 n > 12
  · have e28 : cof_28 n = 400 * (cof_1 n / 146097) + cof_10 n + 1 := by rw [e_cof_28, e_cof_21, e_cof_20]
    have e29 : cof_29 n = cof_19 n + 3 - 12 := by rw [e_cof_29, e_cof_22]
    obtain ⟨v, nn⟩ := F1 (by omega)
    rw [← e28, ← e29] at v nn
    obtain ⟨v1, v2, v3, v4⟩ := v
    have hmay := may_ok (cof_28 n) (cof_29 n) (cof_27 n) v1 v2 v3 v4
    have om : decide (((cof_22 n) : Int) > 12) = true := decide_eq_true hm
    refine ⟨cof_28 n, cof_29 n, cof_27 n, ⟨v1, v2, v3, v4⟩, by omega, by omega, by omega, ?_⟩
    rcases hb : yearB (cof_28 n) with _ | _
    · rw [if_neg (by simp)]
      exact .of1 (scr := [.auto 1, .br false, .auto 2, .br false, .ret (.int .i64 ((cof_1 n) / 146097)) [], .auto 10, .br true, .auto 5, .ret (.bool (yearB (cof_28 n))) [], .br true]) (rest := []) (rd := [])
        (obs := [(!(yearB (cof_28 n))) = true, OK PR E1 41 [.agg [.int .i64 (cof_28 n), .int .i64 (cof_29 n), .int .i64 (cof_27 n)]] [] (.bool (yearB (cof_28 n))) [], decide (((cof_22 n) : Int) > 12) = true,
          OK PR E1 571 [.int .i64 (cof_1 n), .int .i64 146097] [] (.int .i64 ((cof_1 n) / 146097)) [], decide ((n : Int) > 400000000000) = false, cof_0 n = false]) (fun h => by kernel_rfl) ⟨by rw [hb]; rfl, hmay.e1, om, of, o1, o0, trivial⟩
    · rw [if_pos rfl]
      exact .of1 (scr := [.auto 1, .br false, .auto 2, .br false, .ret (.int .i64 ((cof_1 n) / 146097)) [], .auto 10, .br true, .auto 5, .ret (.bool (yearB (cof_28 n))) [], .br false]) (rest := []) (rd := [])
        (obs := [(!(yearB (cof_28 n))) = false, OK PR E1 41 [.agg [.int .i64 (cof_28 n), .int .i64 (cof_29 n), .int .i64 (cof_27 n)]] [] (.bool (yearB (cof_28 n))) [], decide (((cof_22 n) : Int) > 12) = true,
          OK PR E1 571 [.int .i64 (cof_1 n), .int .i64 146097] [] (.int .i64 ((cof_1 n) / 146097)) [], decide ((n : Int) > 400000000000) = false, cof_0 n = false]) (fun h => by kernel_rfl) ⟨by rw [hb]; rfl, hmay.e1, om, of, o1, o0, trivial⟩
  · have e21 : cof_21 n = 400 * (cof_1 n / 146097) + cof_10 n := by rw [e_cof_21, e_cof_20]
    obtain ⟨v, nn⟩ := F2 (by omega)
    rw [← e21, ← e_cof_22] at v nn
    obtain ⟨v1, v2, v3, v4⟩ := v
    have hmay := may_ok (cof_21 n) (cof_22 n) (cof_27 n) v1 v2 v3 v4
    have om : decide (((cof_22 n) : Int) > 12) = false := decide_eq_false hm
    refine ⟨cof_21 n, cof_22 n, cof_27 n, ⟨v1, v2, v3, v4⟩, by omega, by omega, by omega, ?_⟩
    rcases hb : yearB (cof_21 n) with _ | _
    · rw [if_neg (by simp)]
      exact .of1 (scr := [.auto 1, .br false, .auto 2, .br false, .ret (.int .i64 ((cof_1 n) / 146097)) [], .auto 10, .br false, .auto 1, .ret (.bool (yearB (cof_21 n))) [], .br true]) (rest := []) (rd := [])
        (obs := [(!(yearB (cof_21 n))) = true, OK PR E1 41 [.agg [.int .i64 (cof_21 n), .int .i64 (cof_22 n), .int .i64 (cof_27 n)]] [] (.bool (yearB (cof_21 n))) [], decide (((cof_22 n) : Int) > 12) = false,
          OK PR E1 571 [.int .i64 (cof_1 n), .int .i64 146097] [] (.int .i64 ((cof_1 n) / 146097)) [], decide ((n : Int) > 400000000000) = false, cof_0 n = false]) (fun h => by kernel_rfl) ⟨by rw [hb]; rfl, hmay.e1, om, of, o1, o0, trivial⟩
    · rw [if_pos rfl]
      exact .of1 (scr := [.auto 1, .br false, .auto 2, .br false, .ret (.int .i64 ((cof_1 n) / 146097)) [], .auto 10, .br false, .auto 1, .ret (.bool (yearB (cof_21 n))) [], .br false]) (rest := []) (rd := [])
        (obs := [(!(yearB (cof_21 n))) = false, OK PR E1 41 [.agg [.int .i64 (cof_21 n), .int .i64 (cof_22 n), .int .i64 (cof_27 n)]] [] (.bool (yearB (cof_21 n))) [], decide (((cof_22 n) : Int) > 12) = false,
          OK PR E1 571 [.int .i64 (cof_1 n), .int .i64 146097] [] (.int .i64 ((cof_1 n) / 146097)) [], decide ((n : Int) > 400000000000) = false, cof_0 n = false]) (fun h => by kernel_rfl) ⟨by rw [hb]; rfl, hmay.e1, om, of, o1, o0, trivial⟩
end Go.Proofs.YtmekaipcoghlfaaGreatDoor
end
