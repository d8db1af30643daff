/-
  Part of the proof of TopDays: lemmas that the others lean on.
-/
import Derived.Test.YtmekaipcoghlfaaGreatDoorYc
set_option linter.all false
set_option linter.unusedVariables false
set_option linter.unusedSimpArgs false
noncomputable section
namespace Go.Proofs.YtmekaipcoghlfaaGreatDoor
open Go Go.Am Go.Proofs
set_option maxHeartbeats 1000000
theorem yr_mono (a b : Int) (h : a ≤ b) : Cal.yr a ≤ Cal.yr b := by
  unfold Cal.yr
  omega
theorem of_loop (n A Y : Int) (hY : -1000000001 < Y → Cal.yr Y ≤ A) (hY' : Y < 1000000000 → A < Cal.yr (Y + 1)) : ∀ (k : Nat) (lo hi : Int), (hi - lo).toNat ≤ k → -1000000001 ≤ lo → hi ≤ 1000000001 → lo ≤ Y → Y < hi →
    LoopOK PR E1 (lc 22 0) (ofL n A lo hi) (.exit 0) (of2X n A Y (Y + 1)) := by
  intro k
  induction k with
  | zero => intro lo hi hk h1 h2 h3 h4; omega
  | succ k ih =>
    intro lo hi hk h1 h2 h3 h4
    by_cases hd : hi - lo > 1
    · have e0 : of_0 n A lo hi = hi - lo := wrapI (by omega) (by omega)
      have e2 : of_2 n A lo hi = lo + hi := wrapI (by omega) (by omega)
      have f0 : of1_0 n A lo hi = hi - lo := wrapI (by omega) (by omega)
      have f2 : of1_2 n A lo hi = lo + hi := wrapI (by omega) (by omega)
      by_cases hm : (lo + hi) / 2 ≤ Y
      · have := yr_mono _ _ hm
        have := hY (by omega)
        refine of n A lo hi _ _ ?_ (by show decide _ = true; rw [e2]; exact decide_eq_true (by omega)) (by rw [e2]; exact yr6_ok _ (by omega) (by omega)) (by rw [e2]; exact rfloor_ok _ _ (by omega) (by omega) (by omega)) (by show decide _ = true; rw [e0]; exact decide_eq_true (by omega))
        rw [e2]
        exact ih _ _ (by omega) (by omega) (by omega) (by omega) (by omega)
      · have := yr_mono (Y + 1) ((lo + hi) / 2) (by omega)
        have := hY' (by omega)
        refine of1 n A lo hi _ _ ?_ (by show decide _ = false; rw [f2]; exact decide_eq_false (by omega)) (by rw [f2]; exact yr6_ok _ (by omega) (by omega)) (by rw [f2]; exact rfloor_ok _ _ (by omega) (by omega) (by omega)) (by show decide _ = true; rw [f0]; exact decide_eq_true (by omega))
        rw [f2]
        exact ih _ _ (by omega) (by omega) (by omega) (by omega) (by omega)
    · have g0 : of2_0 n A lo hi = hi - lo := wrapI (by omega) (by omega)
      have : lo = Y := by omega
      subst this
      have : hi = lo + 1 := by omega
      subst this
      exact of2 n A lo (lo + 1) (by show decide _ = false; rw [g0]; exact decide_eq_false (by omega))
theorem yr_next (y : Int) : Cal.yr (y + 1) = Cal.yr y + 365 + (if Cal.leap y = true then 1 else 0) := by
  have := Cal.yr_leap y
  unfold Cal.yr
  generalize (if Cal.leap y = true then (1 : Int) else 0) = l at *
  rw [show y + 1 - 1 = y by omega]
  omega
theorem yd_lt (y m d : Int) (h1 : 1 ≤ m) (h2 : m ≤ 12) (h3 : 1 ≤ d) (h4 : d ≤ Cal.len y m) : Cal.yd y m d ≤ 365 + (if Cal.leap y = true then 1 else 0) := by
  have : m = 1 ∨ m = 2 ∨ m = 3 ∨ m = 4 ∨ m = 5 ∨ m = 6 ∨ m = 7 ∨ m = 8 ∨ m = 9 ∨ m = 10 ∨ m = 11 ∨ m = 12 := by omega
  unfold Cal.yd
  unfold Cal.len at h4
  rcases hl : Cal.leap y with _ | _ <;> rw [hl] at h4 <;> rcases this with h | h | h | h | h | h | h | h | h | h | h | h <;> subst h <;> simp at h4 ⊢ <;> omega
theorem of6_1 (n Y D : Int) (h5 : -1000000001 ≤ Y) (h6 : Y ≤ 1000000000) (h3 : 1 ≤ D) (h4 : D ≤ Cal.len Y 1) (hn : Cal.num Y 1 D = n) :
    Sm 22 [.int .i64 n] (.tuple [.int .i64 Y, .int .i64 1, .int .i64 D]) := by
  have hyd := Cal.num_yd Y 1 D (by decide) (by decide)
  have hlt := yd_lt Y 1 D (by decide) (by decide) h3 h4
  have hnx := yr_next Y
  have hrb := yr_bd Y (by omega) (by omega)
  have hyb := yd_bd Y 1 D (by decide) (by decide) h3 (by have := Cal.len_bd Y 1; omega)
  have hloop := of_loop n (n + 719162) Y (fun _ => by omega) (fun _ => by rw [hnx]; omega) 2000000002 (-1000000001) 1000000001 (by decide) (by decide) (by decide) (by omega) (by omega)
  have hs : Cal.yd Y 1 D = D := by
    simp [Cal.len, Cal.yd]
    try (rcases Cal.leap Y with _ | _ <;> simp <;> omega)
  clear hlt hnx
  generalize hyr : Cal.yr Y = R at *
  rw [hs] at hyd hyb
  clear hs
  have l1 := Cal.len_bd Y 1
  have l2 := Cal.len_bd Y 2
  have l3 := Cal.len_bd Y 3
  have l4 := Cal.len_bd Y 4
  have l5 := Cal.len_bd Y 5
  have l6 := Cal.len_bd Y 6
  have l7 := Cal.len_bd Y 7
  have l8 := Cal.len_bd Y 8
  have l9 := Cal.len_bd Y 9
  have l10 := Cal.len_bd Y 10
  have l11 := Cal.len_bd Y 11
  have l12 := Cal.len_bd Y 12
  have hA : n + 719162 - R = D - 1 := by omega
  have e_ofy11_0 : (ofy11_0 n) = (n + 719162) := wrapI (by omega) (by omega)
  have e_ofy11_1 : (ofy11_1 (n + 719162) Y) = ((n + 719162) - (Cal.yr Y)) := wrapI (by omega) (by omega)
  have e_ofy11_3 : (ofy11_3 (n + 719162) Y) = ((ofy11_1 (n + 719162) Y) + 1) := wrapI (by omega) (by omega)
  refine (ofy11 n (n + 719162) Y (Y + 1) (show (ofy11_2 (n + 719162) Y) = false from (show (decide (((ofy11_1 (n + 719162) Y) : Int) ≥ (Cal.len Y 1))) = false from decide_eq_false (by omega))) (len6_ok Y 1 (by decide) (by decide)) (yr6_ok Y (by omega) (by omega)) (by rw [show (ofy11_0 n) = n + 719162 by omega]; exact LoopOK.junk [8, 14, 15, 16, 17, 18, 19, 20, 21, 22, 23, 24, 25, 26, 27] hloop)).cast ?_
  rw [show (ofy11_3 (n + 719162) Y) = D by omega]
theorem of6_2 (n Y D : Int) (h5 : -1000000001 ≤ Y) (h6 : Y ≤ 1000000000) (h3 : 1 ≤ D) (h4 : D ≤ Cal.len Y 2) (hn : Cal.num Y 2 D = n) :
    Sm 22 [.int .i64 n] (.tuple [.int .i64 Y, .int .i64 2, .int .i64 D]) := by
  have hyd := Cal.num_yd Y 2 D (by decide) (by decide)
  have hlt := yd_lt Y 2 D (by decide) (by decide) h3 h4
  have hnx := yr_next Y
  have hrb := yr_bd Y (by omega) (by omega)
  have hyb := yd_bd Y 2 D (by decide) (by decide) h3 (by have := Cal.len_bd Y 2; omega)
  have hloop := of_loop n (n + 719162) Y (fun _ => by omega) (fun _ => by rw [hnx]; omega) 2000000002 (-1000000001) 1000000001 (by decide) (by decide) (by decide) (by omega) (by omega)
  have hs : Cal.yd Y 2 D = D + Cal.len Y 1 := by
    simp [Cal.len, Cal.yd]
    try (rcases Cal.leap Y with _ | _ <;> simp <;> omega)
  clear hlt hnx
  generalize hyr : Cal.yr Y = R at *
  rw [hs] at hyd hyb
  clear hs
  have l1 := Cal.len_bd Y 1
  have l2 := Cal.len_bd Y 2
  have l3 := Cal.len_bd Y 3
  have l4 := Cal.len_bd Y 4
  have l5 := Cal.len_bd Y 5
  have l6 := Cal.len_bd Y 6
  have l7 := Cal.len_bd Y 7
  have l8 := Cal.len_bd Y 8
  have l9 := Cal.len_bd Y 9
  have l10 := Cal.len_bd Y 10
  have l11 := Cal.len_bd Y 11
  have l12 := Cal.len_bd Y 12
  have hA : n + 719162 - R = D + Cal.len Y 1 - 1 := by omega
  have e_ofy10_0 : (ofy10_0 n) = (n + 719162) := wrapI (by omega) (by omega)
  have e_ofy10_1 : (ofy10_1 (n + 719162) Y) = ((n + 719162) - (Cal.yr Y)) := wrapI (by omega) (by omega)
  have e_ofy10_3 : (ofy10_3 (n + 719162) Y) = ((ofy10_1 (n + 719162) Y) - (Cal.len Y 1)) := wrapI (by omega) (by omega)
  have e_ofy10_5 : (ofy10_5 (n + 719162) Y) = ((ofy10_3 (n + 719162) Y) + 1) := wrapI (by omega) (by omega)
  refine (ofy10 n (n + 719162) Y (Y + 1) (show (ofy10_4 (n + 719162) Y) = false from (show (decide (((ofy10_3 (n + 719162) Y) : Int) ≥ (Cal.len Y 2))) = false from decide_eq_false (by omega))) (len6_ok Y 2 (by decide) (by decide)) (len6_ok Y 1 (by decide) (by decide)) (show (ofy10_2 (n + 719162) Y) = true from (show (decide (((ofy10_1 (n + 719162) Y) : Int) ≥ (Cal.len Y 1))) = true from decide_eq_true (by omega))) (yr6_ok Y (by omega) (by omega)) (by rw [show (ofy10_0 n) = n + 719162 by omega]; exact LoopOK.junk [8, 14, 15, 16, 17, 18, 19, 20, 21, 22, 23, 24, 25, 26, 27] hloop)).cast ?_
  rw [show (ofy10_5 (n + 719162) Y) = D by omega]
theorem of6_3 (n Y D : Int) (h5 : -1000000001 ≤ Y) (h6 : Y ≤ 1000000000) (h3 : 1 ≤ D) (h4 : D ≤ Cal.len Y 3) (hn : Cal.num Y 3 D = n) :
    Sm 22 [.int .i64 n] (.tuple [.int .i64 Y, .int .i64 3, .int .i64 D]) := by
  have hyd := Cal.num_yd Y 3 D (by decide) (by decide)
  have hlt := yd_lt Y 3 D (by decide) (by decide) h3 h4
  have hnx := yr_next Y
  have hrb := yr_bd Y (by omega) (by omega)
  have hyb := yd_bd Y 3 D (by decide) (by decide) h3 (by have := Cal.len_bd Y 3; omega)
  have hloop := of_loop n (n + 719162) Y (fun _ => by omega) (fun _ => by rw [hnx]; omega) 2000000002 (-1000000001) 1000000001 (by decide) (by decide) (by decide) (by omega) (by omega)
  have hs : Cal.yd Y 3 D = D + Cal.len Y 1 + Cal.len Y 2 := by
    simp [Cal.len, Cal.yd]
    try (rcases Cal.leap Y with _ | _ <;> simp <;> omega)
  clear hlt hnx
  generalize hyr : Cal.yr Y = R at *
  rw [hs] at hyd hyb
  clear hs
  have l1 := Cal.len_bd Y 1
  have l2 := Cal.len_bd Y 2
  have l3 := Cal.len_bd Y 3
  have l4 := Cal.len_bd Y 4
  have l5 := Cal.len_bd Y 5
  have l6 := Cal.len_bd Y 6
  have l7 := Cal.len_bd Y 7
  have l8 := Cal.len_bd Y 8
  have l9 := Cal.len_bd Y 9
  have l10 := Cal.len_bd Y 10
  have l11 := Cal.len_bd Y 11
  have l12 := Cal.len_bd Y 12
  have hA : n + 719162 - R = D + Cal.len Y 1 + Cal.len Y 2 - 1 := by omega
  have e_ofy9_0 : (ofy9_0 n) = (n + 719162) := wrapI (by omega) (by omega)
  have e_ofy9_1 : (ofy9_1 (n + 719162) Y) = ((n + 719162) - (Cal.yr Y)) := wrapI (by omega) (by omega)
  have e_ofy9_3 : (ofy9_3 (n + 719162) Y) = ((ofy9_1 (n + 719162) Y) - (Cal.len Y 1)) := wrapI (by omega) (by omega)
  have e_ofy9_5 : (ofy9_5 (n + 719162) Y) = ((ofy9_3 (n + 719162) Y) - (Cal.len Y 2)) := wrapI (by omega) (by omega)
  have e_ofy9_7 : (ofy9_7 (n + 719162) Y) = ((ofy9_5 (n + 719162) Y) + 1) := wrapI (by omega) (by omega)
  refine (ofy9 n (n + 719162) Y (Y + 1) (show (ofy9_6 (n + 719162) Y) = false from (show (decide (((ofy9_5 (n + 719162) Y) : Int) ≥ (Cal.len Y 3))) = false from decide_eq_false (by omega))) (len6_ok Y 3 (by decide) (by decide)) (len6_ok Y 2 (by decide) (by decide)) (show (ofy9_4 (n + 719162) Y) = true from (show (decide (((ofy9_3 (n + 719162) Y) : Int) ≥ (Cal.len Y 2))) = true from decide_eq_true (by omega))) (len6_ok Y 1 (by decide) (by decide)) (show (ofy9_2 (n + 719162) Y) = true from (show (decide (((ofy9_1 (n + 719162) Y) : Int) ≥ (Cal.len Y 1))) = true from decide_eq_true (by omega))) (yr6_ok Y (by omega) (by omega)) (by rw [show (ofy9_0 n) = n + 719162 by omega]; exact LoopOK.junk [8, 14, 15, 16, 17, 18, 19, 20, 21, 22, 23, 24, 25, 26, 27] hloop)).cast ?_
  rw [show (ofy9_7 (n + 719162) Y) = D by omega]
theorem of6_4 (n Y D : Int) (h5 : -1000000001 ≤ Y) (h6 : Y ≤ 1000000000) (h3 : 1 ≤ D) (h4 : D ≤ Cal.len Y 4) (hn : Cal.num Y 4 D = n) :
    Sm 22 [.int .i64 n] (.tuple [.int .i64 Y, .int .i64 4, .int .i64 D]) := by
  have hyd := Cal.num_yd Y 4 D (by decide) (by decide)
  have hlt := yd_lt Y 4 D (by decide) (by decide) h3 h4
  have hnx := yr_next Y
  have hrb := yr_bd Y (by omega) (by omega)
  have hyb := yd_bd Y 4 D (by decide) (by decide) h3 (by have := Cal.len_bd Y 4; omega)
  have hloop := of_loop n (n + 719162) Y (fun _ => by omega) (fun _ => by rw [hnx]; omega) 2000000002 (-1000000001) 1000000001 (by decide) (by decide) (by decide) (by omega) (by omega)
  have hs : Cal.yd Y 4 D = D + Cal.len Y 1 + Cal.len Y 2 + Cal.len Y 3 := by
    simp [Cal.len, Cal.yd]
    try (rcases Cal.leap Y with _ | _ <;> simp <;> omega)
  clear hlt hnx
  generalize hyr : Cal.yr Y = R at *
  rw [hs] at hyd hyb
  clear hs
  have l1 := Cal.len_bd Y 1
  have l2 := Cal.len_bd Y 2
  have l3 := Cal.len_bd Y 3
  have l4 := Cal.len_bd Y 4
  have l5 := Cal.len_bd Y 5
  have l6 := Cal.len_bd Y 6
  have l7 := Cal.len_bd Y 7
  have l8 := Cal.len_bd Y 8
  have l9 := Cal.len_bd Y 9
  have l10 := Cal.len_bd Y 10
  have l11 := Cal.len_bd Y 11
  have l12 := Cal.len_bd Y 12
  have hA : n + 719162 - R = D + Cal.len Y 1 + Cal.len Y 2 + Cal.len Y 3 - 1 := by omega
  have e_ofy8_0 : (ofy8_0 n) = (n + 719162) := wrapI (by omega) (by omega)
  have e_ofy8_1 : (ofy8_1 (n + 719162) Y) = ((n + 719162) - (Cal.yr Y)) := wrapI (by omega) (by omega)
  have e_ofy8_3 : (ofy8_3 (n + 719162) Y) = ((ofy8_1 (n + 719162) Y) - (Cal.len Y 1)) := wrapI (by omega) (by omega)
  have e_ofy8_5 : (ofy8_5 (n + 719162) Y) = ((ofy8_3 (n + 719162) Y) - (Cal.len Y 2)) := wrapI (by omega) (by omega)
  have e_ofy8_7 : (ofy8_7 (n + 719162) Y) = ((ofy8_5 (n + 719162) Y) - (Cal.len Y 3)) := wrapI (by omega) (by omega)
  have e_ofy8_9 : (ofy8_9 (n + 719162) Y) = ((ofy8_7 (n + 719162) Y) + 1) := wrapI (by omega) (by omega)
  refine (ofy8 n (n + 719162) Y (Y + 1) (show (ofy8_8 (n + 719162) Y) = false from (show (decide (((ofy8_7 (n + 719162) Y) : Int) ≥ (Cal.len Y 4))) = false from decide_eq_false (by omega))) (len6_ok Y 4 (by decide) (by decide)) (len6_ok Y 3 (by decide) (by decide)) (show (ofy8_6 (n + 719162) Y) = true from (show (decide (((ofy8_5 (n + 719162) Y) : Int) ≥ (Cal.len Y 3))) = true from decide_eq_true (by omega))) (len6_ok Y 2 (by decide) (by decide)) (show (ofy8_4 (n + 719162) Y) = true from (show (decide (((ofy8_3 (n + 719162) Y) : Int) ≥ (Cal.len Y 2))) = true from decide_eq_true (by omega))) (len6_ok Y 1 (by decide) (by decide)) (show (ofy8_2 (n + 719162) Y) = true from (show (decide (((ofy8_1 (n + 719162) Y) : Int) ≥ (Cal.len Y 1))) = true from decide_eq_true (by omega))) (yr6_ok Y (by omega) (by omega)) (by rw [show (ofy8_0 n) = n + 719162 by omega]; exact LoopOK.junk [8, 14, 15, 16, 17, 18, 19, 20, 21, 22, 23, 24, 25, 26, 27] hloop)).cast ?_
  rw [show (ofy8_9 (n + 719162) Y) = D by omega]
theorem of6_5 (n Y D : Int) (h5 : -1000000001 ≤ Y) (h6 : Y ≤ 1000000000) (h3 : 1 ≤ D) (h4 : D ≤ Cal.len Y 5) (hn : Cal.num Y 5 D = n) :
    Sm 22 [.int .i64 n] (.tuple [.int .i64 Y, .int .i64 5, .int .i64 D]) := by
  have hyd := Cal.num_yd Y 5 D (by decide) (by decide)
  have hlt := yd_lt Y 5 D (by decide) (by decide) h3 h4
  have hnx := yr_next Y
  have hrb := yr_bd Y (by omega) (by omega)
  have hyb := yd_bd Y 5 D (by decide) (by decide) h3 (by have := Cal.len_bd Y 5; omega)
  have hloop := of_loop n (n + 719162) Y (fun _ => by omega) (fun _ => by rw [hnx]; omega) 2000000002 (-1000000001) 1000000001 (by decide) (by decide) (by decide) (by omega) (by omega)
  have hs : Cal.yd Y 5 D = D + Cal.len Y 1 + Cal.len Y 2 + Cal.len Y 3 + Cal.len Y 4 := by
    simp [Cal.len, Cal.yd]
    try (rcases Cal.leap Y with _ | _ <;> simp <;> omega)
  clear hlt hnx
  generalize hyr : Cal.yr Y = R at *
  rw [hs] at hyd hyb
  clear hs
  have l1 := Cal.len_bd Y 1
  have l2 := Cal.len_bd Y 2
  have l3 := Cal.len_bd Y 3
  have l4 := Cal.len_bd Y 4
  have l5 := Cal.len_bd Y 5
  have l6 := Cal.len_bd Y 6
  have l7 := Cal.len_bd Y 7
  have l8 := Cal.len_bd Y 8
  have l9 := Cal.len_bd Y 9
  have l10 := Cal.len_bd Y 10
  have l11 := Cal.len_bd Y 11
  have l12 := Cal.len_bd Y 12
  have hA : n + 719162 - R = D + Cal.len Y 1 + Cal.len Y 2 + Cal.len Y 3 + Cal.len Y 4 - 1 := by omega
  have e_ofy7_0 : (ofy7_0 n) = (n + 719162) := wrapI (by omega) (by omega)
  have e_ofy7_1 : (ofy7_1 (n + 719162) Y) = ((n + 719162) - (Cal.yr Y)) := wrapI (by omega) (by omega)
  have e_ofy7_3 : (ofy7_3 (n + 719162) Y) = ((ofy7_1 (n + 719162) Y) - (Cal.len Y 1)) := wrapI (by omega) (by omega)
  have e_ofy7_5 : (ofy7_5 (n + 719162) Y) = ((ofy7_3 (n + 719162) Y) - (Cal.len Y 2)) := wrapI (by omega) (by omega)
  have e_ofy7_7 : (ofy7_7 (n + 719162) Y) = ((ofy7_5 (n + 719162) Y) - (Cal.len Y 3)) := wrapI (by omega) (by omega)
  have e_ofy7_9 : (ofy7_9 (n + 719162) Y) = ((ofy7_7 (n + 719162) Y) - (Cal.len Y 4)) := wrapI (by omega) (by omega)
  have e_ofy7_11 : (ofy7_11 (n + 719162) Y) = ((ofy7_9 (n + 719162) Y) + 1) := wrapI (by omega) (by omega)
  refine (ofy7 n (n + 719162) Y (Y + 1) (show (ofy7_10 (n + 719162) Y) = false from (show (decide (((ofy7_9 (n + 719162) Y) : Int) ≥ (Cal.len Y 5))) = false from decide_eq_false (by omega))) (len6_ok Y 5 (by decide) (by decide)) (len6_ok Y 4 (by decide) (by decide)) (show (ofy7_8 (n + 719162) Y) = true from (show (decide (((ofy7_7 (n + 719162) Y) : Int) ≥ (Cal.len Y 4))) = true from decide_eq_true (by omega))) (len6_ok Y 3 (by decide) (by decide)) (show (ofy7_6 (n + 719162) Y) = true from (show (decide (((ofy7_5 (n + 719162) Y) : Int) ≥ (Cal.len Y 3))) = true from decide_eq_true (by omega))) (len6_ok Y 2 (by decide) (by decide)) (show (ofy7_4 (n + 719162) Y) = true from (show (decide (((ofy7_3 (n + 719162) Y) : Int) ≥ (Cal.len Y 2))) = true from decide_eq_true (by omega))) (len6_ok Y 1 (by decide) (by decide)) (show (ofy7_2 (n + 719162) Y) = true from (show (decide (((ofy7_1 (n + 719162) Y) : Int) ≥ (Cal.len Y 1))) = true from decide_eq_true (by omega))) (yr6_ok Y (by omega) (by omega)) (by rw [show (ofy7_0 n) = n + 719162 by omega]; exact LoopOK.junk [8, 14, 15, 16, 17, 18, 19, 20, 21, 22, 23, 24, 25, 26, 27] hloop)).cast ?_
  rw [show (ofy7_11 (n + 719162) Y) = D by omega]
theorem of6_6 (n Y D : Int) (h5 : -1000000001 ≤ Y) (h6 : Y ≤ 1000000000) (h3 : 1 ≤ D) (h4 : D ≤ Cal.len Y 6) (hn : Cal.num Y 6 D = n) :
    Sm 22 [.int .i64 n] (.tuple [.int .i64 Y, .int .i64 6, .int .i64 D]) := by
  have hyd := Cal.num_yd Y 6 D (by decide) (by decide)
  have hlt := yd_lt Y 6 D (by decide) (by decide) h3 h4
  have hnx := yr_next Y
  have hrb := yr_bd Y (by omega) (by omega)
  have hyb := yd_bd Y 6 D (by decide) (by decide) h3 (by have := Cal.len_bd Y 6; omega)
  have hloop := of_loop n (n + 719162) Y (fun _ => by omega) (fun _ => by rw [hnx]; omega) 2000000002 (-1000000001) 1000000001 (by decide) (by decide) (by decide) (by omega) (by omega)
  have hs : Cal.yd Y 6 D = D + Cal.len Y 1 + Cal.len Y 2 + Cal.len Y 3 + Cal.len Y 4 + Cal.len Y 5 := by
    simp [Cal.len, Cal.yd]
    try (rcases Cal.leap Y with _ | _ <;> simp <;> omega)
  clear hlt hnx
  generalize hyr : Cal.yr Y = R at *
  rw [hs] at hyd hyb
  clear hs
  have l1 := Cal.len_bd Y 1
  have l2 := Cal.len_bd Y 2
  have l3 := Cal.len_bd Y 3
  have l4 := Cal.len_bd Y 4
  have l5 := Cal.len_bd Y 5
  have l6 := Cal.len_bd Y 6
  have l7 := Cal.len_bd Y 7
  have l8 := Cal.len_bd Y 8
  have l9 := Cal.len_bd Y 9
  have l10 := Cal.len_bd Y 10
  have l11 := Cal.len_bd Y 11
  have l12 := Cal.len_bd Y 12
  have hA : n + 719162 - R = D + Cal.len Y 1 + Cal.len Y 2 + Cal.len Y 3 + Cal.len Y 4 + Cal.len Y 5 - 1 := by omega
  have e_ofy6_0 : (ofy6_0 n) = (n + 719162) := wrapI (by omega) (by omega)
  have e_ofy6_1 : (ofy6_1 (n + 719162) Y) = ((n + 719162) - (Cal.yr Y)) := wrapI (by omega) (by omega)
  have e_ofy6_3 : (ofy6_3 (n + 719162) Y) = ((ofy6_1 (n + 719162) Y) - (Cal.len Y 1)) := wrapI (by omega) (by omega)
  have e_ofy6_5 : (ofy6_5 (n + 719162) Y) = ((ofy6_3 (n + 719162) Y) - (Cal.len Y 2)) := wrapI (by omega) (by omega)
  have e_ofy6_7 : (ofy6_7 (n + 719162) Y) = ((ofy6_5 (n + 719162) Y) - (Cal.len Y 3)) := wrapI (by omega) (by omega)
  have e_ofy6_9 : (ofy6_9 (n + 719162) Y) = ((ofy6_7 (n + 719162) Y) - (Cal.len Y 4)) := wrapI (by omega) (by omega)
  have e_ofy6_11 : (ofy6_11 (n + 719162) Y) = ((ofy6_9 (n + 719162) Y) - (Cal.len Y 5)) := wrapI (by omega) (by omega)
  have e_ofy6_13 : (ofy6_13 (n + 719162) Y) = ((ofy6_11 (n + 719162) Y) + 1) := wrapI (by omega) (by omega)
  refine (ofy6 n (n + 719162) Y (Y + 1) (show (ofy6_12 (n + 719162) Y) = false from (show (decide (((ofy6_11 (n + 719162) Y) : Int) ≥ (Cal.len Y 6))) = false from decide_eq_false (by omega))) (len6_ok Y 6 (by decide) (by decide)) (len6_ok Y 5 (by decide) (by decide)) (show (ofy6_10 (n + 719162) Y) = true from (show (decide (((ofy6_9 (n + 719162) Y) : Int) ≥ (Cal.len Y 5))) = true from decide_eq_true (by omega))) (len6_ok Y 4 (by decide) (by decide)) (show (ofy6_8 (n + 719162) Y) = true from (show (decide (((ofy6_7 (n + 719162) Y) : Int) ≥ (Cal.len Y 4))) = true from decide_eq_true (by omega))) (len6_ok Y 3 (by decide) (by decide)) (show (ofy6_6 (n + 719162) Y) = true from (show (decide (((ofy6_5 (n + 719162) Y) : Int) ≥ (Cal.len Y 3))) = true from decide_eq_true (by omega))) (len6_ok Y 2 (by decide) (by decide)) (show (ofy6_4 (n + 719162) Y) = true from (show (decide (((ofy6_3 (n + 719162) Y) : Int) ≥ (Cal.len Y 2))) = true from decide_eq_true (by omega))) (len6_ok Y 1 (by decide) (by decide)) (show (ofy6_2 (n + 719162) Y) = true from (show (decide (((ofy6_1 (n + 719162) Y) : Int) ≥ (Cal.len Y 1))) = true from decide_eq_true (by omega))) (yr6_ok Y (by omega) (by omega)) (by rw [show (ofy6_0 n) = n + 719162 by omega]; exact LoopOK.junk [8, 14, 15, 16, 17, 18, 19, 20, 21, 22, 23, 24, 25, 26, 27] hloop)).cast ?_
  rw [show (ofy6_13 (n + 719162) Y) = D by omega]
theorem of6_7 (n Y D : Int) (h5 : -1000000001 ≤ Y) (h6 : Y ≤ 1000000000) (h3 : 1 ≤ D) (h4 : D ≤ Cal.len Y 7) (hn : Cal.num Y 7 D = n) :
    Sm 22 [.int .i64 n] (.tuple [.int .i64 Y, .int .i64 7, .int .i64 D]) := by
  have hyd := Cal.num_yd Y 7 D (by decide) (by decide)
  have hlt := yd_lt Y 7 D (by decide) (by decide) h3 h4
  have hnx := yr_next Y
  have hrb := yr_bd Y (by omega) (by omega)
  have hyb := yd_bd Y 7 D (by decide) (by decide) h3 (by have := Cal.len_bd Y 7; omega)
  have hloop := of_loop n (n + 719162) Y (fun _ => by omega) (fun _ => by rw [hnx]; omega) 2000000002 (-1000000001) 1000000001 (by decide) (by decide) (by decide) (by omega) (by omega)
  have hs : Cal.yd Y 7 D = D + Cal.len Y 1 + Cal.len Y 2 + Cal.len Y 3 + Cal.len Y 4 + Cal.len Y 5 + Cal.len Y 6 := by
    simp [Cal.len, Cal.yd]
    try (rcases Cal.leap Y with _ | _ <;> simp <;> omega)
  clear hlt hnx
  generalize hyr : Cal.yr Y = R at *
  rw [hs] at hyd hyb
  clear hs
  have l1 := Cal.len_bd Y 1
  have l2 := Cal.len_bd Y 2
  have l3 := Cal.len_bd Y 3
  have l4 := Cal.len_bd Y 4
  have l5 := Cal.len_bd Y 5
  have l6 := Cal.len_bd Y 6
  have l7 := Cal.len_bd Y 7
  have l8 := Cal.len_bd Y 8
  have l9 := Cal.len_bd Y 9
  have l10 := Cal.len_bd Y 10
  have l11 := Cal.len_bd Y 11
  have l12 := Cal.len_bd Y 12
  have hA : n + 719162 - R = D + Cal.len Y 1 + Cal.len Y 2 + Cal.len Y 3 + Cal.len Y 4 + Cal.len Y 5 + Cal.len Y 6 - 1 := by omega
  have e_ofy5_0 : (ofy5_0 n) = (n + 719162) := wrapI (by omega) (by omega)
  have e_ofy5_1 : (ofy5_1 (n + 719162) Y) = ((n + 719162) - (Cal.yr Y)) := wrapI (by omega) (by omega)
  have e_ofy5_3 : (ofy5_3 (n + 719162) Y) = ((ofy5_1 (n + 719162) Y) - (Cal.len Y 1)) := wrapI (by omega) (by omega)
  have e_ofy5_5 : (ofy5_5 (n + 719162) Y) = ((ofy5_3 (n + 719162) Y) - (Cal.len Y 2)) := wrapI (by omega) (by omega)
  have e_ofy5_7 : (ofy5_7 (n + 719162) Y) = ((ofy5_5 (n + 719162) Y) - (Cal.len Y 3)) := wrapI (by omega) (by omega)
  have e_ofy5_9 : (ofy5_9 (n + 719162) Y) = ((ofy5_7 (n + 719162) Y) - (Cal.len Y 4)) := wrapI (by omega) (by omega)
  have e_ofy5_11 : (ofy5_11 (n + 719162) Y) = ((ofy5_9 (n + 719162) Y) - (Cal.len Y 5)) := wrapI (by omega) (by omega)
  have e_ofy5_13 : (ofy5_13 (n + 719162) Y) = ((ofy5_11 (n + 719162) Y) - (Cal.len Y 6)) := wrapI (by omega) (by omega)
  have e_ofy5_15 : (ofy5_15 (n + 719162) Y) = ((ofy5_13 (n + 719162) Y) + 1) := wrapI (by omega) (by omega)
  refine (ofy5 n (n + 719162) Y (Y + 1) (show (ofy5_14 (n + 719162) Y) = false from (show (decide (((ofy5_13 (n + 719162) Y) : Int) ≥ (Cal.len Y 7))) = false from decide_eq_false (by omega))) (len6_ok Y 7 (by decide) (by decide)) (len6_ok Y 6 (by decide) (by decide)) (show (ofy5_12 (n + 719162) Y) = true from (show (decide (((ofy5_11 (n + 719162) Y) : Int) ≥ (Cal.len Y 6))) = true from decide_eq_true (by omega))) (len6_ok Y 5 (by decide) (by decide)) (show (ofy5_10 (n + 719162) Y) = true from (show (decide (((ofy5_9 (n + 719162) Y) : Int) ≥ (Cal.len Y 5))) = true from decide_eq_true (by omega))) (len6_ok Y 4 (by decide) (by decide)) (show (ofy5_8 (n + 719162) Y) = true from (show (decide (((ofy5_7 (n + 719162) Y) : Int) ≥ (Cal.len Y 4))) = true from decide_eq_true (by omega))) (len6_ok Y 3 (by decide) (by decide)) (show (ofy5_6 (n + 719162) Y) = true from (show (decide (((ofy5_5 (n + 719162) Y) : Int) ≥ (Cal.len Y 3))) = true from decide_eq_true (by omega))) (len6_ok Y 2 (by decide) (by decide)) (show (ofy5_4 (n + 719162) Y) = true from (show (decide (((ofy5_3 (n + 719162) Y) : Int) ≥ (Cal.len Y 2))) = true from decide_eq_true (by omega))) (len6_ok Y 1 (by decide) (by decide)) (show (ofy5_2 (n + 719162) Y) = true from (show (decide (((ofy5_1 (n + 719162) Y) : Int) ≥ (Cal.len Y 1))) = true from decide_eq_true (by omega))) (yr6_ok Y (by omega) (by omega)) (by rw [show (ofy5_0 n) = n + 719162 by omega]; exact LoopOK.junk [8, 14, 15, 16, 17, 18, 19, 20, 21, 22, 23, 24, 25, 26, 27] hloop)).cast ?_
  rw [show (ofy5_15 (n + 719162) Y) = D by omega]
theorem of6_8 (n Y D : Int) (h5 : -1000000001 ≤ Y) (h6 : Y ≤ 1000000000) (h3 : 1 ≤ D) (h4 : D ≤ Cal.len Y 8) (hn : Cal.num Y 8 D = n) :
    Sm 22 [.int .i64 n] (.tuple [.int .i64 Y, .int .i64 8, .int .i64 D]) := by
  have hyd := Cal.num_yd Y 8 D (by decide) (by decide)
  have hlt := yd_lt Y 8 D (by decide) (by decide) h3 h4
  have hnx := yr_next Y
  have hrb := yr_bd Y (by omega) (by omega)
  have hyb := yd_bd Y 8 D (by decide) (by decide) h3 (by have := Cal.len_bd Y 8; omega)
  have hloop := of_loop n (n + 719162) Y (fun _ => by omega) (fun _ => by rw [hnx]; omega) 2000000002 (-1000000001) 1000000001 (by decide) (by decide) (by decide) (by omega) (by omega)
  have hs : Cal.yd Y 8 D = D + Cal.len Y 1 + Cal.len Y 2 + Cal.len Y 3 + Cal.len Y 4 + Cal.len Y 5 + Cal.len Y 6 + Cal.len Y 7 := by
    simp [Cal.len, Cal.yd]
    try (rcases Cal.leap Y with _ | _ <;> simp <;> omega)
  clear hlt hnx
  generalize hyr : Cal.yr Y = R at *
  rw [hs] at hyd hyb
  clear hs
  have l1 := Cal.len_bd Y 1
  have l2 := Cal.len_bd Y 2
  have l3 := Cal.len_bd Y 3
  have l4 := Cal.len_bd Y 4
  have l5 := Cal.len_bd Y 5
  have l6 := Cal.len_bd Y 6
  have l7 := Cal.len_bd Y 7
  have l8 := Cal.len_bd Y 8
  have l9 := Cal.len_bd Y 9
  have l10 := Cal.len_bd Y 10
  have l11 := Cal.len_bd Y 11
  have l12 := Cal.len_bd Y 12
  have hA : n + 719162 - R = D + Cal.len Y 1 + Cal.len Y 2 + Cal.len Y 3 + Cal.len Y 4 + Cal.len Y 5 + Cal.len Y 6 + Cal.len Y 7 - 1 := by omega
  have e_ofy4_0 : (ofy4_0 n) = (n + 719162) := wrapI (by omega) (by omega)
  have e_ofy4_1 : (ofy4_1 (n + 719162) Y) = ((n + 719162) - (Cal.yr Y)) := wrapI (by omega) (by omega)
  have e_ofy4_3 : (ofy4_3 (n + 719162) Y) = ((ofy4_1 (n + 719162) Y) - (Cal.len Y 1)) := wrapI (by omega) (by omega)
  have e_ofy4_5 : (ofy4_5 (n + 719162) Y) = ((ofy4_3 (n + 719162) Y) - (Cal.len Y 2)) := wrapI (by omega) (by omega)
  have e_ofy4_7 : (ofy4_7 (n + 719162) Y) = ((ofy4_5 (n + 719162) Y) - (Cal.len Y 3)) := wrapI (by omega) (by omega)
  have e_ofy4_9 : (ofy4_9 (n + 719162) Y) = ((ofy4_7 (n + 719162) Y) - (Cal.len Y 4)) := wrapI (by omega) (by omega)
  have e_ofy4_11 : (ofy4_11 (n + 719162) Y) = ((ofy4_9 (n + 719162) Y) - (Cal.len Y 5)) := wrapI (by omega) (by omega)
  have e_ofy4_13 : (ofy4_13 (n + 719162) Y) = ((ofy4_11 (n + 719162) Y) - (Cal.len Y 6)) := wrapI (by omega) (by omega)
  have e_ofy4_15 : (ofy4_15 (n + 719162) Y) = ((ofy4_13 (n + 719162) Y) - (Cal.len Y 7)) := wrapI (by omega) (by omega)
  have e_ofy4_17 : (ofy4_17 (n + 719162) Y) = ((ofy4_15 (n + 719162) Y) + 1) := wrapI (by omega) (by omega)
  refine (ofy4 n (n + 719162) Y (Y + 1) (show (ofy4_16 (n + 719162) Y) = false from (show (decide (((ofy4_15 (n + 719162) Y) : Int) ≥ (Cal.len Y 8))) = false from decide_eq_false (by omega))) (len6_ok Y 8 (by decide) (by decide)) (len6_ok Y 7 (by decide) (by decide)) (show (ofy4_14 (n + 719162) Y) = true from (show (decide (((ofy4_13 (n + 719162) Y) : Int) ≥ (Cal.len Y 7))) = true from decide_eq_true (by omega))) (len6_ok Y 6 (by decide) (by decide)) (show (ofy4_12 (n + 719162) Y) = true from (show (decide (((ofy4_11 (n + 719162) Y) : Int) ≥ (Cal.len Y 6))) = true from decide_eq_true (by omega))) (len6_ok Y 5 (by decide) (by decide)) (show (ofy4_10 (n + 719162) Y) = true from (show (decide (((ofy4_9 (n + 719162) Y) : Int) ≥ (Cal.len Y 5))) = true from decide_eq_true (by omega))) (len6_ok Y 4 (by decide) (by decide)) (show (ofy4_8 (n + 719162) Y) = true from (show (decide (((ofy4_7 (n + 719162) Y) : Int) ≥ (Cal.len Y 4))) = true from decide_eq_true (by omega))) (len6_ok Y 3 (by decide) (by decide)) (show (ofy4_6 (n + 719162) Y) = true from (show (decide (((ofy4_5 (n + 719162) Y) : Int) ≥ (Cal.len Y 3))) = true from decide_eq_true (by omega))) (len6_ok Y 2 (by decide) (by decide)) (show (ofy4_4 (n + 719162) Y) = true from (show (decide (((ofy4_3 (n + 719162) Y) : Int) ≥ (Cal.len Y 2))) = true from decide_eq_true (by omega))) (len6_ok Y 1 (by decide) (by decide)) (show (ofy4_2 (n + 719162) Y) = true from (show (decide (((ofy4_1 (n + 719162) Y) : Int) ≥ (Cal.len Y 1))) = true from decide_eq_true (by omega))) (yr6_ok Y (by omega) (by omega)) (by rw [show (ofy4_0 n) = n + 719162 by omega]; exact LoopOK.junk [8, 14, 15, 16, 17, 18, 19, 20, 21, 22, 23, 24, 25, 26, 27] hloop)).cast ?_
  rw [show (ofy4_17 (n + 719162) Y) = D by omega]
theorem of6_9 (n Y D : Int) (h5 : -1000000001 ≤ Y) (h6 : Y ≤ 1000000000) (h3 : 1 ≤ D) (h4 : D ≤ Cal.len Y 9) (hn : Cal.num Y 9 D = n) :
    Sm 22 [.int .i64 n] (.tuple [.int .i64 Y, .int .i64 9, .int .i64 D]) := by
  have hyd := Cal.num_yd Y 9 D (by decide) (by decide)
  have hlt := yd_lt Y 9 D (by decide) (by decide) h3 h4
  have hnx := yr_next Y
  have hrb := yr_bd Y (by omega) (by omega)
  have hyb := yd_bd Y 9 D (by decide) (by decide) h3 (by have := Cal.len_bd Y 9; omega)
  have hloop := of_loop n (n + 719162) Y (fun _ => by omega) (fun _ => by rw [hnx]; omega) 2000000002 (-1000000001) 1000000001 (by decide) (by decide) (by decide) (by omega) (by omega)
  have hs : Cal.yd Y 9 D = D + Cal.len Y 1 + Cal.len Y 2 + Cal.len Y 3 + Cal.len Y 4 + Cal.len Y 5 + Cal.len Y 6 + Cal.len Y 7 + Cal.len Y 8 := by
    simp [Cal.len, Cal.yd]
    try (rcases Cal.leap Y with _ | _ <;> simp <;> omega)
  clear hlt hnx
  generalize hyr : Cal.yr Y = R at *
  rw [hs] at hyd hyb
  clear hs
  have l1 := Cal.len_bd Y 1
  have l2 := Cal.len_bd Y 2
  have l3 := Cal.len_bd Y 3
  have l4 := Cal.len_bd Y 4
  have l5 := Cal.len_bd Y 5
  have l6 := Cal.len_bd Y 6
  have l7 := Cal.len_bd Y 7
  have l8 := Cal.len_bd Y 8
  have l9 := Cal.len_bd Y 9
  have l10 := Cal.len_bd Y 10
  have l11 := Cal.len_bd Y 11
  have l12 := Cal.len_bd Y 12
  have hA : n + 719162 - R = D + Cal.len Y 1 + Cal.len Y 2 + Cal.len Y 3 + Cal.len Y 4 + Cal.len Y 5 + Cal.len Y 6 + Cal.len Y 7 + Cal.len Y 8 - 1 := by omega
  have e_ofy3_0 : (ofy3_0 n) = (n + 719162) := wrapI (by omega) (by omega)
  have e_ofy3_1 : (ofy3_1 (n + 719162) Y) = ((n + 719162) - (Cal.yr Y)) := wrapI (by omega) (by omega)
  have e_ofy3_3 : (ofy3_3 (n + 719162) Y) = ((ofy3_1 (n + 719162) Y) - (Cal.len Y 1)) := wrapI (by omega) (by omega)
  have e_ofy3_5 : (ofy3_5 (n + 719162) Y) = ((ofy3_3 (n + 719162) Y) - (Cal.len Y 2)) := wrapI (by omega) (by omega)
  have e_ofy3_7 : (ofy3_7 (n + 719162) Y) = ((ofy3_5 (n + 719162) Y) - (Cal.len Y 3)) := wrapI (by omega) (by omega)
  have e_ofy3_9 : (ofy3_9 (n + 719162) Y) = ((ofy3_7 (n + 719162) Y) - (Cal.len Y 4)) := wrapI (by omega) (by omega)
  have e_ofy3_11 : (ofy3_11 (n + 719162) Y) = ((ofy3_9 (n + 719162) Y) - (Cal.len Y 5)) := wrapI (by omega) (by omega)
  have e_ofy3_13 : (ofy3_13 (n + 719162) Y) = ((ofy3_11 (n + 719162) Y) - (Cal.len Y 6)) := wrapI (by omega) (by omega)
  have e_ofy3_15 : (ofy3_15 (n + 719162) Y) = ((ofy3_13 (n + 719162) Y) - (Cal.len Y 7)) := wrapI (by omega) (by omega)
  have e_ofy3_17 : (ofy3_17 (n + 719162) Y) = ((ofy3_15 (n + 719162) Y) - (Cal.len Y 8)) := wrapI (by omega) (by omega)
  have e_ofy3_19 : (ofy3_19 (n + 719162) Y) = ((ofy3_17 (n + 719162) Y) + 1) := wrapI (by omega) (by omega)
  refine (ofy3 n (n + 719162) Y (Y + 1) (show (ofy3_18 (n + 719162) Y) = false from (show (decide (((ofy3_17 (n + 719162) Y) : Int) ≥ (Cal.len Y 9))) = false from decide_eq_false (by omega))) (len6_ok Y 9 (by decide) (by decide)) (len6_ok Y 8 (by decide) (by decide)) (show (ofy3_16 (n + 719162) Y) = true from (show (decide (((ofy3_15 (n + 719162) Y) : Int) ≥ (Cal.len Y 8))) = true from decide_eq_true (by omega))) (len6_ok Y 7 (by decide) (by decide)) (show (ofy3_14 (n + 719162) Y) = true from (show (decide (((ofy3_13 (n + 719162) Y) : Int) ≥ (Cal.len Y 7))) = true from decide_eq_true (by omega))) (len6_ok Y 6 (by decide) (by decide)) (show (ofy3_12 (n + 719162) Y) = true from (show (decide (((ofy3_11 (n + 719162) Y) : Int) ≥ (Cal.len Y 6))) = true from decide_eq_true (by omega))) (len6_ok Y 5 (by decide) (by decide)) (show (ofy3_10 (n + 719162) Y) = true from (show (decide (((ofy3_9 (n + 719162) Y) : Int) ≥ (Cal.len Y 5))) = true from decide_eq_true (by omega))) (len6_ok Y 4 (by decide) (by decide)) (show (ofy3_8 (n + 719162) Y) = true from (show (decide (((ofy3_7 (n + 719162) Y) : Int) ≥ (Cal.len Y 4))) = true from decide_eq_true (by omega))) (len6_ok Y 3 (by decide) (by decide)) (show (ofy3_6 (n + 719162) Y) = true from (show (decide (((ofy3_5 (n + 719162) Y) : Int) ≥ (Cal.len Y 3))) = true from decide_eq_true (by omega))) (len6_ok Y 2 (by decide) (by decide)) (show (ofy3_4 (n + 719162) Y) = true from (show (decide (((ofy3_3 (n + 719162) Y) : Int) ≥ (Cal.len Y 2))) = true from decide_eq_true (by omega))) (len6_ok Y 1 (by decide) (by decide)) (show (ofy3_2 (n + 719162) Y) = true from (show (decide (((ofy3_1 (n + 719162) Y) : Int) ≥ (Cal.len Y 1))) = true from decide_eq_true (by omega))) (yr6_ok Y (by omega) (by omega)) (by rw [show (ofy3_0 n) = n + 719162 by omega]; exact LoopOK.junk [8, 14, 15, 16, 17, 18, 19, 20, 21, 22, 23, 24, 25, 26, 27] hloop)).cast ?_
  rw [show (ofy3_19 (n + 719162) Y) = D by omega]
theorem of6_10 (n Y D : Int) (h5 : -1000000001 ≤ Y) (h6 : Y ≤ 1000000000) (h3 : 1 ≤ D) (h4 : D ≤ Cal.len Y 10) (hn : Cal.num Y 10 D = n) :
    Sm 22 [.int .i64 n] (.tuple [.int .i64 Y, .int .i64 10, .int .i64 D]) := by
  have hyd := Cal.num_yd Y 10 D (by decide) (by decide)
  have hlt := yd_lt Y 10 D (by decide) (by decide) h3 h4
  have hnx := yr_next Y
  have hrb := yr_bd Y (by omega) (by omega)
  have hyb := yd_bd Y 10 D (by decide) (by decide) h3 (by have := Cal.len_bd Y 10; omega)
  have hloop := of_loop n (n + 719162) Y (fun _ => by omega) (fun _ => by rw [hnx]; omega) 2000000002 (-1000000001) 1000000001 (by decide) (by decide) (by decide) (by omega) (by omega)
  have hs : Cal.yd Y 10 D = D + Cal.len Y 1 + Cal.len Y 2 + Cal.len Y 3 + Cal.len Y 4 + Cal.len Y 5 + Cal.len Y 6 + Cal.len Y 7 + Cal.len Y 8 + Cal.len Y 9 := by
    simp [Cal.len, Cal.yd]
    try (rcases Cal.leap Y with _ | _ <;> simp <;> omega)
  clear hlt hnx
  generalize hyr : Cal.yr Y = R at *
  rw [hs] at hyd hyb
  clear hs
  have l1 := Cal.len_bd Y 1
  have l2 := Cal.len_bd Y 2
  have l3 := Cal.len_bd Y 3
  have l4 := Cal.len_bd Y 4
  have l5 := Cal.len_bd Y 5
  have l6 := Cal.len_bd Y 6
  have l7 := Cal.len_bd Y 7
  have l8 := Cal.len_bd Y 8
  have l9 := Cal.len_bd Y 9
  have l10 := Cal.len_bd Y 10
  have l11 := Cal.len_bd Y 11
  have l12 := Cal.len_bd Y 12
  have hA : n + 719162 - R = D + Cal.len Y 1 + Cal.len Y 2 + Cal.len Y 3 + Cal.len Y 4 + Cal.len Y 5 + Cal.len Y 6 + Cal.len Y 7 + Cal.len Y 8 + Cal.len Y 9 - 1 := by omega
  have e_ofy2_0 : (ofy2_0 n) = (n + 719162) := wrapI (by omega) (by omega)
  have e_ofy2_1 : (ofy2_1 (n + 719162) Y) = ((n + 719162) - (Cal.yr Y)) := wrapI (by omega) (by omega)
  have e_ofy2_3 : (ofy2_3 (n + 719162) Y) = ((ofy2_1 (n + 719162) Y) - (Cal.len Y 1)) := wrapI (by omega) (by omega)
  have e_ofy2_5 : (ofy2_5 (n + 719162) Y) = ((ofy2_3 (n + 719162) Y) - (Cal.len Y 2)) := wrapI (by omega) (by omega)
  have e_ofy2_7 : (ofy2_7 (n + 719162) Y) = ((ofy2_5 (n + 719162) Y) - (Cal.len Y 3)) := wrapI (by omega) (by omega)
  have e_ofy2_9 : (ofy2_9 (n + 719162) Y) = ((ofy2_7 (n + 719162) Y) - (Cal.len Y 4)) := wrapI (by omega) (by omega)
  have e_ofy2_11 : (ofy2_11 (n + 719162) Y) = ((ofy2_9 (n + 719162) Y) - (Cal.len Y 5)) := wrapI (by omega) (by omega)
  have e_ofy2_13 : (ofy2_13 (n + 719162) Y) = ((ofy2_11 (n + 719162) Y) - (Cal.len Y 6)) := wrapI (by omega) (by omega)
  have e_ofy2_15 : (ofy2_15 (n + 719162) Y) = ((ofy2_13 (n + 719162) Y) - (Cal.len Y 7)) := wrapI (by omega) (by omega)
  have e_ofy2_17 : (ofy2_17 (n + 719162) Y) = ((ofy2_15 (n + 719162) Y) - (Cal.len Y 8)) := wrapI (by omega) (by omega)
  have e_ofy2_19 : (ofy2_19 (n + 719162) Y) = ((ofy2_17 (n + 719162) Y) - (Cal.len Y 9)) := wrapI (by omega) (by omega)
  have e_ofy2_21 : (ofy2_21 (n + 719162) Y) = ((ofy2_19 (n + 719162) Y) + 1) := wrapI (by omega) (by omega)
  refine (ofy2 n (n + 719162) Y (Y + 1) (show (ofy2_20 (n + 719162) Y) = false from (show (decide (((ofy2_19 (n + 719162) Y) : Int) ≥ (Cal.len Y 10))) = false from decide_eq_false (by omega))) (len6_ok Y 10 (by decide) (by decide)) (len6_ok Y 9 (by decide) (by decide)) (show (ofy2_18 (n + 719162) Y) = true from (show (decide (((ofy2_17 (n + 719162) Y) : Int) ≥ (Cal.len Y 9))) = true from decide_eq_true (by omega))) (len6_ok Y 8 (by decide) (by decide)) (show (ofy2_16 (n + 719162) Y) = true from (show (decide (((ofy2_15 (n + 719162) Y) : Int) ≥ (Cal.len Y 8))) = true from decide_eq_true (by omega))) (len6_ok Y 7 (by decide) (by decide)) (show (ofy2_14 (n + 719162) Y) = true from (show (decide (((ofy2_13 (n + 719162) Y) : Int) ≥ (Cal.len Y 7))) = true from decide_eq_true (by omega))) (len6_ok Y 6 (by decide) (by decide)) (show (ofy2_12 (n + 719162) Y) = true from (show (decide (((ofy2_11 (n + 719162) Y) : Int) ≥ (Cal.len Y 6))) = true from decide_eq_true (by omega))) (len6_ok Y 5 (by decide) (by decide)) (show (ofy2_10 (n + 719162) Y) = true from (show (decide (((ofy2_9 (n + 719162) Y) : Int) ≥ (Cal.len Y 5))) = true from decide_eq_true (by omega))) (len6_ok Y 4 (by decide) (by decide)) (show (ofy2_8 (n + 719162) Y) = true from (show (decide (((ofy2_7 (n + 719162) Y) : Int) ≥ (Cal.len Y 4))) = true from decide_eq_true (by omega))) (len6_ok Y 3 (by decide) (by decide)) (show (ofy2_6 (n + 719162) Y) = true from (show (decide (((ofy2_5 (n + 719162) Y) : Int) ≥ (Cal.len Y 3))) = true from decide_eq_true (by omega))) (len6_ok Y 2 (by decide) (by decide)) (show (ofy2_4 (n + 719162) Y) = true from (show (decide (((ofy2_3 (n + 719162) Y) : Int) ≥ (Cal.len Y 2))) = true from decide_eq_true (by omega))) (len6_ok Y 1 (by decide) (by decide)) (show (ofy2_2 (n + 719162) Y) = true from (show (decide (((ofy2_1 (n + 719162) Y) : Int) ≥ (Cal.len Y 1))) = true from decide_eq_true (by omega))) (yr6_ok Y (by omega) (by omega)) (by rw [show (ofy2_0 n) = n + 719162 by omega]; exact LoopOK.junk [8, 14, 15, 16, 17, 18, 19, 20, 21, 22, 23, 24, 25, 26, 27] hloop)).cast ?_
  rw [show (ofy2_21 (n + 719162) Y) = D by omega]
theorem of6_11 (n Y D : Int) (h5 : -1000000001 ≤ Y) (h6 : Y ≤ 1000000000) (h3 : 1 ≤ D) (h4 : D ≤ Cal.len Y 11) (hn : Cal.num Y 11 D = n) :
    Sm 22 [.int .i64 n] (.tuple [.int .i64 Y, .int .i64 11, .int .i64 D]) := by
  have hyd := Cal.num_yd Y 11 D (by decide) (by decide)
  have hlt := yd_lt Y 11 D (by decide) (by decide) h3 h4
  have hnx := yr_next Y
  have hrb := yr_bd Y (by omega) (by omega)
  have hyb := yd_bd Y 11 D (by decide) (by decide) h3 (by have := Cal.len_bd Y 11; omega)
  have hloop := of_loop n (n + 719162) Y (fun _ => by omega) (fun _ => by rw [hnx]; omega) 2000000002 (-1000000001) 1000000001 (by decide) (by decide) (by decide) (by omega) (by omega)
  have hs : Cal.yd Y 11 D = D + Cal.len Y 1 + Cal.len Y 2 + Cal.len Y 3 + Cal.len Y 4 + Cal.len Y 5 + Cal.len Y 6 + Cal.len Y 7 + Cal.len Y 8 + Cal.len Y 9 + Cal.len Y 10 := by
    simp [Cal.len, Cal.yd]
    try (rcases Cal.leap Y with _ | _ <;> simp <;> omega)
  clear hlt hnx
  generalize hyr : Cal.yr Y = R at *
  rw [hs] at hyd hyb
  clear hs
  have l1 := Cal.len_bd Y 1
  have l2 := Cal.len_bd Y 2
  have l3 := Cal.len_bd Y 3
  have l4 := Cal.len_bd Y 4
  have l5 := Cal.len_bd Y 5
  have l6 := Cal.len_bd Y 6
  have l7 := Cal.len_bd Y 7
  have l8 := Cal.len_bd Y 8
  have l9 := Cal.len_bd Y 9
  have l10 := Cal.len_bd Y 10
  have l11 := Cal.len_bd Y 11
  have l12 := Cal.len_bd Y 12
  have hA : n + 719162 - R = D + Cal.len Y 1 + Cal.len Y 2 + Cal.len Y 3 + Cal.len Y 4 + Cal.len Y 5 + Cal.len Y 6 + Cal.len Y 7 + Cal.len Y 8 + Cal.len Y 9 + Cal.len Y 10 - 1 := by omega
  have e_ofy1_0 : (ofy1_0 n) = (n + 719162) := wrapI (by omega) (by omega)
  have e_ofy1_1 : (ofy1_1 (n + 719162) Y) = ((n + 719162) - (Cal.yr Y)) := wrapI (by omega) (by omega)
  have e_ofy1_3 : (ofy1_3 (n + 719162) Y) = ((ofy1_1 (n + 719162) Y) - (Cal.len Y 1)) := wrapI (by omega) (by omega)
  have e_ofy1_5 : (ofy1_5 (n + 719162) Y) = ((ofy1_3 (n + 719162) Y) - (Cal.len Y 2)) := wrapI (by omega) (by omega)
  have e_ofy1_7 : (ofy1_7 (n + 719162) Y) = ((ofy1_5 (n + 719162) Y) - (Cal.len Y 3)) := wrapI (by omega) (by omega)
  have e_ofy1_9 : (ofy1_9 (n + 719162) Y) = ((ofy1_7 (n + 719162) Y) - (Cal.len Y 4)) := wrapI (by omega) (by omega)
  have e_ofy1_11 : (ofy1_11 (n + 719162) Y) = ((ofy1_9 (n + 719162) Y) - (Cal.len Y 5)) := wrapI (by omega) (by omega)
  have e_ofy1_13 : (ofy1_13 (n + 719162) Y) = ((ofy1_11 (n + 719162) Y) - (Cal.len Y 6)) := wrapI (by omega) (by omega)
  have e_ofy1_15 : (ofy1_15 (n + 719162) Y) = ((ofy1_13 (n + 719162) Y) - (Cal.len Y 7)) := wrapI (by omega) (by omega)
  have e_ofy1_17 : (ofy1_17 (n + 719162) Y) = ((ofy1_15 (n + 719162) Y) - (Cal.len Y 8)) := wrapI (by omega) (by omega)
  have e_ofy1_19 : (ofy1_19 (n + 719162) Y) = ((ofy1_17 (n + 719162) Y) - (Cal.len Y 9)) := wrapI (by omega) (by omega)
  have e_ofy1_21 : (ofy1_21 (n + 719162) Y) = ((ofy1_19 (n + 719162) Y) - (Cal.len Y 10)) := wrapI (by omega) (by omega)
  have e_ofy1_23 : (ofy1_23 (n + 719162) Y) = ((ofy1_21 (n + 719162) Y) + 1) := wrapI (by omega) (by omega)
  refine (ofy1 n (n + 719162) Y (Y + 1) (show (ofy1_22 (n + 719162) Y) = false from (show (decide (((ofy1_21 (n + 719162) Y) : Int) ≥ (Cal.len Y 11))) = false from decide_eq_false (by omega))) (len6_ok Y 11 (by decide) (by decide)) (len6_ok Y 10 (by decide) (by decide)) (show (ofy1_20 (n + 719162) Y) = true from (show (decide (((ofy1_19 (n + 719162) Y) : Int) ≥ (Cal.len Y 10))) = true from decide_eq_true (by omega))) (len6_ok Y 9 (by decide) (by decide)) (show (ofy1_18 (n + 719162) Y) = true from (show (decide (((ofy1_17 (n + 719162) Y) : Int) ≥ (Cal.len Y 9))) = true from decide_eq_true (by omega))) (len6_ok Y 8 (by decide) (by decide)) (show (ofy1_16 (n + 719162) Y) = true from (show (decide (((ofy1_15 (n + 719162) Y) : Int) ≥ (Cal.len Y 8))) = true from decide_eq_true (by omega))) (len6_ok Y 7 (by decide) (by decide)) (show (ofy1_14 (n + 719162) Y) = true from (show (decide (((ofy1_13 (n + 719162) Y) : Int) ≥ (Cal.len Y 7))) = true from decide_eq_true (by omega))) (len6_ok Y 6 (by decide) (by decide)) (show (ofy1_12 (n + 719162) Y) = true from (show (decide (((ofy1_11 (n + 719162) Y) : Int) ≥ (Cal.len Y 6))) = true from decide_eq_true (by omega))) (len6_ok Y 5 (by decide) (by decide)) (show (ofy1_10 (n + 719162) Y) = true from (show (decide (((ofy1_9 (n + 719162) Y) : Int) ≥ (Cal.len Y 5))) = true from decide_eq_true (by omega))) (len6_ok Y 4 (by decide) (by decide)) (show (ofy1_8 (n + 719162) Y) = true from (show (decide (((ofy1_7 (n + 719162) Y) : Int) ≥ (Cal.len Y 4))) = true from decide_eq_true (by omega))) (len6_ok Y 3 (by decide) (by decide)) (show (ofy1_6 (n + 719162) Y) = true from (show (decide (((ofy1_5 (n + 719162) Y) : Int) ≥ (Cal.len Y 3))) = true from decide_eq_true (by omega))) (len6_ok Y 2 (by decide) (by decide)) (show (ofy1_4 (n + 719162) Y) = true from (show (decide (((ofy1_3 (n + 719162) Y) : Int) ≥ (Cal.len Y 2))) = true from decide_eq_true (by omega))) (len6_ok Y 1 (by decide) (by decide)) (show (ofy1_2 (n + 719162) Y) = true from (show (decide (((ofy1_1 (n + 719162) Y) : Int) ≥ (Cal.len Y 1))) = true from decide_eq_true (by omega))) (yr6_ok Y (by omega) (by omega)) (by rw [show (ofy1_0 n) = n + 719162 by omega]; exact LoopOK.junk [8, 14, 15, 16, 17, 18, 19, 20, 21, 22, 23, 24, 25, 26, 27] hloop)).cast ?_
  rw [show (ofy1_23 (n + 719162) Y) = D by omega]
theorem of6_12 (n Y D : Int) (h5 : -1000000001 ≤ Y) (h6 : Y ≤ 1000000000) (h3 : 1 ≤ D) (h4 : D ≤ Cal.len Y 12) (hn : Cal.num Y 12 D = n) :
    Sm 22 [.int .i64 n] (.tuple [.int .i64 Y, .int .i64 12, .int .i64 D]) := by
  have hyd := Cal.num_yd Y 12 D (by decide) (by decide)
  have hlt := yd_lt Y 12 D (by decide) (by decide) h3 h4
  have hnx := yr_next Y
  have hrb := yr_bd Y (by omega) (by omega)
  have hyb := yd_bd Y 12 D (by decide) (by decide) h3 (by have := Cal.len_bd Y 12; omega)
  have hloop := of_loop n (n + 719162) Y (fun _ => by omega) (fun _ => by rw [hnx]; omega) 2000000002 (-1000000001) 1000000001 (by decide) (by decide) (by decide) (by omega) (by omega)
  have hs : Cal.yd Y 12 D = D + Cal.len Y 1 + Cal.len Y 2 + Cal.len Y 3 + Cal.len Y 4 + Cal.len Y 5 + Cal.len Y 6 + Cal.len Y 7 + Cal.len Y 8 + Cal.len Y 9 + Cal.len Y 10 + Cal.len Y 11 := by
    simp [Cal.len, Cal.yd]
    try (rcases Cal.leap Y with _ | _ <;> simp <;> omega)
  clear hlt hnx
  generalize hyr : Cal.yr Y = R at *
  rw [hs] at hyd hyb
  clear hs
  have l1 := Cal.len_bd Y 1
  have l2 := Cal.len_bd Y 2
  have l3 := Cal.len_bd Y 3
  have l4 := Cal.len_bd Y 4
  have l5 := Cal.len_bd Y 5
  have l6 := Cal.len_bd Y 6
  have l7 := Cal.len_bd Y 7
  have l8 := Cal.len_bd Y 8
  have l9 := Cal.len_bd Y 9
  have l10 := Cal.len_bd Y 10
  have l11 := Cal.len_bd Y 11
  have l12 := Cal.len_bd Y 12
  have hA : n + 719162 - R = D + Cal.len Y 1 + Cal.len Y 2 + Cal.len Y 3 + Cal.len Y 4 + Cal.len Y 5 + Cal.len Y 6 + Cal.len Y 7 + Cal.len Y 8 + Cal.len Y 9 + Cal.len Y 10 + Cal.len Y 11 - 1 := by omega
  have e_ofy_0 : (ofy_0 n) = (n + 719162) := wrapI (by omega) (by omega)
  have e_ofy_1 : (ofy_1 (n + 719162) Y) = ((n + 719162) - (Cal.yr Y)) := wrapI (by omega) (by omega)
  have e_ofy_3 : (ofy_3 (n + 719162) Y) = ((ofy_1 (n + 719162) Y) - (Cal.len Y 1)) := wrapI (by omega) (by omega)
  have e_ofy_5 : (ofy_5 (n + 719162) Y) = ((ofy_3 (n + 719162) Y) - (Cal.len Y 2)) := wrapI (by omega) (by omega)
  have e_ofy_7 : (ofy_7 (n + 719162) Y) = ((ofy_5 (n + 719162) Y) - (Cal.len Y 3)) := wrapI (by omega) (by omega)
  have e_ofy_9 : (ofy_9 (n + 719162) Y) = ((ofy_7 (n + 719162) Y) - (Cal.len Y 4)) := wrapI (by omega) (by omega)
  have e_ofy_11 : (ofy_11 (n + 719162) Y) = ((ofy_9 (n + 719162) Y) - (Cal.len Y 5)) := wrapI (by omega) (by omega)
  have e_ofy_13 : (ofy_13 (n + 719162) Y) = ((ofy_11 (n + 719162) Y) - (Cal.len Y 6)) := wrapI (by omega) (by omega)
  have e_ofy_15 : (ofy_15 (n + 719162) Y) = ((ofy_13 (n + 719162) Y) - (Cal.len Y 7)) := wrapI (by omega) (by omega)
  have e_ofy_17 : (ofy_17 (n + 719162) Y) = ((ofy_15 (n + 719162) Y) - (Cal.len Y 8)) := wrapI (by omega) (by omega)
  have e_ofy_19 : (ofy_19 (n + 719162) Y) = ((ofy_17 (n + 719162) Y) - (Cal.len Y 9)) := wrapI (by omega) (by omega)
  have e_ofy_21 : (ofy_21 (n + 719162) Y) = ((ofy_19 (n + 719162) Y) - (Cal.len Y 10)) := wrapI (by omega) (by omega)
  have e_ofy_23 : (ofy_23 (n + 719162) Y) = ((ofy_21 (n + 719162) Y) - (Cal.len Y 11)) := wrapI (by omega) (by omega)
  have e_ofy_24 : (ofy_24 (n + 719162) Y) = ((ofy_23 (n + 719162) Y) + 1) := wrapI (by omega) (by omega)
  refine (ofy n (n + 719162) Y (Y + 1) (len6_ok Y 11 (by decide) (by decide)) (show (ofy_22 (n + 719162) Y) = true from (show (decide (((ofy_21 (n + 719162) Y) : Int) ≥ (Cal.len Y 11))) = true from decide_eq_true (by omega))) (len6_ok Y 10 (by decide) (by decide)) (show (ofy_20 (n + 719162) Y) = true from (show (decide (((ofy_19 (n + 719162) Y) : Int) ≥ (Cal.len Y 10))) = true from decide_eq_true (by omega))) (len6_ok Y 9 (by decide) (by decide)) (show (ofy_18 (n + 719162) Y) = true from (show (decide (((ofy_17 (n + 719162) Y) : Int) ≥ (Cal.len Y 9))) = true from decide_eq_true (by omega))) (len6_ok Y 8 (by decide) (by decide)) (show (ofy_16 (n + 719162) Y) = true from (show (decide (((ofy_15 (n + 719162) Y) : Int) ≥ (Cal.len Y 8))) = true from decide_eq_true (by omega))) (len6_ok Y 7 (by decide) (by decide)) (show (ofy_14 (n + 719162) Y) = true from (show (decide (((ofy_13 (n + 719162) Y) : Int) ≥ (Cal.len Y 7))) = true from decide_eq_true (by omega))) (len6_ok Y 6 (by decide) (by decide)) (show (ofy_12 (n + 719162) Y) = true from (show (decide (((ofy_11 (n + 719162) Y) : Int) ≥ (Cal.len Y 6))) = true from decide_eq_true (by omega))) (len6_ok Y 5 (by decide) (by decide)) (show (ofy_10 (n + 719162) Y) = true from (show (decide (((ofy_9 (n + 719162) Y) : Int) ≥ (Cal.len Y 5))) = true from decide_eq_true (by omega))) (len6_ok Y 4 (by decide) (by decide)) (show (ofy_8 (n + 719162) Y) = true from (show (decide (((ofy_7 (n + 719162) Y) : Int) ≥ (Cal.len Y 4))) = true from decide_eq_true (by omega))) (len6_ok Y 3 (by decide) (by decide)) (show (ofy_6 (n + 719162) Y) = true from (show (decide (((ofy_5 (n + 719162) Y) : Int) ≥ (Cal.len Y 3))) = true from decide_eq_true (by omega))) (len6_ok Y 2 (by decide) (by decide)) (show (ofy_4 (n + 719162) Y) = true from (show (decide (((ofy_3 (n + 719162) Y) : Int) ≥ (Cal.len Y 2))) = true from decide_eq_true (by omega))) (len6_ok Y 1 (by decide) (by decide)) (show (ofy_2 (n + 719162) Y) = true from (show (decide (((ofy_1 (n + 719162) Y) : Int) ≥ (Cal.len Y 1))) = true from decide_eq_true (by omega))) (yr6_ok Y (by omega) (by omega)) (by rw [show (ofy_0 n) = n + 719162 by omega]; exact LoopOK.junk [8, 14, 15, 16, 17, 18, 19, 20, 21, 22, 23, 24, 25, 26, 27] hloop)).cast ?_
  rw [show (ofy_24 (n + 719162) Y) = D by omega]
theorem of6_hi (n : Int) (h0 : -400000000000 ≤ n) (h1 : n ≤ 400000000000) (hc : 365242500000 ≤ n + 719162) : ∃ b c, Sm 22 [.int .i64 n] (.tuple [.int .i64 (1000000000), .int .i64 b, .int .i64 c]) := by
  have hloop := of_loop n (n + 719162) (1000000000) (fun _ => by rw [show Cal.yr 1000000000 = 365242499634 by decide]; omega) (fun h => by omega) 2000000002 (-1000000001) 1000000001 (by decide) (by decide) (by decide) (by decide) (by decide)
  have hyr : Cal.yr (1000000000) = 365242499634 := by decide
  have l1 := Cal.len_bd (1000000000) 1
  have l2 := Cal.len_bd (1000000000) 2
  have l3 := Cal.len_bd (1000000000) 3
  have l4 := Cal.len_bd (1000000000) 4
  have l5 := Cal.len_bd (1000000000) 5
  have l6 := Cal.len_bd (1000000000) 6
  have l7 := Cal.len_bd (1000000000) 7
  have l8 := Cal.len_bd (1000000000) 8
  have l9 := Cal.len_bd (1000000000) 9
  have l10 := Cal.len_bd (1000000000) 10
  have l11 := Cal.len_bd (1000000000) 11
  have l12 := Cal.len_bd (1000000000) 12
  have e_ofy_0 : (ofy_0 n) = (n + 719162) := wrapI (by omega) (by omega)
  have e_ofy_1 : (ofy_1 (n + 719162) (1000000000)) = ((n + 719162) - (Cal.yr (1000000000))) := wrapI (by omega) (by omega)
  have e_ofy_3 : (ofy_3 (n + 719162) (1000000000)) = ((ofy_1 (n + 719162) (1000000000)) - (Cal.len (1000000000) 1)) := wrapI (by omega) (by omega)
  have e_ofy_5 : (ofy_5 (n + 719162) (1000000000)) = ((ofy_3 (n + 719162) (1000000000)) - (Cal.len (1000000000) 2)) := wrapI (by omega) (by omega)
  have e_ofy_7 : (ofy_7 (n + 719162) (1000000000)) = ((ofy_5 (n + 719162) (1000000000)) - (Cal.len (1000000000) 3)) := wrapI (by omega) (by omega)
  have e_ofy_9 : (ofy_9 (n + 719162) (1000000000)) = ((ofy_7 (n + 719162) (1000000000)) - (Cal.len (1000000000) 4)) := wrapI (by omega) (by omega)
  have e_ofy_11 : (ofy_11 (n + 719162) (1000000000)) = ((ofy_9 (n + 719162) (1000000000)) - (Cal.len (1000000000) 5)) := wrapI (by omega) (by omega)
  have e_ofy_13 : (ofy_13 (n + 719162) (1000000000)) = ((ofy_11 (n + 719162) (1000000000)) - (Cal.len (1000000000) 6)) := wrapI (by omega) (by omega)
  have e_ofy_15 : (ofy_15 (n + 719162) (1000000000)) = ((ofy_13 (n + 719162) (1000000000)) - (Cal.len (1000000000) 7)) := wrapI (by omega) (by omega)
  have e_ofy_17 : (ofy_17 (n + 719162) (1000000000)) = ((ofy_15 (n + 719162) (1000000000)) - (Cal.len (1000000000) 8)) := wrapI (by omega) (by omega)
  have e_ofy_19 : (ofy_19 (n + 719162) (1000000000)) = ((ofy_17 (n + 719162) (1000000000)) - (Cal.len (1000000000) 9)) := wrapI (by omega) (by omega)
  have e_ofy_21 : (ofy_21 (n + 719162) (1000000000)) = ((ofy_19 (n + 719162) (1000000000)) - (Cal.len (1000000000) 10)) := wrapI (by omega) (by omega)
  have e_ofy_23 : (ofy_23 (n + 719162) (1000000000)) = ((ofy_21 (n + 719162) (1000000000)) - (Cal.len (1000000000) 11)) := wrapI (by omega) (by omega)
  have e_ofy_24 : (ofy_24 (n + 719162) (1000000000)) = ((ofy_23 (n + 719162) (1000000000)) + 1) := wrapI (by omega) (by omega)
  exact ⟨_, _, ofy n (n + 719162) (1000000000) (1000000000 + 1) (len6_ok _ 11 (by decide) (by decide)) (show (ofy_22 (n + 719162) (1000000000)) = true from (show (decide (((ofy_21 (n + 719162) (1000000000)) : Int) ≥ (Cal.len (1000000000) 11))) = true from decide_eq_true (by omega))) (len6_ok _ 10 (by decide) (by decide)) (show (ofy_20 (n + 719162) (1000000000)) = true from (show (decide (((ofy_19 (n + 719162) (1000000000)) : Int) ≥ (Cal.len (1000000000) 10))) = true from decide_eq_true (by omega))) (len6_ok _ 9 (by decide) (by decide)) (show (ofy_18 (n + 719162) (1000000000)) = true from (show (decide (((ofy_17 (n + 719162) (1000000000)) : Int) ≥ (Cal.len (1000000000) 9))) = true from decide_eq_true (by omega))) (len6_ok _ 8 (by decide) (by decide)) (show (ofy_16 (n + 719162) (1000000000)) = true from (show (decide (((ofy_15 (n + 719162) (1000000000)) : Int) ≥ (Cal.len (1000000000) 8))) = true from decide_eq_true (by omega))) (len6_ok _ 7 (by decide) (by decide)) (show (ofy_14 (n + 719162) (1000000000)) = true from (show (decide (((ofy_13 (n + 719162) (1000000000)) : Int) ≥ (Cal.len (1000000000) 7))) = true from decide_eq_true (by omega))) (len6_ok _ 6 (by decide) (by decide)) (show (ofy_12 (n + 719162) (1000000000)) = true from (show (decide (((ofy_11 (n + 719162) (1000000000)) : Int) ≥ (Cal.len (1000000000) 6))) = true from decide_eq_true (by omega))) (len6_ok _ 5 (by decide) (by decide)) (show (ofy_10 (n + 719162) (1000000000)) = true from (show (decide (((ofy_9 (n + 719162) (1000000000)) : Int) ≥ (Cal.len (1000000000) 5))) = true from decide_eq_true (by omega))) (len6_ok _ 4 (by decide) (by decide)) (show (ofy_8 (n + 719162) (1000000000)) = true from (show (decide (((ofy_7 (n + 719162) (1000000000)) : Int) ≥ (Cal.len (1000000000) 4))) = true from decide_eq_true (by omega))) (len6_ok _ 3 (by decide) (by decide)) (show (ofy_6 (n + 719162) (1000000000)) = true from (show (decide (((ofy_5 (n + 719162) (1000000000)) : Int) ≥ (Cal.len (1000000000) 3))) = true from decide_eq_true (by omega))) (len6_ok _ 2 (by decide) (by decide)) (show (ofy_4 (n + 719162) (1000000000)) = true from (show (decide (((ofy_3 (n + 719162) (1000000000)) : Int) ≥ (Cal.len (1000000000) 2))) = true from decide_eq_true (by omega))) (len6_ok _ 1 (by decide) (by decide)) (show (ofy_2 (n + 719162) (1000000000)) = true from (show (decide (((ofy_1 (n + 719162) (1000000000)) : Int) ≥ (Cal.len (1000000000) 1))) = true from decide_eq_true (by omega))) (yr6_ok _ (by decide) (by decide)) (by rw [show (ofy_0 n) = n + 719162 by omega]; exact LoopOK.junk [8, 14, 15, 16, 17, 18, 19, 20, 21, 22, 23, 24, 25, 26, 27] hloop)⟩
theorem of6_lo (n : Int) (h0 : -400000000000 ≤ n) (h1 : n ≤ 400000000000) (hc : n + 719162 < -365242500731) : ∃ b c, Sm 22 [.int .i64 n] (.tuple [.int .i64 (-1000000001), .int .i64 b, .int .i64 c]) := by
  have hloop := of_loop n (n + 719162) (-1000000001) (fun h => by omega) (fun _ => by have := yr_mono (-1000000001) (-1000000001 + 1) (by decide); rw [show Cal.yr (-1000000001) = -365242500731 by decide] at this; omega) 2000000002 (-1000000001) 1000000001 (by decide) (by decide) (by decide) (by decide) (by decide)
  have hyr : Cal.yr (-1000000001) = -365242500731 := by decide
  have l1 := Cal.len_bd (-1000000001) 1
  have l2 := Cal.len_bd (-1000000001) 2
  have l3 := Cal.len_bd (-1000000001) 3
  have l4 := Cal.len_bd (-1000000001) 4
  have l5 := Cal.len_bd (-1000000001) 5
  have l6 := Cal.len_bd (-1000000001) 6
  have l7 := Cal.len_bd (-1000000001) 7
  have l8 := Cal.len_bd (-1000000001) 8
  have l9 := Cal.len_bd (-1000000001) 9
  have l10 := Cal.len_bd (-1000000001) 10
  have l11 := Cal.len_bd (-1000000001) 11
  have l12 := Cal.len_bd (-1000000001) 12
  have e_ofy11_0 : (ofy11_0 n) = (n + 719162) := wrapI (by omega) (by omega)
  have e_ofy11_1 : (ofy11_1 (n + 719162) (-1000000001)) = ((n + 719162) - (Cal.yr (-1000000001))) := wrapI (by omega) (by omega)
  have e_ofy11_3 : (ofy11_3 (n + 719162) (-1000000001)) = ((ofy11_1 (n + 719162) (-1000000001)) + 1) := wrapI (by omega) (by omega)
  exact ⟨_, _, ofy11 n (n + 719162) (-1000000001) (-1000000001 + 1) (show (ofy11_2 (n + 719162) (-1000000001)) = false from (show (decide (((ofy11_1 (n + 719162) (-1000000001)) : Int) ≥ (Cal.len (-1000000001) 1))) = false from decide_eq_false (by omega))) (len6_ok _ 1 (by decide) (by decide)) (yr6_ok _ (by decide) (by decide)) (by rw [show (ofy11_0 n) = n + 719162 by omega]; exact LoopOK.junk [8, 14, 15, 16, 17, 18, 19, 20, 21, 22, 23, 24, 25, 26, 27] hloop)⟩
end Go.Proofs.YtmekaipcoghlfaaGreatDoor
end
