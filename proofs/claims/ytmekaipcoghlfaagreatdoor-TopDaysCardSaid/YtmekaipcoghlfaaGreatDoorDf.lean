/-
  Part of the proof of TopDays: lemmas that the others lean on.
-/
import Derived.Test.YtmekaipcoghlfaaGreatDoorDe
set_option linter.all false
set_option linter.unusedVariables false
set_option linter.unusedSimpArgs false
noncomputable section
namespace Go.Proofs.YtmekaipcoghlfaaGreatDoor
open Go Go.Am Go.Proofs
/-- A number's numeral of at least so many digits. -/
def padL (w n : Nat) : List Nat := digs (max w (nd n)) n
theorem digs_length : ∀ k n, (digs k n).length = k
  | 0, _ => rfl
  | k + 1, n => by rw [digs, List.length_append, digs_length k]; rfl
theorem pad4_1 (n : Nat) (o0 : Sm 62 [.int .i64 ((n : Nat) : Int)] (.str [48 + n / 1 % 10])) :
    Sm 42 [.int .i64 ((n : Nat) : Int), .int .i64 4] (.str [48, 48, 48, 48 + n / 1 % 10]) :=
  .of1 (scr := [.auto 1, .ret (.str [48 + n / 1 % 10]) []]) (rest := []) (rd := []) (fun h => by kernel_rfl) (ac1 o0.e1 an)
theorem pad4_2 (n : Nat) (o0 : Sm 62 [.int .i64 ((n : Nat) : Int)] (.str [48 + n / 10 % 10, 48 + n / 1 % 10])) :
    Sm 42 [.int .i64 ((n : Nat) : Int), .int .i64 4] (.str [48, 48, 48 + n / 10 % 10, 48 + n / 1 % 10]) :=
  .of1 (scr := [.auto 1, .ret (.str [48 + n / 10 % 10, 48 + n / 1 % 10]) []]) (rest := []) (rd := []) (fun h => by kernel_rfl) (ac1 o0.e1 an)
theorem pad4_3 (n : Nat) (o0 : Sm 62 [.int .i64 ((n : Nat) : Int)] (.str [48 + n / 100 % 10, 48 + n / 10 % 10, 48 + n / 1 % 10])) :
    Sm 42 [.int .i64 ((n : Nat) : Int), .int .i64 4] (.str [48, 48 + n / 100 % 10, 48 + n / 10 % 10, 48 + n / 1 % 10]) :=
  .of1 (scr := [.auto 1, .ret (.str [48 + n / 100 % 10, 48 + n / 10 % 10, 48 + n / 1 % 10]) []]) (rest := []) (rd := []) (fun h => by kernel_rfl) (ac1 o0.e1 an)
theorem pad4_4 (n : Nat) (o0 : Sm 62 [.int .i64 ((n : Nat) : Int)] (.str [48 + n / 1000 % 10, 48 + n / 100 % 10, 48 + n / 10 % 10, 48 + n / 1 % 10])) :
    Sm 42 [.int .i64 ((n : Nat) : Int), .int .i64 4] (.str [48 + n / 1000 % 10, 48 + n / 100 % 10, 48 + n / 10 % 10, 48 + n / 1 % 10]) :=
  .of1 (scr := [.auto 1, .ret (.str [48 + n / 1000 % 10, 48 + n / 100 % 10, 48 + n / 10 % 10, 48 + n / 1 % 10]) []]) (rest := []) (rd := []) (fun h => by kernel_rfl) (ac1 o0.e1 an)
theorem pad4_5 (n : Nat) (o0 : Sm 62 [.int .i64 ((n : Nat) : Int)] (.str [48 + n / 10000 % 10, 48 + n / 1000 % 10, 48 + n / 100 % 10, 48 + n / 10 % 10, 48 + n / 1 % 10])) :
    Sm 42 [.int .i64 ((n : Nat) : Int), .int .i64 4] (.str [48 + n / 10000 % 10, 48 + n / 1000 % 10, 48 + n / 100 % 10, 48 + n / 10 % 10, 48 + n / 1 % 10]) :=
  .of1 (scr := [.auto 1, .ret (.str [48 + n / 10000 % 10, 48 + n / 1000 % 10, 48 + n / 100 % 10, 48 + n / 10 % 10, 48 + n / 1 % 10]) []]) (rest := []) (rd := []) (fun h => by kernel_rfl) (ac1 o0.e1 an)
theorem pad4_6 (n : Nat) (o0 : Sm 62 [.int .i64 ((n : Nat) : Int)] (.str [48 + n / 100000 % 10, 48 + n / 10000 % 10, 48 + n / 1000 % 10, 48 + n / 100 % 10, 48 + n / 10 % 10, 48 + n / 1 % 10])) :
    Sm 42 [.int .i64 ((n : Nat) : Int), .int .i64 4] (.str [48 + n / 100000 % 10, 48 + n / 10000 % 10, 48 + n / 1000 % 10, 48 + n / 100 % 10, 48 + n / 10 % 10, 48 + n / 1 % 10]) :=
  .of1 (scr := [.auto 1, .ret (.str [48 + n / 100000 % 10, 48 + n / 10000 % 10, 48 + n / 1000 % 10, 48 + n / 100 % 10, 48 + n / 10 % 10, 48 + n / 1 % 10]) []]) (rest := []) (rd := []) (fun h => by kernel_rfl) (ac1 o0.e1 an)
theorem pad4_7 (n : Nat) (o0 : Sm 62 [.int .i64 ((n : Nat) : Int)] (.str [48 + n / 1000000 % 10, 48 + n / 100000 % 10, 48 + n / 10000 % 10, 48 + n / 1000 % 10, 48 + n / 100 % 10, 48 + n / 10 % 10, 48 + n / 1 % 10])) :
    Sm 42 [.int .i64 ((n : Nat) : Int), .int .i64 4] (.str [48 + n / 1000000 % 10, 48 + n / 100000 % 10, 48 + n / 10000 % 10, 48 + n / 1000 % 10, 48 + n / 100 % 10, 48 + n / 10 % 10, 48 + n / 1 % 10]) :=
  .of1 (scr := [.auto 1, .ret (.str [48 + n / 1000000 % 10, 48 + n / 100000 % 10, 48 + n / 10000 % 10, 48 + n / 1000 % 10, 48 + n / 100 % 10, 48 + n / 10 % 10, 48 + n / 1 % 10]) []]) (rest := []) (rd := []) (fun h => by kernel_rfl) (ac1 o0.e1 an)
theorem pad4_8 (n : Nat) (o0 : Sm 62 [.int .i64 ((n : Nat) : Int)] (.str [48 + n / 10000000 % 10, 48 + n / 1000000 % 10, 48 + n / 100000 % 10, 48 + n / 10000 % 10, 48 + n / 1000 % 10, 48 + n / 100 % 10, 48 + n / 10 % 10, 48 + n / 1 % 10])) :
    Sm 42 [.int .i64 ((n : Nat) : Int), .int .i64 4] (.str [48 + n / 10000000 % 10, 48 + n / 1000000 % 10, 48 + n / 100000 % 10, 48 + n / 10000 % 10, 48 + n / 1000 % 10, 48 + n / 100 % 10, 48 + n / 10 % 10, 48 + n / 1 % 10]) :=
  .of1 (scr := [.auto 1, .ret (.str [48 + n / 10000000 % 10, 48 + n / 1000000 % 10, 48 + n / 100000 % 10, 48 + n / 10000 % 10, 48 + n / 1000 % 10, 48 + n / 100 % 10, 48 + n / 10 % 10, 48 + n / 1 % 10]) []]) (rest := []) (rd := []) (fun h => by kernel_rfl) (ac1 o0.e1 an)
theorem pad4_9 (n : Nat) (o0 : Sm 62 [.int .i64 ((n : Nat) : Int)] (.str [48 + n / 100000000 % 10, 48 + n / 10000000 % 10, 48 + n / 1000000 % 10, 48 + n / 100000 % 10, 48 + n / 10000 % 10, 48 + n / 1000 % 10, 48 + n / 100 % 10, 48 + n / 10 % 10, 48 + n / 1 % 10])) :
    Sm 42 [.int .i64 ((n : Nat) : Int), .int .i64 4] (.str [48 + n / 100000000 % 10, 48 + n / 10000000 % 10, 48 + n / 1000000 % 10, 48 + n / 100000 % 10, 48 + n / 10000 % 10, 48 + n / 1000 % 10, 48 + n / 100 % 10, 48 + n / 10 % 10, 48 + n / 1 % 10]) :=
  .of1 (scr := [.auto 1, .ret (.str [48 + n / 100000000 % 10, 48 + n / 10000000 % 10, 48 + n / 1000000 % 10, 48 + n / 100000 % 10, 48 + n / 10000 % 10, 48 + n / 1000 % 10, 48 + n / 100 % 10, 48 + n / 10 % 10, 48 + n / 1 % 10]) []]) (rest := []) (rd := []) (fun h => by kernel_rfl) (ac1 o0.e1 an)
theorem pad2_1 (n : Nat) (o0 : Sm 62 [.int .i64 ((n : Nat) : Int)] (.str [48 + n / 1 % 10])) :
    Sm 42 [.int .i64 ((n : Nat) : Int), .int .i64 2] (.str [48, 48 + n / 1 % 10]) :=
  .of1 (scr := [.auto 1, .ret (.str [48 + n / 1 % 10]) []]) (rest := []) (rd := []) (fun h => by kernel_rfl) (ac1 o0.e1 an)
theorem pad2_2 (n : Nat) (o0 : Sm 62 [.int .i64 ((n : Nat) : Int)] (.str [48 + n / 10 % 10, 48 + n / 1 % 10])) :
    Sm 42 [.int .i64 ((n : Nat) : Int), .int .i64 2] (.str [48 + n / 10 % 10, 48 + n / 1 % 10]) :=
  .of1 (scr := [.auto 1, .ret (.str [48 + n / 10 % 10, 48 + n / 1 % 10]) []]) (rest := []) (rd := []) (fun h => by kernel_rfl) (ac1 o0.e1 an)
def ldate_0 (y m d : Int) (p q r : List Nat) : Int := (IntKind.wrap .i64 (0 - y))
def ldate_1 (p q : List Nat) : List Nat := (((([45] ++ p) ++ [45]) ++ q) ++ [45])
theorem ldate (y m d : Int) (p q r : List Nat) (o0 : (Nat.ble (List.length (ldate_1 p q) + List.length r) 4611686018427387904) = true) (o1 : Sm 42 [.int .i64 d, .int .i64 2] (.str r)) (o2 : (Nat.ble (List.length ((([45] ++ p) ++ [45]) ++ q) + List.length [45]) 4611686018427387904) = true) (o3 : (Nat.ble (List.length (([45] ++ p) ++ [45]) + List.length q) 4611686018427387904) = true) (o4 : Sm 42 [.int .i64 m, .int .i64 2] (.str q)) (o5 : (Nat.ble (List.length ([45] ++ p) + List.length [45]) 4611686018427387904) = true) (o6 : (Nat.ble (List.length [45] + List.length p) 4611686018427387904) = true) (o7 : Sm 42 [.int .i64 (ldate_0 y m d p q r), .int .i64 4] (.str p)) (o8 : (decide ((y : Int) < 0)) = true) (o9 : Sm 41 [.agg [.int .i64 y, .int .i64 m, .int .i64 d]] (.bool true)) :
    Sm 20 [.agg [.int .i64 y, .int .i64 m, .int .i64 d]] (.str ((ldate_1 p q) ++ r)) :=
  .of1 (scr := [.auto 2, .ret (.bool true) [], .auto 2, .br true, .ret (.str p) [], .ob, .ob, .auto 1, .ret (.str q) [], .ob, .ob, .auto 1, .ret (.str r) [], .ob]) (rest := []) (rd := []) (fun h => by kernel_rfl) (ac2 o0 o1.e1 (ac8 o2 o3 o4.e1 o5 o6 o7.e1 o8 o9.e1 an))
def ldate1_0 (p q r : List Nat) : List Nat := ((((([] ++ p) ++ [45]) ++ q) ++ [45]) ++ r)
theorem ldate1 (y m d : Int) (p q r : List Nat) (o0 : (Nat.ble (List.length (((([] ++ p) ++ [45]) ++ q) ++ [45]) + List.length r) 4611686018427387904) = true) (o1 : Sm 42 [.int .i64 d, .int .i64 2] (.str r)) (o2 : (Nat.ble (List.length ((([] ++ p) ++ [45]) ++ q) + List.length [45]) 4611686018427387904) = true) (o3 : (Nat.ble (List.length (([] ++ p) ++ [45]) + List.length q) 4611686018427387904) = true) (o4 : Sm 42 [.int .i64 m, .int .i64 2] (.str q)) (o5 : (Nat.ble (List.length ([] ++ p) + List.length [45]) 4611686018427387904) = true) (o6 : (Nat.ble (List.length ([] : List Nat) + List.length p) 4611686018427387904) = true) (o7 : Sm 42 [.int .i64 y, .int .i64 4] (.str p)) (o8 : (decide ((y : Int) < 0)) = false) (o9 : Sm 41 [.agg [.int .i64 y, .int .i64 m, .int .i64 d]] (.bool true)) :
    Sm 20 [.agg [.int .i64 y, .int .i64 m, .int .i64 d]] (.str (ldate1_0 p q r)) :=
  .of1 (scr := [.auto 2, .ret (.bool true) [], .auto 2, .br false, .ret (.str p) [], .ob, .ob, .auto 1, .ret (.str q) [], .ob, .ob, .auto 1, .ret (.str r) [], .ob]) (rest := []) (rd := []) (fun h => by kernel_rfl) (ac2 o0 o1.e1 (ac8 o2 o3 o4.e1 o5 o6 o7.e1 o8 o9.e1 an))
theorem padn4_1 (n : Nat) (h0 : 0 ≤ n) (h1 : n ≤ 9) : Sm 42 [.int .i64 (n : Int), .int .i64 4] (.str (padL 4 n)) := by
  have hnd : nd n ≤ 1 := nd_lt (by omega)
  have hi : itoaL n = [48 + n / 1 % 10] := by
    unfold itoaL
    rw [show max 1 (nd n) = 1 by omega]
    simp only [digs, List.nil_append, List.cons_append, Nat.div_div_eq_div_mul, Nat.reduceMul, Nat.div_one]
  have hp : padL 4 n = [48, 48, 48, 48 + n / 1 % 10] := by
    have z1 : n / 10 % 10 = 0 := by omega
    have z2 : n / 100 % 10 = 0 := by omega
    have z3 : n / 1000 % 10 = 0 := by omega
    unfold padL
    rw [show max 4 (nd n) = 4 by omega]
    simp only [digs, List.nil_append, List.cons_append, Nat.div_div_eq_div_mul, Nat.reduceMul, Nat.div_one, z1, Nat.add_zero, z2, Nat.add_zero, z3, Nat.add_zero]
  have := itoa_ok n (by omega)
  rw [hi] at this
  rw [hp]
  exact pad4_1 n this
theorem padn4_2 (n : Nat) (h0 : 10 ≤ n) (h1 : n ≤ 99) : Sm 42 [.int .i64 (n : Int), .int .i64 4] (.str (padL 4 n)) := by
  have hnd : nd n = 2 := nd_eq (k := 1) (by omega) (by omega)
  have hi : itoaL n = [48 + n / 10 % 10, 48 + n / 1 % 10] := by
    unfold itoaL
    rw [show max 1 (nd n) = 2 by omega]
    simp only [digs, List.nil_append, List.cons_append, Nat.div_div_eq_div_mul, Nat.reduceMul, Nat.div_one]
  have hp : padL 4 n = [48, 48, 48 + n / 10 % 10, 48 + n / 1 % 10] := by
    have z2 : n / 100 % 10 = 0 := by omega
    have z3 : n / 1000 % 10 = 0 := by omega
    unfold padL
    rw [show max 4 (nd n) = 4 by omega]
    simp only [digs, List.nil_append, List.cons_append, Nat.div_div_eq_div_mul, Nat.reduceMul, Nat.div_one, z2, Nat.add_zero, z3, Nat.add_zero]
  have := itoa_ok n (by omega)
  rw [hi] at this
  rw [hp]
  exact pad4_2 n this
theorem padn4_3 (n : Nat) (h0 : 100 ≤ n) (h1 : n ≤ 999) : Sm 42 [.int .i64 (n : Int), .int .i64 4] (.str (padL 4 n)) := by
  have hnd : nd n = 3 := nd_eq (k := 2) (by omega) (by omega)
  have hi : itoaL n = [48 + n / 100 % 10, 48 + n / 10 % 10, 48 + n / 1 % 10] := by
    unfold itoaL
    rw [show max 1 (nd n) = 3 by omega]
    simp only [digs, List.nil_append, List.cons_append, Nat.div_div_eq_div_mul, Nat.reduceMul, Nat.div_one]
  have hp : padL 4 n = [48, 48 + n / 100 % 10, 48 + n / 10 % 10, 48 + n / 1 % 10] := by
    have z3 : n / 1000 % 10 = 0 := by omega
    unfold padL
    rw [show max 4 (nd n) = 4 by omega]
    simp only [digs, List.nil_append, List.cons_append, Nat.div_div_eq_div_mul, Nat.reduceMul, Nat.div_one, z3, Nat.add_zero]
  have := itoa_ok n (by omega)
  rw [hi] at this
  rw [hp]
  exact pad4_3 n this
theorem padn4_4 (n : Nat) (h0 : 1000 ≤ n) (h1 : n ≤ 9999) : Sm 42 [.int .i64 (n : Int), .int .i64 4] (.str (padL 4 n)) := by
  have hnd : nd n = 4 := nd_eq (k := 3) (by omega) (by omega)
  have hi : itoaL n = [48 + n / 1000 % 10, 48 + n / 100 % 10, 48 + n / 10 % 10, 48 + n / 1 % 10] := by
    unfold itoaL
    rw [show max 1 (nd n) = 4 by omega]
    simp only [digs, List.nil_append, List.cons_append, Nat.div_div_eq_div_mul, Nat.reduceMul, Nat.div_one]
  have hp : padL 4 n = [48 + n / 1000 % 10, 48 + n / 100 % 10, 48 + n / 10 % 10, 48 + n / 1 % 10] := by

    unfold padL
    rw [show max 4 (nd n) = 4 by omega]
    simp only [digs, List.nil_append, List.cons_append, Nat.div_div_eq_div_mul, Nat.reduceMul, Nat.div_one]
  have := itoa_ok n (by omega)
  rw [hi] at this
  rw [hp]
  exact pad4_4 n this
theorem padn4_5 (n : Nat) (h0 : 10000 ≤ n) (h1 : n ≤ 99999) : Sm 42 [.int .i64 (n : Int), .int .i64 4] (.str (padL 4 n)) := by
  have hnd : nd n = 5 := nd_eq (k := 4) (by omega) (by omega)
  have hi : itoaL n = [48 + n / 10000 % 10, 48 + n / 1000 % 10, 48 + n / 100 % 10, 48 + n / 10 % 10, 48 + n / 1 % 10] := by
    unfold itoaL
    rw [show max 1 (nd n) = 5 by omega]
    simp only [digs, List.nil_append, List.cons_append, Nat.div_div_eq_div_mul, Nat.reduceMul, Nat.div_one]
  have hp : padL 4 n = [48 + n / 10000 % 10, 48 + n / 1000 % 10, 48 + n / 100 % 10, 48 + n / 10 % 10, 48 + n / 1 % 10] := by

    unfold padL
    rw [show max 4 (nd n) = 5 by omega]
    simp only [digs, List.nil_append, List.cons_append, Nat.div_div_eq_div_mul, Nat.reduceMul, Nat.div_one]
  have := itoa_ok n (by omega)
  rw [hi] at this
  rw [hp]
  exact pad4_5 n this
theorem padn4_6 (n : Nat) (h0 : 100000 ≤ n) (h1 : n ≤ 999999) : Sm 42 [.int .i64 (n : Int), .int .i64 4] (.str (padL 4 n)) := by
  have hnd : nd n = 6 := nd_eq (k := 5) (by omega) (by omega)
  have hi : itoaL n = [48 + n / 100000 % 10, 48 + n / 10000 % 10, 48 + n / 1000 % 10, 48 + n / 100 % 10, 48 + n / 10 % 10, 48 + n / 1 % 10] := by
    unfold itoaL
    rw [show max 1 (nd n) = 6 by omega]
    simp only [digs, List.nil_append, List.cons_append, Nat.div_div_eq_div_mul, Nat.reduceMul, Nat.div_one]
  have hp : padL 4 n = [48 + n / 100000 % 10, 48 + n / 10000 % 10, 48 + n / 1000 % 10, 48 + n / 100 % 10, 48 + n / 10 % 10, 48 + n / 1 % 10] := by

    unfold padL
    rw [show max 4 (nd n) = 6 by omega]
    simp only [digs, List.nil_append, List.cons_append, Nat.div_div_eq_div_mul, Nat.reduceMul, Nat.div_one]
  have := itoa_ok n (by omega)
  rw [hi] at this
  rw [hp]
  exact pad4_6 n this
theorem padn4_7 (n : Nat) (h0 : 1000000 ≤ n) (h1 : n ≤ 9999999) : Sm 42 [.int .i64 (n : Int), .int .i64 4] (.str (padL 4 n)) := by
  have hnd : nd n = 7 := nd_eq (k := 6) (by omega) (by omega)
  have hi : itoaL n = [48 + n / 1000000 % 10, 48 + n / 100000 % 10, 48 + n / 10000 % 10, 48 + n / 1000 % 10, 48 + n / 100 % 10, 48 + n / 10 % 10, 48 + n / 1 % 10] := by
    unfold itoaL
    rw [show max 1 (nd n) = 7 by omega]
    simp only [digs, List.nil_append, List.cons_append, Nat.div_div_eq_div_mul, Nat.reduceMul, Nat.div_one]
  have hp : padL 4 n = [48 + n / 1000000 % 10, 48 + n / 100000 % 10, 48 + n / 10000 % 10, 48 + n / 1000 % 10, 48 + n / 100 % 10, 48 + n / 10 % 10, 48 + n / 1 % 10] := by

    unfold padL
    rw [show max 4 (nd n) = 7 by omega]
    simp only [digs, List.nil_append, List.cons_append, Nat.div_div_eq_div_mul, Nat.reduceMul, Nat.div_one]
  have := itoa_ok n (by omega)
  rw [hi] at this
  rw [hp]
  exact pad4_7 n this
theorem padn4_8 (n : Nat) (h0 : 10000000 ≤ n) (h1 : n ≤ 99999999) : Sm 42 [.int .i64 (n : Int), .int .i64 4] (.str (padL 4 n)) := by
  have hnd : nd n = 8 := nd_eq (k := 7) (by omega) (by omega)
  have hi : itoaL n = [48 + n / 10000000 % 10, 48 + n / 1000000 % 10, 48 + n / 100000 % 10, 48 + n / 10000 % 10, 48 + n / 1000 % 10, 48 + n / 100 % 10, 48 + n / 10 % 10, 48 + n / 1 % 10] := by
    unfold itoaL
    rw [show max 1 (nd n) = 8 by omega]
    simp only [digs, List.nil_append, List.cons_append, Nat.div_div_eq_div_mul, Nat.reduceMul, Nat.div_one]
  have hp : padL 4 n = [48 + n / 10000000 % 10, 48 + n / 1000000 % 10, 48 + n / 100000 % 10, 48 + n / 10000 % 10, 48 + n / 1000 % 10, 48 + n / 100 % 10, 48 + n / 10 % 10, 48 + n / 1 % 10] := by

    unfold padL
    rw [show max 4 (nd n) = 8 by omega]
    simp only [digs, List.nil_append, List.cons_append, Nat.div_div_eq_div_mul, Nat.reduceMul, Nat.div_one]
  have := itoa_ok n (by omega)
  rw [hi] at this
  rw [hp]
  exact pad4_8 n this
theorem padn4_9 (n : Nat) (h0 : 100000000 ≤ n) (h1 : n ≤ 999999999) : Sm 42 [.int .i64 (n : Int), .int .i64 4] (.str (padL 4 n)) := by
  have hnd : nd n = 9 := nd_eq (k := 8) (by omega) (by omega)
  have hi : itoaL n = [48 + n / 100000000 % 10, 48 + n / 10000000 % 10, 48 + n / 1000000 % 10, 48 + n / 100000 % 10, 48 + n / 10000 % 10, 48 + n / 1000 % 10, 48 + n / 100 % 10, 48 + n / 10 % 10, 48 + n / 1 % 10] := by
    unfold itoaL
    rw [show max 1 (nd n) = 9 by omega]
    simp only [digs, List.nil_append, List.cons_append, Nat.div_div_eq_div_mul, Nat.reduceMul, Nat.div_one]
  have hp : padL 4 n = [48 + n / 100000000 % 10, 48 + n / 10000000 % 10, 48 + n / 1000000 % 10, 48 + n / 100000 % 10, 48 + n / 10000 % 10, 48 + n / 1000 % 10, 48 + n / 100 % 10, 48 + n / 10 % 10, 48 + n / 1 % 10] := by

    unfold padL
    rw [show max 4 (nd n) = 9 by omega]
    simp only [digs, List.nil_append, List.cons_append, Nat.div_div_eq_div_mul, Nat.reduceMul, Nat.div_one]
  have := itoa_ok n (by omega)
  rw [hi] at this
  rw [hp]
  exact pad4_9 n this
theorem padn2_1 (n : Nat) (h0 : 0 ≤ n) (h1 : n ≤ 9) : Sm 42 [.int .i64 (n : Int), .int .i64 2] (.str (padL 2 n)) := by
  have hnd : nd n ≤ 1 := nd_lt (by omega)
  have hi : itoaL n = [48 + n / 1 % 10] := by
    unfold itoaL
    rw [show max 1 (nd n) = 1 by omega]
    simp only [digs, List.nil_append, List.cons_append, Nat.div_div_eq_div_mul, Nat.reduceMul, Nat.div_one]
  have hp : padL 2 n = [48, 48 + n / 1 % 10] := by
    have z1 : n / 10 % 10 = 0 := by omega
    unfold padL
    rw [show max 2 (nd n) = 2 by omega]
    simp only [digs, List.nil_append, List.cons_append, Nat.div_div_eq_div_mul, Nat.reduceMul, Nat.div_one, z1, Nat.add_zero]
  have := itoa_ok n (by omega)
  rw [hi] at this
  rw [hp]
  exact pad2_1 n this
theorem padn2_2 (n : Nat) (h0 : 10 ≤ n) (h1 : n ≤ 99) : Sm 42 [.int .i64 (n : Int), .int .i64 2] (.str (padL 2 n)) := by
  have hnd : nd n = 2 := nd_eq (k := 1) (by omega) (by omega)
  have hi : itoaL n = [48 + n / 10 % 10, 48 + n / 1 % 10] := by
    unfold itoaL
    rw [show max 1 (nd n) = 2 by omega]
    simp only [digs, List.nil_append, List.cons_append, Nat.div_div_eq_div_mul, Nat.reduceMul, Nat.div_one]
  have hp : padL 2 n = [48 + n / 10 % 10, 48 + n / 1 % 10] := by

    unfold padL
    rw [show max 2 (nd n) = 2 by omega]
    simp only [digs, List.nil_append, List.cons_append, Nat.div_div_eq_div_mul, Nat.reduceMul, Nat.div_one]
  have := itoa_ok n (by omega)
  rw [hi] at this
  rw [hp]
  exact pad2_2 n this
theorem pad4_ok (n : Nat) (h : n ≤ 999999999) : Sm 42 [.int .i64 (n : Int), .int .i64 4] (.str (padL 4 n)) := by
  by_cases h1 : n ≤ 9
  · exact padn4_1 n (by omega) h1
  by_cases h2 : n ≤ 99
  · exact padn4_2 n (by omega) h2
  by_cases h3 : n ≤ 999
  · exact padn4_3 n (by omega) h3
  by_cases h4 : n ≤ 9999
  · exact padn4_4 n (by omega) h4
  by_cases h5 : n ≤ 99999
  · exact padn4_5 n (by omega) h5
  by_cases h6 : n ≤ 999999
  · exact padn4_6 n (by omega) h6
  by_cases h7 : n ≤ 9999999
  · exact padn4_7 n (by omega) h7
  by_cases h8 : n ≤ 99999999
  · exact padn4_8 n (by omega) h8
  exact padn4_9 n (by omega) h
theorem pad2_ok (n : Nat) (h : n ≤ 99) : Sm 42 [.int .i64 (n : Int), .int .i64 2] (.str (padL 2 n)) := by
  by_cases h1 : n ≤ 9
  · exact padn2_1 n (by omega) h1
  · exact padn2_2 n (by omega) h
/-- A day's text. -/
def dateL (y m d : Int) : List Nat := (if y < 0 then [45] else []) ++ padL 4 y.natAbs ++ [45] ++ padL 2 m.natAbs ++ [45] ++ padL 2 d.natAbs
theorem padL_len {w n k : Nat} (hw : w ≤ k) (h : n < 10 ^ k) : (padL w n).length ≤ k := by
  unfold padL
  rw [digs_length]
  have := nd_lt h
  omega
theorem ble (a b : Nat) (h : a ≤ b) : Nat.ble a b = true := Nat.ble_eq_true_of_le h
theorem date_ok (y m d : Int) (h1 : 1 ≤ m) (h2 : m ≤ 12) (h3 : 1 ≤ d) (h4 : d ≤ Cal.len y m) (h5 : -999999999 ≤ y) (h6 : y ≤ 999999999) :
    Sm 20 [.agg [.int .i64 y, .int .i64 m, .int .i64 d]] (.str (dateL y m d)) := by
  have hl := Cal.len_bd y m
  have hm := may_true y m d h1 h2 h3 h4 h5 h6
  have hp := pad4_ok y.natAbs (by omega)
  have hq := pad2_ok m.natAbs (by omega)
  have hr := pad2_ok d.natAbs (by omega)
  have lp : (padL 4 y.natAbs).length ≤ 9 := padL_len (by decide) (by omega)
  have lq : (padL 2 m.natAbs).length ≤ 2 := padL_len (by decide) (by omega)
  have lr : (padL 2 d.natAbs).length ≤ 2 := padL_len (by decide) (by omega)
  rw [show ((m.natAbs : Nat) : Int) = m by omega] at hq
  rw [show ((d.natAbs : Nat) : Int) = d by omega] at hr
  unfold dateL
  by_cases h : y < 0
  · have e0 : ldate_0 y m d (padL 4 y.natAbs) (padL 2 m.natAbs) (padL 2 d.natAbs) = ((y.natAbs : Nat) : Int) := by
      unfold ldate_0
      rw [wrapI (by omega) (by omega)]; omega
    rw [if_pos h]
    refine (ldate y m d (padL 4 y.natAbs) (padL 2 m.natAbs) (padL 2 d.natAbs) (ble _ _ ?_) hr (ble _ _ ?_) (ble _ _ ?_) hq (ble _ _ ?_) (ble _ _ ?_) (by rw [e0]; exact hp) (decide_eq_true h) hm).cast rfl
    all_goals (try unfold ldate_1)
    all_goals simp only [List.length_append, List.length_cons, List.length_nil]
    all_goals omega
  · rw [show ((y.natAbs : Nat) : Int) = y by omega] at hp
    rw [if_neg h]
    refine (ldate1 y m d (padL 4 y.natAbs) (padL 2 m.natAbs) (padL 2 d.natAbs) (ble _ _ ?_) hr (ble _ _ ?_) (ble _ _ ?_) hq (ble _ _ ?_) (ble _ _ ?_) hp (decide_eq_false h) hm).cast rfl
    all_goals simp only [List.length_append, List.length_cons, List.length_nil]
    all_goals omega
end Go.Proofs.YtmekaipcoghlfaaGreatDoor
end
noncomputable section
namespace Go.Proofs.YtmekaipcoghlfaaGreatDoor
open Go Go.Am Go.Proofs
theorem mw10 (a : Nat) (h : a * 10 < 340282366920938463463374607431768211456) : Sm 48 [AW a, .int .u64 10] (.tuple [.int .u64 0, AW (a * 10)]) := by
  have := mulw_ok a 10 (by omega) (by decide)
  rw [Nat.div_eq_of_lt h, Nat.mod_eq_of_lt h] at this
  exact this
theorem addw (b c : Nat) (x : Int) (hx : x = (c : Int)) (hc : c < 18446744073709551616) (h : b + c < 340282366920938463463374607431768211456) :
    Sm 434 [AW b, .agg [.int .u64 0, .int .u64 x]] (.tuple [AW (b + c), .int .u64 0]) := by
  have := add_ok b c (by omega) (by omega)
  rw [Nat.div_eq_of_lt h, Nat.mod_eq_of_lt h] at this
  rw [hx]
  have e : AW c = .agg [.int .u64 0, .int .u64 (c : Int)] := by
    unfold AW
    rw [Nat.div_eq_of_lt hc, Nat.mod_eq_of_lt hc]; rfl
  rw [e] at this
  exact this
theorem addz (c : Nat) (x : Int) (hx : x = (c : Int)) (hc : c < 18446744073709551616) :
    Sm 434 [.agg [.int .u64 0, .int .u64 0], .agg [.int .u64 0, .int .u64 x]] (.tuple [AW c, .int .u64 0]) := by
  have := addw 0 c x hx hc (by omega)
  rw [Nat.zero_add] at this
  exact this
theorem dvw (a q r : Nat) (hq : q = a / 10) (hr : r = a % 10) (h : a < 340282366920938463463374607431768211456) :
    Sm 93 [.agg [.int .u64 0, .int .u64 0], AW a, .int .u64 10] (.tuple [.agg [.int .u64 0, .int .u64 0], AW q, .int .u64 ((r : Nat) : Int), .bool true]) := by
  subst hq hr
  exact divw_ok a h
end Go.Proofs.YtmekaipcoghlfaaGreatDoor
end
