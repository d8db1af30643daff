/-
  Part of the proof of TopDays: lemmas that the others lean on.
-/
import Derived.Test.YtmekaipcoghlfaaGreatDoorWe
import Derived.Test.YtmekaipcoghlfaaGreatDoorBase
set_option linter.all false
set_option linter.unusedVariables false
set_option linter.unusedSimpArgs false
noncomputable section
namespace Go.Proofs.YtmekaipcoghlfaaGreatDoor
open Go Go.Am Go.Proofs
def rfit_0 (n : Nat) : Int := (IntKind.wrap .i64 (((nd n : Nat) : Int) - 34))
def rfit_1 (n : Nat) : Int := (if ((rfit_0 n) : Int) > 0 then (rfit_0 n) else 0)
def rfit_2 (n : Nat) : Int := (if ((-6176) : Int) > (rfit_1 n) then (-6176) else (rfit_1 n))
def rfit_3 (n : Nat) : Bool := ((((n / 18446744073709551616 : Nat) : Int) : Int) == 0)
def rfit_4 (n : Nat) : Bool := ((((n % 18446744073709551616 : Nat) : Int) : Int) == 0)
theorem rfit (s : Bool) (n : Nat) (o0 : (rfit_4 n) = true) (o1 : (rfit_3 n) = true) (o2 : Sm 49 [AW n, .agg [.int .u64 542101086242752, .int .u64 4003012203950112768]] (.int .i64 (-1))) (o3 : (decide (((rfit_2 n) : Int) > 0)) = false) (o4 : Sm 435 [.agg [.int .u64 0, .int .u64 0], AW n] (.int .i64 ((nd n : Nat) : Int))) :
    Sm 350 [.agg [.bool s, .int .u64 0, .int .u64 0, .int .u64 ((n / 18446744073709551616 : Nat) : Int), .int .u64 ((n % 18446744073709551616 : Nat) : Int), .int .i64 0, .bool false], .int .i64 1] (.tuple [.agg [.bool false, .int .u64 0, .int .u64 0, .int .i64 0], .bool true]) :=
  .of1 (scr := [.auto 3, .ret (.int .i64 ((nd n : Nat) : Int)) [], .auto 1, .br false, .auto 6, .ret (.int .i64 (-1)) [], .auto 4, .br true, .auto 4, .br true]) (rest := []) (rd := []) (fun h => by kernel_rfl) (ac1 o0 (ac4 o1 o2.e1 o3 o4.e1 an))
def rfit1_0 (n : Nat) : Int := (IntKind.wrap .i64 (((nd n : Nat) : Int) - 34))
def rfit1_1 (n : Nat) : Int := (if ((rfit1_0 n) : Int) > 0 then (rfit1_0 n) else 0)
def rfit1_2 (n : Nat) : Int := (if ((-6176) : Int) > (rfit1_1 n) then (-6176) else (rfit1_1 n))
def rfit1_3 (n : Nat) : Bool := ((((n / 18446744073709551616 : Nat) : Int) : Int) == 0)
def rfit1_4 (n : Nat) : Bool := ((((n % 18446744073709551616 : Nat) : Int) : Int) == 0)
theorem rfit1 (s : Bool) (n : Nat) (o0 : (rfit1_4 n) = false) (o1 : (rfit1_3 n) = true) (o2 : Sm 49 [AW n, .agg [.int .u64 542101086242752, .int .u64 4003012203950112768]] (.int .i64 (-1))) (o3 : (decide (((rfit1_2 n) : Int) > 0)) = false) (o4 : Sm 435 [.agg [.int .u64 0, .int .u64 0], AW n] (.int .i64 ((nd n : Nat) : Int))) :
    Sm 350 [.agg [.bool s, .int .u64 0, .int .u64 0, .int .u64 ((n / 18446744073709551616 : Nat) : Int), .int .u64 ((n % 18446744073709551616 : Nat) : Int), .int .i64 0, .bool false], .int .i64 1] (.tuple [.agg [.bool s, .int .u64 ((n / 18446744073709551616 : Nat) : Int), .int .u64 ((n % 18446744073709551616 : Nat) : Int), .int .i64 0], .bool true]) :=
  .of1 (scr := [.auto 3, .ret (.int .i64 ((nd n : Nat) : Int)) [], .auto 1, .br false, .auto 6, .ret (.int .i64 (-1)) [], .auto 4, .br true, .auto 4, .br false]) (rest := []) (rd := []) (fun h => by kernel_rfl) (ac1 o0 (ac4 o1 o2.e1 o3 o4.e1 an))
def rfit2_0 (n : Nat) : Int := (IntKind.wrap .i64 (((nd n : Nat) : Int) - 34))
def rfit2_1 (n : Nat) : Int := (if ((rfit2_0 n) : Int) > 0 then (rfit2_0 n) else 0)
def rfit2_2 (n : Nat) : Int := (if ((-6176) : Int) > (rfit2_1 n) then (-6176) else (rfit2_1 n))
def rfit2_3 (n : Nat) : Bool := ((((n / 18446744073709551616 : Nat) : Int) : Int) == 0)
theorem rfit2 (s : Bool) (n : Nat) (o0 : (rfit2_3 n) = false) (o1 : Sm 49 [AW n, .agg [.int .u64 542101086242752, .int .u64 4003012203950112768]] (.int .i64 (-1))) (o2 : (decide (((rfit2_2 n) : Int) > 0)) = false) (o3 : Sm 435 [.agg [.int .u64 0, .int .u64 0], AW n] (.int .i64 ((nd n : Nat) : Int))) :
    Sm 350 [.agg [.bool s, .int .u64 0, .int .u64 0, .int .u64 ((n / 18446744073709551616 : Nat) : Int), .int .u64 ((n % 18446744073709551616 : Nat) : Int), .int .i64 0, .bool false], .int .i64 1] (.tuple [.agg [.bool s, .int .u64 ((n / 18446744073709551616 : Nat) : Int), .int .u64 ((n % 18446744073709551616 : Nat) : Int), .int .i64 0], .bool true]) :=
  .of1 (scr := [.auto 3, .ret (.int .i64 ((nd n : Nat) : Int)) [], .auto 1, .br false, .auto 6, .ret (.int .i64 (-1)) [], .auto 4, .br false]) (rest := []) (rd := []) (fun h => by kernel_rfl) (ac4 o0 o1.e1 o2 o3.e1 an)
def rmay_0 (n : Nat) : Bool := ((((n / 18446744073709551616 : Nat) : Int) : Int) == 0)
def rmay_1 (n : Nat) : Bool := ((((n % 18446744073709551616 : Nat) : Int) : Int) == 0)
theorem rmay (s : Bool) (n : Nat) (o0 : (rmay_0 n) = true) (o1 : s = true) (o2 : Sm 49 [AW n, .agg [.int .u64 542101086242752, .int .u64 4003012203950112768]] (.int .i64 (-1))) :
    Sm 272 [.agg [.bool s, .int .u64 ((n / 18446744073709551616 : Nat) : Int), .int .u64 ((n % 18446744073709551616 : Nat) : Int), .int .i64 0]] (.bool (!(rmay_1 n))) :=
  .of1 (scr := [.auto 3, .ret (.int .i64 (-1)) [], .auto 14, .br true, .auto 5, .br true]) (rest := []) (rd := []) (fun h => by kernel_rfl) (ac1 o0 (ac2 o1 o2.e1 an))
def rmay1_0 (n : Nat) : Bool := ((((n / 18446744073709551616 : Nat) : Int) : Int) == 0)
theorem rmay1 (s : Bool) (n : Nat) (o0 : (rmay1_0 n) = false) (o1 : s = true) (o2 : Sm 49 [AW n, .agg [.int .u64 542101086242752, .int .u64 4003012203950112768]] (.int .i64 (-1))) :
    Sm 272 [.agg [.bool s, .int .u64 ((n / 18446744073709551616 : Nat) : Int), .int .u64 ((n % 18446744073709551616 : Nat) : Int), .int .i64 0]] (.bool true) :=
  .of1 (scr := [.auto 3, .ret (.int .i64 (-1)) [], .auto 14, .br true, .auto 5, .br false]) (rest := []) (rd := []) (fun h => by kernel_rfl) (ac1 o0 (ac2 o1 o2.e1 an))
theorem rmay2 (s : Bool) (n : Nat) (o0 : s = false) (o1 : Sm 49 [AW n, .agg [.int .u64 542101086242752, .int .u64 4003012203950112768]] (.int .i64 (-1))) :
    Sm 272 [.agg [.bool s, .int .u64 ((n / 18446744073709551616 : Nat) : Int), .int .u64 ((n % 18446744073709551616 : Nat) : Int), .int .i64 0]] (.bool true) :=
  .of1 (scr := [.auto 3, .ret (.int .i64 (-1)) [], .auto 14, .br false]) (rest := []) (rd := []) (fun h => by kernel_rfl) (ac2 o0 o1.e1 an)
def rint_0 (x : Int) : Int := (IntKind.wrap .u64 x)
def rint_1 (x : Int) : Int := (IntKind.wrap .u64 (0 - (rint_0 x)))
theorem rint (x : Int) (o0 : (decide ((x : Int) < 0)) = true) :
    Sm 477 [.int .i64 x] (.agg [.bool (decide ((x : Int) < 0)), .int .u64 0, .int .u64 (rint_1 x), .int .i64 0]) :=
  .of1 (scr := [.auto 1, .br true]) (rest := []) (rd := []) (fun h => by kernel_rfl) (ac1 o0 an)
def rint1_0 (x : Int) : Int := (IntKind.wrap .u64 x)
theorem rint1 (x : Int) (o0 : (decide ((x : Int) < 0)) = false) :
    Sm 477 [.int .i64 x] (.agg [.bool (decide ((x : Int) < 0)), .int .u64 0, .int .u64 (rint1_0 x), .int .i64 0]) :=
  .of1 (scr := [.auto 1, .br false]) (rest := []) (rd := []) (fun h => by kernel_rfl) (ac1 o0 an)
theorem rdmul (s t u : Bool) (a b p : Nat) (o0 : Sm 350 [.agg [.bool (!(s == t)), .int .u64 0, .int .u64 0, .int .u64 ((p / 18446744073709551616 : Nat) : Int), .int .u64 ((p % 18446744073709551616 : Nat) : Int), .int .i64 0, .bool false], .int .i64 1] (.tuple [.agg [.bool u, .int .u64 ((p / 18446744073709551616 : Nat) : Int), .int .u64 ((p % 18446744073709551616 : Nat) : Int), .int .i64 0], .bool true])) (o1 : Sm 486 [AW a, AW b] (.tuple [.agg [.int .u64 0, .int .u64 0], AW p])) :
    Sm 383 [.agg [.bool s, .int .u64 ((a / 18446744073709551616 : Nat) : Int), .int .u64 ((a % 18446744073709551616 : Nat) : Int), .int .i64 0], .agg [.bool t, .int .u64 ((b / 18446744073709551616 : Nat) : Int), .int .u64 ((b % 18446744073709551616 : Nat) : Int), .int .i64 0]] (.tuple [.agg [.bool u, .int .u64 ((p / 18446744073709551616 : Nat) : Int), .int .u64 ((p % 18446744073709551616 : Nat) : Int), .int .i64 0], .bool true]) :=
  .of1 (scr := [.auto 3, .ret (.tuple [.agg [.int .u64 0, .int .u64 0], AW p]) [], .auto 8, .ret (.tuple [.agg [.bool u, .int .u64 ((p / 18446744073709551616 : Nat) : Int), .int .u64 ((p % 18446744073709551616 : Nat) : Int), .int .i64 0], .bool true]) []]) (rest := []) (rd := []) (fun h => by kernel_rfl) (ac2 o0.e1 o1.e1 an)
def rwhole_0 (n : Nat) : Bool := (decide ((((n : Nat) : Int) : Int) > 9223372036854775808))
def rwhole_1 (n : Nat) : Bool := ((((n : Nat) : Int) : Int) == 9223372036854775808)
def rwhole_2 (n : Nat) : Int := (IntKind.wrap .u64 (0 - ((n : Nat) : Int)))
def rwhole_3 (n : Nat) : Int := (IntKind.wrap .i64 (rwhole_2 n))
theorem rwhole (s : Bool) (n : Nat) (o0 : s = true) (o1 : (rwhole_1 n) = false) (o2 : (rwhole_0 n) = false) :
    Sm 286 [.agg [.bool s, .int .u64 0, .int .u64 ((n : Nat) : Int), .int .i64 0]] (.tuple [.int .i64 (rwhole_3 n), .bool true]) :=
  .of1 (scr := [.auto 24, .br false, .auto 5, .br false, .auto 7, .br true]) (rest := []) (rd := []) (fun h => by kernel_rfl) (ac1 o0 (ac2 o1 o2 an))
def rwhole1_0 (n : Nat) : Bool := (decide ((((n : Nat) : Int) : Int) > 9223372036854775808))
def rwhole1_1 (n : Nat) : Bool := ((((n : Nat) : Int) : Int) == 9223372036854775808)
def rwhole1_2 (n : Nat) : Int := (IntKind.wrap .i64 ((n : Nat) : Int))
theorem rwhole1 (s : Bool) (n : Nat) (o0 : s = false) (o1 : (rwhole1_1 n) = false) (o2 : (rwhole1_0 n) = false) :
    Sm 286 [.agg [.bool s, .int .u64 0, .int .u64 ((n : Nat) : Int), .int .i64 0]] (.tuple [.int .i64 (rwhole1_2 n), .bool true]) :=
  .of1 (scr := [.auto 24, .br false, .auto 5, .br false, .auto 7, .br false]) (rest := []) (rd := []) (fun h => by kernel_rfl) (ac1 o0 (ac2 o1 o2 an))
theorem rwh (s : Bool) (n : Nat)  :
    Sm 581 [.agg [.bool s, .int .u64 ((n / 18446744073709551616 : Nat) : Int), .int .u64 ((n % 18446744073709551616 : Nat) : Int), .int .i64 0], .int .i64 5] (.agg [.bool s, .int .u64 ((n / 18446744073709551616 : Nat) : Int), .int .u64 ((n % 18446744073709551616 : Nat) : Int), .int .i64 0]) :=
  .of1 (scr := []) (rest := []) (rd := [])
    (obs := []) (fun h => by kernel_rfl) trivial
def rsmay_0 (x : Int) : Bool := (decide ((x : Int) ≥ (-9007199254740992)))
def rsmay_1 (x : Int) : Bool := (decide ((x : Int) ≤ 9007199254740992))
theorem rsmay (x : Int) (o0 : (rsmay_0 x) = true) :
    Sm 282 [.int .i64 x] (.bool (rsmay_1 x)) :=
  .of1 (scr := [.auto 1, .br true]) (rest := []) (rd := []) (fun h => by kernel_rfl) (ac1 o0 an)
def rsmay1_0 (x : Int) : Bool := (decide ((x : Int) ≥ (-9007199254740992)))
theorem rsmay1 (x : Int) (o0 : (rsmay1_0 x) = false) :
    Sm 282 [.int .i64 x] (.bool false) :=
  .of1 (scr := [.auto 1, .br false]) (rest := []) (rd := []) (fun h => by kernel_rfl) (ac1 o0 an)
theorem rtimes (s t u : Bool) (a b p : Nat) (x y : Int) (o0 : Sm 282 [.int .i64 y] (.bool true)) (o1 : Sm 286 [.agg [.bool u, .int .u64 ((p / 18446744073709551616 : Nat) : Int), .int .u64 ((p % 18446744073709551616 : Nat) : Int), .int .i64 0]] (.tuple [.int .i64 y, .bool true])) (o2 : Sm 581 [.agg [.bool u, .int .u64 ((p / 18446744073709551616 : Nat) : Int), .int .u64 ((p % 18446744073709551616 : Nat) : Int), .int .i64 0], .int .i64 5] (.agg [.bool u, .int .u64 ((p / 18446744073709551616 : Nat) : Int), .int .u64 ((p % 18446744073709551616 : Nat) : Int), .int .i64 0])) (o3 : Sm 282 [.int .i64 x] (.bool true)) (o4 : Sm 383 [.agg [.bool s, .int .u64 ((a / 18446744073709551616 : Nat) : Int), .int .u64 ((a % 18446744073709551616 : Nat) : Int), .int .i64 0], .agg [.bool t, .int .u64 ((b / 18446744073709551616 : Nat) : Int), .int .u64 ((b % 18446744073709551616 : Nat) : Int), .int .i64 0]] (.tuple [.agg [.bool u, .int .u64 ((p / 18446744073709551616 : Nat) : Int), .int .u64 ((p % 18446744073709551616 : Nat) : Int), .int .i64 0], .bool true])) (o5 : Sm 477 [.int .i64 x] (.agg [.bool s, .int .u64 ((a / 18446744073709551616 : Nat) : Int), .int .u64 ((a % 18446744073709551616 : Nat) : Int), .int .i64 0])) :
    Sm 499 [.int .i64 x, .agg [.bool t, .int .u64 ((b / 18446744073709551616 : Nat) : Int), .int .u64 ((b % 18446744073709551616 : Nat) : Int), .int .i64 0]] (.tuple [.int .i64 y, .bool true]) :=
  .of1 (scr := [.auto 1, .ret (.agg [.bool s, .int .u64 ((a / 18446744073709551616 : Nat) : Int), .int .u64 ((a % 18446744073709551616 : Nat) : Int), .int .i64 0]) [], .auto 1, .ret (.tuple [.agg [.bool u, .int .u64 ((p / 18446744073709551616 : Nat) : Int), .int .u64 ((p % 18446744073709551616 : Nat) : Int), .int .i64 0], .bool true]) [], .auto 3, .ret (.bool true) [], .auto 6, .ret (.agg [.bool u, .int .u64 ((p / 18446744073709551616 : Nat) : Int), .int .u64 ((p % 18446744073709551616 : Nat) : Int), .int .i64 0]) [], .ret (.tuple [.int .i64 y, .bool true]) [], .auto 2, .ret (.bool true) []]) (rest := []) (rd := []) (fun h => by kernel_rfl) (ac2 o0.e1 o1.e1 (ac4 o2.e1 o3.e1 o4.e1 o5.e1 an))
theorem rratio (s t u : Bool) (a b p : Nat) (x y : Int) (o0 : Sm 384 [.agg [.bool s, .int .u64 ((a / 18446744073709551616 : Nat) : Int), .int .u64 ((a % 18446744073709551616 : Nat) : Int), .int .i64 0], .agg [.bool t, .int .u64 ((b / 18446744073709551616 : Nat) : Int), .int .u64 ((b % 18446744073709551616 : Nat) : Int), .int .i64 0]] (.tuple [.agg [.bool u, .int .u64 ((p / 18446744073709551616 : Nat) : Int), .int .u64 ((p % 18446744073709551616 : Nat) : Int), .int .i64 0], .bool true])) (o1 : Sm 477 [.int .i64 y] (.agg [.bool t, .int .u64 ((b / 18446744073709551616 : Nat) : Int), .int .u64 ((b % 18446744073709551616 : Nat) : Int), .int .i64 0])) (o2 : Sm 477 [.int .i64 x] (.agg [.bool s, .int .u64 ((a / 18446744073709551616 : Nat) : Int), .int .u64 ((a % 18446744073709551616 : Nat) : Int), .int .i64 0])) (o3 : Sm 282 [.int .i64 y] (.bool true)) (o4 : Sm 282 [.int .i64 x] (.bool true)) :
    Sm 501 [.int .i64 x, .int .i64 y] (.tuple [.agg [.bool u, .int .u64 ((p / 18446744073709551616 : Nat) : Int), .int .u64 ((p % 18446744073709551616 : Nat) : Int), .int .i64 0], .bool true]) :=
  .of1 (scr := [.auto 1, .ret (.bool true) [], .auto 2, .ret (.bool true) [], .auto 3, .ret (.agg [.bool s, .int .u64 ((a / 18446744073709551616 : Nat) : Int), .int .u64 ((a % 18446744073709551616 : Nat) : Int), .int .i64 0]) [], .ret (.agg [.bool t, .int .u64 ((b / 18446744073709551616 : Nat) : Int), .int .u64 ((b % 18446744073709551616 : Nat) : Int), .int .i64 0]) [], .ret (.tuple [.agg [.bool u, .int .u64 ((p / 18446744073709551616 : Nat) : Int), .int .u64 ((p % 18446744073709551616 : Nat) : Int), .int .i64 0], .bool true]) []]) (rest := []) (rd := []) (fun h => by kernel_rfl) (ac1 o0.e1 (ac4 o1.e1 o2.e1 o3.e1 o4.e1 an))
end Go.Proofs.YtmekaipcoghlfaaGreatDoor
end
noncomputable section
namespace Go.Proofs.YtmekaipcoghlfaaGreatDoor
open Go Go.Am Go.Proofs
/-- A whole number as a decimal one. -/
def DA (s : Bool) (n : Nat) : AV := .agg [.bool s, .int .u64 ((n / 18446744073709551616 : Nat) : Int), .int .u64 ((n % 18446744073709551616 : Nat) : Int), .int .i64 0]
theorem most_lt (n : Nat) (h : n < 10000000000000000000000000000000000) : Sm 49 [AW n, .agg [.int .u64 542101086242752, .int .u64 4003012203950112768]] (.int .i64 (-1)) := by
  have := cmp_ok n 10000000000000000000000000000000000
  rw [show cmpN n 10000000000000000000000000000000000 = -1 by unfold cmpN; rw [if_pos h]] at this
  exact this
theorem fit_ok (s : Bool) (n : Nat) (h : n < 10000000000000000000000000000000000) :
    Sm 350 [.agg [.bool s, .int .u64 0, .int .u64 0, .int .u64 ((n / 18446744073709551616 : Nat) : Int), .int .u64 ((n % 18446744073709551616 : Nat) : Int), .int .i64 0, .bool false], .int .i64 1]
      (.tuple [DA (s && decide (n ≠ 0)) n, .bool true]) := by
  have hd := digits_ok n (by omega)
  have hn : nd n ≤ 34 := nd_lt h
  have hm := most_lt n h
  have e : ∀ x : Int, x = IntKind.wrap .i64 (((nd n : Nat) : Int) - 34) → (decide ((if (-6176 : Int) > (if x > 0 then x else 0) then (-6176) else (if x > 0 then x else 0)) > (0 : Int))) = false := by
    intro x hx
    rw [wrapI (by omega) (by omega)] at hx
    refine decide_eq_false ?_
    split <;> split <;> omega
  by_cases h0 : n = 0
  · subst h0
    refine (rfit s 0 rfl rfl hm (e _ rfl) hd).cast ?_
    simp [DA]
  · by_cases h1 : n / 18446744073709551616 = 0
    · refine (rfit1 s n (beqF' (by omega)) (beqT' (by omega)) hm (e _ rfl) hd).cast ?_
      simp [DA, h0]
    · refine (rfit2 s n (beqF' (by omega)) hm (e _ rfl) hd).cast ?_
      simp [DA, h0]
theorem dmay_ok (s : Bool) (n : Nat) (h : n < 10000000000000000000000000000000000) (hs : s = true → n ≠ 0) : Sm 272 [DA s n] (.bool true) := by
  have hm := most_lt n h
  rcases hb : s with _ | _
  · exact rmay2 false n rfl hm
  · have := hs hb
    by_cases h1 : n / 18446744073709551616 = 0
    · refine (rmay true n (beqT' (by omega)) rfl hm).cast ?_
      congr 1
      unfold rmay_1
      rw [beqF' (by omega)]; rfl
    · exact rmay1 true n (beqF' (by omega)) rfl hm
theorem int_ok (x : Int) (h0 : -9223372036854775807 ≤ x) (h1 : x ≤ 9223372036854775807) : Sm 477 [.int .i64 x] (DA (decide (x < 0)) x.natAbs) := by
  by_cases h : x < 0
  · refine (rint x (decide_eq_true h)).cast ?_
    unfold rint_1 rint_0 DA
    rw [wrapM, wrapM]
    congr 3
    · congr 1; omega
    · congr 2; omega
  · refine (rint1 x (decide_eq_false h)).cast ?_
    unfold rint1_0 DA
    rw [wrapM]
    congr 3
    · congr 1; omega
    · congr 2; omega
theorem dmul_ok (s t : Bool) (a b : Nat) (ha : a < 340282366920938463463374607431768211456) (hb : b < 340282366920938463463374607431768211456) (h : a * b < 10000000000000000000000000000000000) :
    Sm 383 [DA s a, DA t b] (.tuple [DA ((!(s == t)) && decide (a * b ≠ 0)) (a * b), .bool true]) := by
  have hm := mul_ok a b ha hb
  rw [Nat.div_eq_of_lt (by omega), Nat.mod_eq_of_lt (by omega)] at hm
  exact rdmul s t _ a b (a * b) (fit_ok (!(s == t)) (a * b) h) hm
theorem whole_ok (s : Bool) (n : Nat) (h : n ≤ 9223372036854775807) : Sm 286 [DA s n] (.tuple [.int .i64 (if s = true then -(n : Int) else n), .bool true]) := by
  have e : DA s n = .agg [.bool s, .int .u64 0, .int .u64 ((n : Nat) : Int), .int .i64 0] := by
    unfold DA
    rw [Nat.div_eq_of_lt (by omega), Nat.mod_eq_of_lt (by omega)]; rfl
  rw [e]
  rcases s with _ | _
  · refine (rwhole1 false n rfl (beqF' (by omega)) (decide_eq_false (by omega))).cast ?_
    unfold rwhole1_2
    rw [wrapI (by omega) (by omega)]; rfl
  · refine (rwhole true n rfl (beqF' (by omega)) (decide_eq_false (by omega))).cast ?_
    unfold rwhole_3 rwhole_2
    rw [wrapM, if_pos rfl, show IntKind.wrap .i64 ((0 - (n : Int)) % 18446744073709551616) = -(n : Int) by rw [IntKind.wrap_i64]; omega]
theorem smay_ok (x : Int) (h0 : -9007199254740992 ≤ x) (h1 : x ≤ 9007199254740992) : Sm 282 [.int .i64 x] (.bool true) :=
  (rsmay x (decide_eq_true h0)).cast (congrArg _ (decide_eq_true h1))
/-- So many days, in seconds. -/
theorem times_ok (n : Int) (h0 : -2147483648 ≤ n) (h1 : n ≤ 2147483647) : Sm 499 [.int .i64 86400, DA (decide (n < 0)) n.natAbs] (.tuple [.int .i64 (86400 * n), .bool true]) := by
  have hi := int_ok 86400 (by decide) (by decide)
  have hm := dmul_ok (decide ((86400 : Int) < 0)) (decide (n < 0)) (86400 : Int).natAbs n.natAbs (by decide) (by omega) (by rw [show (86400 : Int).natAbs = 86400 from rfl]; omega)
  have hw := whole_ok ((!(decide ((86400 : Int) < 0) == decide (n < 0))) && decide ((86400 : Int).natAbs * n.natAbs ≠ 0)) ((86400 : Int).natAbs * n.natAbs) (by rw [show (86400 : Int).natAbs = 86400 from rfl]; omega)
  have ev : (if ((!(decide ((86400 : Int) < 0) == decide (n < 0))) && decide ((86400 : Int).natAbs * n.natAbs ≠ 0)) = true then -(((86400 : Int).natAbs * n.natAbs : Nat) : Int) else (((86400 : Int).natAbs * n.natAbs : Nat) : Int)) = 86400 * n := by
    rw [show (86400 : Int).natAbs = 86400 from rfl]
    by_cases h : n < 0
    · rw [if_pos (by simp [h]; omega)]; omega
    · rw [if_neg (by simp [h])]; omega
  rw [ev] at hw
  exact rtimes _ _ _ _ _ _ 86400 (86400 * n) (smay_ok _ (by omega) (by omega)) hw (rwh _ _) (smay_ok _ (by decide) (by decide)) hm hi
end Go.Proofs.YtmekaipcoghlfaaGreatDoor
end
noncomputable section
namespace Go.Proofs.YtmekaipcoghlfaaGreatDoor
open Go Go.Am Go.Proofs
theorem nd_eq {k n : Nat} (h0 : 10 ^ k ≤ n) (h1 : n < 10 ^ (k + 1)) : nd n = k + 1 := by
  have := nd_lt h1
  have := nd_ge h0
  omega
theorem lt_nd (n : Nat) : n < 10 ^ nd n := by
  rcases Nat.lt_or_ge n (10 ^ nd n) with h | h
  · exact h
  · have := nd_ge h
    omega
end Go.Proofs.YtmekaipcoghlfaaGreatDoor
end
