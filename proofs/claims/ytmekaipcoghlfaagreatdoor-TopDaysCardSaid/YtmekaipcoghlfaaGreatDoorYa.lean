/-
  Part of the proof of TopDays: lemmas that the others lean on.
-/
import Derived.Test.YtmekaipcoghlfaaGreatDoorCa
import Derived.Test.YtmekaipcoghlfaaGreatDoorCb
import Derived.Test.YtmekaipcoghlfaaGreatDoorBase
set_option linter.all false
set_option linter.unusedVariables false
set_option linter.unusedSimpArgs false
noncomputable section
namespace Go.Proofs.YtmekaipcoghlfaaGreatDoor
open Go Go.Am Go.Proofs
def l6_0 (y : Int) : Int := (Int.tmod y 400)
theorem l6 (y : Int) (o0 : (((l6_0 y) : Int) == 0) = true) :
    Sm 72 [.int .i64 y] (.bool true) :=
  .of1 (scr := [.auto 2, .br true]) (rest := []) (rd := []) (fun h => by kernel_rfl) (ac1 o0 an)
def l61_0 (y : Int) : Int := (Int.tmod y 400)
def l61_1 (y : Int) : Int := (Int.tmod y 4)
def l61_2 (y : Int) : Int := (Int.tmod y 100)
theorem l61 (y : Int) (o0 : (((l61_1 y) : Int) == 0) = true) (o1 : (((l61_0 y) : Int) == 0) = false) :
    Sm 72 [.int .i64 y] (.bool (((l61_2 y) : Int) != 0)) :=
  .of1 (scr := [.auto 2, .br false, .auto 1, .br true]) (rest := []) (rd := []) (fun h => by kernel_rfl) (ac2 o0 o1 an)
def l62_0 (y : Int) : Int := (Int.tmod y 400)
def l62_1 (y : Int) : Int := (Int.tmod y 4)
theorem l62 (y : Int) (o0 : (((l62_1 y) : Int) == 0) = false) (o1 : (((l62_0 y) : Int) == 0) = false) :
    Sm 72 [.int .i64 y] (.bool false) :=
  .of1 (scr := [.auto 2, .br false, .auto 1, .br false]) (rest := []) (rd := []) (fun h => by kernel_rfl) (ac2 o0 o1 an)
theorem len6_1 (y : Int)  :
    Sm 40 [.int .i64 y, .int .i64 1] (.int .i64 31) :=
  .of1 (scr := []) (rest := []) (rd := [])
    (obs := []) (fun h => by kernel_rfl) trivial
theorem len6_2 (y : Int) (o0 : (Cal.leap y) = true) (o1 : Sm 72 [.int .i64 y] (.bool (Cal.leap y))) :
    Sm 40 [.int .i64 y, .int .i64 2] (.int .i64 29) :=
  .of1 (scr := [.auto 16, .ret (.bool (Cal.leap y)) [], .br true]) (rest := []) (rd := []) (fun h => by kernel_rfl) (ac2 o0 o1.e1 an)
theorem len6_21 (y : Int) (o0 : (Cal.leap y) = false) (o1 : Sm 72 [.int .i64 y] (.bool (Cal.leap y))) :
    Sm 40 [.int .i64 y, .int .i64 2] (.int .i64 28) :=
  .of1 (scr := [.auto 16, .ret (.bool (Cal.leap y)) [], .br false]) (rest := []) (rd := []) (fun h => by kernel_rfl) (ac2 o0 o1.e1 an)
theorem len6_3 (y : Int)  :
    Sm 40 [.int .i64 y, .int .i64 3] (.int .i64 31) :=
  .of1 (scr := []) (rest := []) (rd := [])
    (obs := []) (fun h => by kernel_rfl) trivial
theorem len6_4 (y : Int)  :
    Sm 40 [.int .i64 y, .int .i64 4] (.int .i64 30) :=
  .of1 (scr := []) (rest := []) (rd := [])
    (obs := []) (fun h => by kernel_rfl) trivial
theorem len6_5 (y : Int)  :
    Sm 40 [.int .i64 y, .int .i64 5] (.int .i64 31) :=
  .of1 (scr := []) (rest := []) (rd := [])
    (obs := []) (fun h => by kernel_rfl) trivial
theorem len6_6 (y : Int)  :
    Sm 40 [.int .i64 y, .int .i64 6] (.int .i64 30) :=
  .of1 (scr := []) (rest := []) (rd := [])
    (obs := []) (fun h => by kernel_rfl) trivial
theorem len6_7 (y : Int)  :
    Sm 40 [.int .i64 y, .int .i64 7] (.int .i64 31) :=
  .of1 (scr := []) (rest := []) (rd := [])
    (obs := []) (fun h => by kernel_rfl) trivial
theorem len6_8 (y : Int)  :
    Sm 40 [.int .i64 y, .int .i64 8] (.int .i64 31) :=
  .of1 (scr := []) (rest := []) (rd := [])
    (obs := []) (fun h => by kernel_rfl) trivial
theorem len6_9 (y : Int)  :
    Sm 40 [.int .i64 y, .int .i64 9] (.int .i64 30) :=
  .of1 (scr := []) (rest := []) (rd := [])
    (obs := []) (fun h => by kernel_rfl) trivial
theorem len6_10 (y : Int)  :
    Sm 40 [.int .i64 y, .int .i64 10] (.int .i64 31) :=
  .of1 (scr := []) (rest := []) (rd := [])
    (obs := []) (fun h => by kernel_rfl) trivial
theorem len6_11 (y : Int)  :
    Sm 40 [.int .i64 y, .int .i64 11] (.int .i64 30) :=
  .of1 (scr := []) (rest := []) (rd := [])
    (obs := []) (fun h => by kernel_rfl) trivial
theorem len6_12 (y : Int)  :
    Sm 40 [.int .i64 y, .int .i64 12] (.int .i64 31) :=
  .of1 (scr := []) (rest := []) (rd := [])
    (obs := []) (fun h => by kernel_rfl) trivial
def yr6_0 (y : Int) : Int := (IntKind.wrap .i64 (y - 1))
def yr6_1 (y : Int) : Int := (IntKind.wrap .i64 (365 * (yr6_0 y)))
def yr6_2 (y : Int) : Int := (IntKind.wrap .i64 ((yr6_1 y) + ((yr6_0 y) / 4)))
def yr6_3 (y : Int) : Int := (IntKind.wrap .i64 ((yr6_2 y) - ((yr6_0 y) / 100)))
def yr6_4 (y : Int) : Int := (IntKind.wrap .i64 ((yr6_3 y) + ((yr6_0 y) / 400)))
theorem yr6 (y : Int) (o0 : Sm 45 [.int .i64 (yr6_0 y), .int .i64 400] (.int .i64 ((yr6_0 y) / 400))) (o1 : Sm 45 [.int .i64 (yr6_0 y), .int .i64 100] (.int .i64 ((yr6_0 y) / 100))) (o2 : Sm 45 [.int .i64 (yr6_0 y), .int .i64 4] (.int .i64 ((yr6_0 y) / 4))) :
    Sm 44 [.int .i64 y] (.int .i64 (yr6_4 y)) :=
  .of1 (scr := [.auto 1, .ret (.int .i64 ((yr6_0 y) / 4)) [], .ret (.int .i64 ((yr6_0 y) / 100)) [], .ret (.int .i64 ((yr6_0 y) / 400)) []]) (rest := []) (rd := []) (fun h => by kernel_rfl) (ac1 o0.e1 (ac2 o1.e1 o2.e1 an))
theorem yd6_1 (y d : Int)  :
    Sm 46 [.int .i64 y, .int .i64 1, .int .i64 d] (.int .i64 d) :=
  .of1 (scr := []) (rest := []) (rd := [])
    (obs := []) (fun h => by kernel_rfl) trivial
def yd6_2_0 (y d : Int) : Int := (IntKind.wrap .i64 (d + (Cal.len y 1)))
theorem yd6_2 (y d : Int) (o0 : Sm 40 [.int .i64 y, .int .i64 1] (.int .i64 (Cal.len y 1))) :
    Sm 46 [.int .i64 y, .int .i64 2, .int .i64 d] (.int .i64 (yd6_2_0 y d)) :=
  .of1 (scr := [.auto 3, .ret (.int .i64 (Cal.len y 1)) []]) (rest := []) (rd := []) (fun h => by kernel_rfl) (ac1 o0.e1 an)
def yd6_3_0 (y d : Int) : Int := (IntKind.wrap .i64 (d + (Cal.len y 1)))
def yd6_3_1 (y d : Int) : Int := (IntKind.wrap .i64 ((yd6_3_0 y d) + (Cal.len y 2)))
theorem yd6_3 (y d : Int) (o0 : Sm 40 [.int .i64 y, .int .i64 2] (.int .i64 (Cal.len y 2))) (o1 : Sm 40 [.int .i64 y, .int .i64 1] (.int .i64 (Cal.len y 1))) :
    Sm 46 [.int .i64 y, .int .i64 3, .int .i64 d] (.int .i64 (yd6_3_1 y d)) :=
  .of1 (scr := [.auto 3, .ret (.int .i64 (Cal.len y 1)) [], .auto 2, .ret (.int .i64 (Cal.len y 2)) []]) (rest := []) (rd := []) (fun h => by kernel_rfl) (ac2 o0.e1 o1.e1 an)
def yd6_4_0 (y d : Int) : Int := (IntKind.wrap .i64 (d + (Cal.len y 1)))
def yd6_4_1 (y d : Int) : Int := (IntKind.wrap .i64 ((yd6_4_0 y d) + (Cal.len y 2)))
def yd6_4_2 (y d : Int) : Int := (IntKind.wrap .i64 ((yd6_4_1 y d) + (Cal.len y 3)))
theorem yd6_4 (y d : Int) (o0 : Sm 40 [.int .i64 y, .int .i64 3] (.int .i64 (Cal.len y 3))) (o1 : Sm 40 [.int .i64 y, .int .i64 2] (.int .i64 (Cal.len y 2))) (o2 : Sm 40 [.int .i64 y, .int .i64 1] (.int .i64 (Cal.len y 1))) :
    Sm 46 [.int .i64 y, .int .i64 4, .int .i64 d] (.int .i64 (yd6_4_2 y d)) :=
  .of1 (scr := [.auto 3, .ret (.int .i64 (Cal.len y 1)) [], .auto 2, .ret (.int .i64 (Cal.len y 2)) [], .auto 2, .ret (.int .i64 (Cal.len y 3)) []]) (rest := []) (rd := []) (fun h => by kernel_rfl) (ac1 o0.e1 (ac2 o1.e1 o2.e1 an))
def yd6_5_0 (y d : Int) : Int := (IntKind.wrap .i64 (d + (Cal.len y 1)))
def yd6_5_1 (y d : Int) : Int := (IntKind.wrap .i64 ((yd6_5_0 y d) + (Cal.len y 2)))
def yd6_5_2 (y d : Int) : Int := (IntKind.wrap .i64 ((yd6_5_1 y d) + (Cal.len y 3)))
def yd6_5_3 (y d : Int) : Int := (IntKind.wrap .i64 ((yd6_5_2 y d) + (Cal.len y 4)))
theorem yd6_5 (y d : Int) (o0 : Sm 40 [.int .i64 y, .int .i64 4] (.int .i64 (Cal.len y 4))) (o1 : Sm 40 [.int .i64 y, .int .i64 3] (.int .i64 (Cal.len y 3))) (o2 : Sm 40 [.int .i64 y, .int .i64 2] (.int .i64 (Cal.len y 2))) (o3 : Sm 40 [.int .i64 y, .int .i64 1] (.int .i64 (Cal.len y 1))) :
    Sm 46 [.int .i64 y, .int .i64 5, .int .i64 d] (.int .i64 (yd6_5_3 y d)) :=
  .of1 (scr := [.auto 3, .ret (.int .i64 (Cal.len y 1)) [], .auto 2, .ret (.int .i64 (Cal.len y 2)) [], .auto 2, .ret (.int .i64 (Cal.len y 3)) [], .auto 2, .ret (.int .i64 (Cal.len y 4)) []]) (rest := []) (rd := []) (fun h => by kernel_rfl) (ac4 o0.e1 o1.e1 o2.e1 o3.e1 an)
def yd6_6_0 (y d : Int) : Int := (IntKind.wrap .i64 (d + (Cal.len y 1)))
def yd6_6_1 (y d : Int) : Int := (IntKind.wrap .i64 ((yd6_6_0 y d) + (Cal.len y 2)))
def yd6_6_2 (y d : Int) : Int := (IntKind.wrap .i64 ((yd6_6_1 y d) + (Cal.len y 3)))
def yd6_6_3 (y d : Int) : Int := (IntKind.wrap .i64 ((yd6_6_2 y d) + (Cal.len y 4)))
def yd6_6_4 (y d : Int) : Int := (IntKind.wrap .i64 ((yd6_6_3 y d) + (Cal.len y 5)))
theorem yd6_6 (y d : Int) (o0 : Sm 40 [.int .i64 y, .int .i64 5] (.int .i64 (Cal.len y 5))) (o1 : Sm 40 [.int .i64 y, .int .i64 4] (.int .i64 (Cal.len y 4))) (o2 : Sm 40 [.int .i64 y, .int .i64 3] (.int .i64 (Cal.len y 3))) (o3 : Sm 40 [.int .i64 y, .int .i64 2] (.int .i64 (Cal.len y 2))) (o4 : Sm 40 [.int .i64 y, .int .i64 1] (.int .i64 (Cal.len y 1))) :
    Sm 46 [.int .i64 y, .int .i64 6, .int .i64 d] (.int .i64 (yd6_6_4 y d)) :=
  .of1 (scr := [.auto 3, .ret (.int .i64 (Cal.len y 1)) [], .auto 2, .ret (.int .i64 (Cal.len y 2)) [], .auto 2, .ret (.int .i64 (Cal.len y 3)) [], .auto 2, .ret (.int .i64 (Cal.len y 4)) [], .auto 2, .ret (.int .i64 (Cal.len y 5)) []]) (rest := []) (rd := []) (fun h => by kernel_rfl) (ac1 o0.e1 (ac4 o1.e1 o2.e1 o3.e1 o4.e1 an))
def yd6_7_0 (y d : Int) : Int := (IntKind.wrap .i64 (d + (Cal.len y 1)))
def yd6_7_1 (y d : Int) : Int := (IntKind.wrap .i64 ((yd6_7_0 y d) + (Cal.len y 2)))
def yd6_7_2 (y d : Int) : Int := (IntKind.wrap .i64 ((yd6_7_1 y d) + (Cal.len y 3)))
def yd6_7_3 (y d : Int) : Int := (IntKind.wrap .i64 ((yd6_7_2 y d) + (Cal.len y 4)))
def yd6_7_4 (y d : Int) : Int := (IntKind.wrap .i64 ((yd6_7_3 y d) + (Cal.len y 5)))
def yd6_7_5 (y d : Int) : Int := (IntKind.wrap .i64 ((yd6_7_4 y d) + (Cal.len y 6)))
theorem yd6_7 (y d : Int) (o0 : Sm 40 [.int .i64 y, .int .i64 6] (.int .i64 (Cal.len y 6))) (o1 : Sm 40 [.int .i64 y, .int .i64 5] (.int .i64 (Cal.len y 5))) (o2 : Sm 40 [.int .i64 y, .int .i64 4] (.int .i64 (Cal.len y 4))) (o3 : Sm 40 [.int .i64 y, .int .i64 3] (.int .i64 (Cal.len y 3))) (o4 : Sm 40 [.int .i64 y, .int .i64 2] (.int .i64 (Cal.len y 2))) (o5 : Sm 40 [.int .i64 y, .int .i64 1] (.int .i64 (Cal.len y 1))) :
    Sm 46 [.int .i64 y, .int .i64 7, .int .i64 d] (.int .i64 (yd6_7_5 y d)) :=
  .of1 (scr := [.auto 3, .ret (.int .i64 (Cal.len y 1)) [], .auto 2, .ret (.int .i64 (Cal.len y 2)) [], .auto 2, .ret (.int .i64 (Cal.len y 3)) [], .auto 2, .ret (.int .i64 (Cal.len y 4)) [], .auto 2, .ret (.int .i64 (Cal.len y 5)) [], .auto 2, .ret (.int .i64 (Cal.len y 6)) []]) (rest := []) (rd := []) (fun h => by kernel_rfl) (ac2 o0.e1 o1.e1 (ac4 o2.e1 o3.e1 o4.e1 o5.e1 an))
def yd6_8_0 (y d : Int) : Int := (IntKind.wrap .i64 (d + (Cal.len y 1)))
def yd6_8_1 (y d : Int) : Int := (IntKind.wrap .i64 ((yd6_8_0 y d) + (Cal.len y 2)))
def yd6_8_2 (y d : Int) : Int := (IntKind.wrap .i64 ((yd6_8_1 y d) + (Cal.len y 3)))
def yd6_8_3 (y d : Int) : Int := (IntKind.wrap .i64 ((yd6_8_2 y d) + (Cal.len y 4)))
def yd6_8_4 (y d : Int) : Int := (IntKind.wrap .i64 ((yd6_8_3 y d) + (Cal.len y 5)))
def yd6_8_5 (y d : Int) : Int := (IntKind.wrap .i64 ((yd6_8_4 y d) + (Cal.len y 6)))
def yd6_8_6 (y d : Int) : Int := (IntKind.wrap .i64 ((yd6_8_5 y d) + (Cal.len y 7)))
theorem yd6_8 (y d : Int) (o0 : Sm 40 [.int .i64 y, .int .i64 7] (.int .i64 (Cal.len y 7))) (o1 : Sm 40 [.int .i64 y, .int .i64 6] (.int .i64 (Cal.len y 6))) (o2 : Sm 40 [.int .i64 y, .int .i64 5] (.int .i64 (Cal.len y 5))) (o3 : Sm 40 [.int .i64 y, .int .i64 4] (.int .i64 (Cal.len y 4))) (o4 : Sm 40 [.int .i64 y, .int .i64 3] (.int .i64 (Cal.len y 3))) (o5 : Sm 40 [.int .i64 y, .int .i64 2] (.int .i64 (Cal.len y 2))) (o6 : Sm 40 [.int .i64 y, .int .i64 1] (.int .i64 (Cal.len y 1))) :
    Sm 46 [.int .i64 y, .int .i64 8, .int .i64 d] (.int .i64 (yd6_8_6 y d)) :=
  .of1 (scr := [.auto 3, .ret (.int .i64 (Cal.len y 1)) [], .auto 2, .ret (.int .i64 (Cal.len y 2)) [], .auto 2, .ret (.int .i64 (Cal.len y 3)) [], .auto 2, .ret (.int .i64 (Cal.len y 4)) [], .auto 2, .ret (.int .i64 (Cal.len y 5)) [], .auto 2, .ret (.int .i64 (Cal.len y 6)) [], .auto 2, .ret (.int .i64 (Cal.len y 7)) []]) (rest := []) (rd := []) (fun h => by kernel_rfl) (ac1 o0.e1 (ac2 o1.e1 o2.e1 (ac4 o3.e1 o4.e1 o5.e1 o6.e1 an)))
def yd6_9_0 (y d : Int) : Int := (IntKind.wrap .i64 (d + (Cal.len y 1)))
def yd6_9_1 (y d : Int) : Int := (IntKind.wrap .i64 ((yd6_9_0 y d) + (Cal.len y 2)))
def yd6_9_2 (y d : Int) : Int := (IntKind.wrap .i64 ((yd6_9_1 y d) + (Cal.len y 3)))
def yd6_9_3 (y d : Int) : Int := (IntKind.wrap .i64 ((yd6_9_2 y d) + (Cal.len y 4)))
def yd6_9_4 (y d : Int) : Int := (IntKind.wrap .i64 ((yd6_9_3 y d) + (Cal.len y 5)))
def yd6_9_5 (y d : Int) : Int := (IntKind.wrap .i64 ((yd6_9_4 y d) + (Cal.len y 6)))
def yd6_9_6 (y d : Int) : Int := (IntKind.wrap .i64 ((yd6_9_5 y d) + (Cal.len y 7)))
def yd6_9_7 (y d : Int) : Int := (IntKind.wrap .i64 ((yd6_9_6 y d) + (Cal.len y 8)))
theorem yd6_9 (y d : Int) (o0 : Sm 40 [.int .i64 y, .int .i64 8] (.int .i64 (Cal.len y 8))) (o1 : Sm 40 [.int .i64 y, .int .i64 7] (.int .i64 (Cal.len y 7))) (o2 : Sm 40 [.int .i64 y, .int .i64 6] (.int .i64 (Cal.len y 6))) (o3 : Sm 40 [.int .i64 y, .int .i64 5] (.int .i64 (Cal.len y 5))) (o4 : Sm 40 [.int .i64 y, .int .i64 4] (.int .i64 (Cal.len y 4))) (o5 : Sm 40 [.int .i64 y, .int .i64 3] (.int .i64 (Cal.len y 3))) (o6 : Sm 40 [.int .i64 y, .int .i64 2] (.int .i64 (Cal.len y 2))) (o7 : Sm 40 [.int .i64 y, .int .i64 1] (.int .i64 (Cal.len y 1))) :
    Sm 46 [.int .i64 y, .int .i64 9, .int .i64 d] (.int .i64 (yd6_9_7 y d)) :=
  .of1 (scr := [.auto 3, .ret (.int .i64 (Cal.len y 1)) [], .auto 2, .ret (.int .i64 (Cal.len y 2)) [], .auto 2, .ret (.int .i64 (Cal.len y 3)) [], .auto 2, .ret (.int .i64 (Cal.len y 4)) [], .auto 2, .ret (.int .i64 (Cal.len y 5)) [], .auto 2, .ret (.int .i64 (Cal.len y 6)) [], .auto 2, .ret (.int .i64 (Cal.len y 7)) [], .auto 2, .ret (.int .i64 (Cal.len y 8)) []]) (rest := []) (rd := []) (fun h => by kernel_rfl) (ac8 o0.e1 o1.e1 o2.e1 o3.e1 o4.e1 o5.e1 o6.e1 o7.e1 an)
def yd6_10_0 (y d : Int) : Int := (IntKind.wrap .i64 (d + (Cal.len y 1)))
def yd6_10_1 (y d : Int) : Int := (IntKind.wrap .i64 ((yd6_10_0 y d) + (Cal.len y 2)))
def yd6_10_2 (y d : Int) : Int := (IntKind.wrap .i64 ((yd6_10_1 y d) + (Cal.len y 3)))
def yd6_10_3 (y d : Int) : Int := (IntKind.wrap .i64 ((yd6_10_2 y d) + (Cal.len y 4)))
def yd6_10_4 (y d : Int) : Int := (IntKind.wrap .i64 ((yd6_10_3 y d) + (Cal.len y 5)))
def yd6_10_5 (y d : Int) : Int := (IntKind.wrap .i64 ((yd6_10_4 y d) + (Cal.len y 6)))
def yd6_10_6 (y d : Int) : Int := (IntKind.wrap .i64 ((yd6_10_5 y d) + (Cal.len y 7)))
def yd6_10_7 (y d : Int) : Int := (IntKind.wrap .i64 ((yd6_10_6 y d) + (Cal.len y 8)))
def yd6_10_8 (y d : Int) : Int := (IntKind.wrap .i64 ((yd6_10_7 y d) + (Cal.len y 9)))
theorem yd6_10 (y d : Int) (o0 : Sm 40 [.int .i64 y, .int .i64 9] (.int .i64 (Cal.len y 9))) (o1 : Sm 40 [.int .i64 y, .int .i64 8] (.int .i64 (Cal.len y 8))) (o2 : Sm 40 [.int .i64 y, .int .i64 7] (.int .i64 (Cal.len y 7))) (o3 : Sm 40 [.int .i64 y, .int .i64 6] (.int .i64 (Cal.len y 6))) (o4 : Sm 40 [.int .i64 y, .int .i64 5] (.int .i64 (Cal.len y 5))) (o5 : Sm 40 [.int .i64 y, .int .i64 4] (.int .i64 (Cal.len y 4))) (o6 : Sm 40 [.int .i64 y, .int .i64 3] (.int .i64 (Cal.len y 3))) (o7 : Sm 40 [.int .i64 y, .int .i64 2] (.int .i64 (Cal.len y 2))) (o8 : Sm 40 [.int .i64 y, .int .i64 1] (.int .i64 (Cal.len y 1))) :
    Sm 46 [.int .i64 y, .int .i64 10, .int .i64 d] (.int .i64 (yd6_10_8 y d)) :=
  .of1 (scr := [.auto 3, .ret (.int .i64 (Cal.len y 1)) [], .auto 2, .ret (.int .i64 (Cal.len y 2)) [], .auto 2, .ret (.int .i64 (Cal.len y 3)) [], .auto 2, .ret (.int .i64 (Cal.len y 4)) [], .auto 2, .ret (.int .i64 (Cal.len y 5)) [], .auto 2, .ret (.int .i64 (Cal.len y 6)) [], .auto 2, .ret (.int .i64 (Cal.len y 7)) [], .auto 2, .ret (.int .i64 (Cal.len y 8)) [], .auto 2, .ret (.int .i64 (Cal.len y 9)) []]) (rest := []) (rd := []) (fun h => by kernel_rfl) (ac1 o0.e1 (ac8 o1.e1 o2.e1 o3.e1 o4.e1 o5.e1 o6.e1 o7.e1 o8.e1 an))
def yd6_11_0 (y d : Int) : Int := (IntKind.wrap .i64 (d + (Cal.len y 1)))
def yd6_11_1 (y d : Int) : Int := (IntKind.wrap .i64 ((yd6_11_0 y d) + (Cal.len y 2)))
def yd6_11_2 (y d : Int) : Int := (IntKind.wrap .i64 ((yd6_11_1 y d) + (Cal.len y 3)))
def yd6_11_3 (y d : Int) : Int := (IntKind.wrap .i64 ((yd6_11_2 y d) + (Cal.len y 4)))
def yd6_11_4 (y d : Int) : Int := (IntKind.wrap .i64 ((yd6_11_3 y d) + (Cal.len y 5)))
def yd6_11_5 (y d : Int) : Int := (IntKind.wrap .i64 ((yd6_11_4 y d) + (Cal.len y 6)))
def yd6_11_6 (y d : Int) : Int := (IntKind.wrap .i64 ((yd6_11_5 y d) + (Cal.len y 7)))
def yd6_11_7 (y d : Int) : Int := (IntKind.wrap .i64 ((yd6_11_6 y d) + (Cal.len y 8)))
def yd6_11_8 (y d : Int) : Int := (IntKind.wrap .i64 ((yd6_11_7 y d) + (Cal.len y 9)))
def yd6_11_9 (y d : Int) : Int := (IntKind.wrap .i64 ((yd6_11_8 y d) + (Cal.len y 10)))
theorem yd6_11 (y d : Int) (o0 : Sm 40 [.int .i64 y, .int .i64 10] (.int .i64 (Cal.len y 10))) (o1 : Sm 40 [.int .i64 y, .int .i64 9] (.int .i64 (Cal.len y 9))) (o2 : Sm 40 [.int .i64 y, .int .i64 8] (.int .i64 (Cal.len y 8))) (o3 : Sm 40 [.int .i64 y, .int .i64 7] (.int .i64 (Cal.len y 7))) (o4 : Sm 40 [.int .i64 y, .int .i64 6] (.int .i64 (Cal.len y 6))) (o5 : Sm 40 [.int .i64 y, .int .i64 5] (.int .i64 (Cal.len y 5))) (o6 : Sm 40 [.int .i64 y, .int .i64 4] (.int .i64 (Cal.len y 4))) (o7 : Sm 40 [.int .i64 y, .int .i64 3] (.int .i64 (Cal.len y 3))) (o8 : Sm 40 [.int .i64 y, .int .i64 2] (.int .i64 (Cal.len y 2))) (o9 : Sm 40 [.int .i64 y, .int .i64 1] (.int .i64 (Cal.len y 1))) :
    Sm 46 [.int .i64 y, .int .i64 11, .int .i64 d] (.int .i64 (yd6_11_9 y d)) :=
  .of1 (scr := [.auto 3, .ret (.int .i64 (Cal.len y 1)) [], .auto 2, .ret (.int .i64 (Cal.len y 2)) [], .auto 2, .ret (.int .i64 (Cal.len y 3)) [], .auto 2, .ret (.int .i64 (Cal.len y 4)) [], .auto 2, .ret (.int .i64 (Cal.len y 5)) [], .auto 2, .ret (.int .i64 (Cal.len y 6)) [], .auto 2, .ret (.int .i64 (Cal.len y 7)) [], .auto 2, .ret (.int .i64 (Cal.len y 8)) [], .auto 2, .ret (.int .i64 (Cal.len y 9)) [], .auto 2, .ret (.int .i64 (Cal.len y 10)) []]) (rest := []) (rd := []) (fun h => by kernel_rfl) (ac2 o0.e1 o1.e1 (ac8 o2.e1 o3.e1 o4.e1 o5.e1 o6.e1 o7.e1 o8.e1 o9.e1 an))
def yd6_12_0 (y d : Int) : Int := (IntKind.wrap .i64 (d + (Cal.len y 1)))
def yd6_12_1 (y d : Int) : Int := (IntKind.wrap .i64 ((yd6_12_0 y d) + (Cal.len y 2)))
def yd6_12_2 (y d : Int) : Int := (IntKind.wrap .i64 ((yd6_12_1 y d) + (Cal.len y 3)))
def yd6_12_3 (y d : Int) : Int := (IntKind.wrap .i64 ((yd6_12_2 y d) + (Cal.len y 4)))
def yd6_12_4 (y d : Int) : Int := (IntKind.wrap .i64 ((yd6_12_3 y d) + (Cal.len y 5)))
def yd6_12_5 (y d : Int) : Int := (IntKind.wrap .i64 ((yd6_12_4 y d) + (Cal.len y 6)))
def yd6_12_6 (y d : Int) : Int := (IntKind.wrap .i64 ((yd6_12_5 y d) + (Cal.len y 7)))
def yd6_12_7 (y d : Int) : Int := (IntKind.wrap .i64 ((yd6_12_6 y d) + (Cal.len y 8)))
def yd6_12_8 (y d : Int) : Int := (IntKind.wrap .i64 ((yd6_12_7 y d) + (Cal.len y 9)))
def yd6_12_9 (y d : Int) : Int := (IntKind.wrap .i64 ((yd6_12_8 y d) + (Cal.len y 10)))
def yd6_12_10 (y d : Int) : Int := (IntKind.wrap .i64 ((yd6_12_9 y d) + (Cal.len y 11)))
theorem yd6_12 (y d : Int) (o0 : Sm 40 [.int .i64 y, .int .i64 11] (.int .i64 (Cal.len y 11))) (o1 : Sm 40 [.int .i64 y, .int .i64 10] (.int .i64 (Cal.len y 10))) (o2 : Sm 40 [.int .i64 y, .int .i64 9] (.int .i64 (Cal.len y 9))) (o3 : Sm 40 [.int .i64 y, .int .i64 8] (.int .i64 (Cal.len y 8))) (o4 : Sm 40 [.int .i64 y, .int .i64 7] (.int .i64 (Cal.len y 7))) (o5 : Sm 40 [.int .i64 y, .int .i64 6] (.int .i64 (Cal.len y 6))) (o6 : Sm 40 [.int .i64 y, .int .i64 5] (.int .i64 (Cal.len y 5))) (o7 : Sm 40 [.int .i64 y, .int .i64 4] (.int .i64 (Cal.len y 4))) (o8 : Sm 40 [.int .i64 y, .int .i64 3] (.int .i64 (Cal.len y 3))) (o9 : Sm 40 [.int .i64 y, .int .i64 2] (.int .i64 (Cal.len y 2))) (o10 : Sm 40 [.int .i64 y, .int .i64 1] (.int .i64 (Cal.len y 1))) :
    Sm 46 [.int .i64 y, .int .i64 12, .int .i64 d] (.int .i64 (yd6_12_10 y d)) :=
  .of1 (scr := [.auto 3, .ret (.int .i64 (Cal.len y 1)) [], .auto 2, .ret (.int .i64 (Cal.len y 2)) [], .auto 2, .ret (.int .i64 (Cal.len y 3)) [], .auto 2, .ret (.int .i64 (Cal.len y 4)) [], .auto 2, .ret (.int .i64 (Cal.len y 5)) [], .auto 2, .ret (.int .i64 (Cal.len y 6)) [], .auto 2, .ret (.int .i64 (Cal.len y 7)) [], .auto 2, .ret (.int .i64 (Cal.len y 8)) [], .auto 2, .ret (.int .i64 (Cal.len y 9)) [], .auto 2, .ret (.int .i64 (Cal.len y 10)) [], .auto 2, .ret (.int .i64 (Cal.len y 11)) []]) (rest := []) (rd := []) (fun h => by kernel_rfl) (ac1 o0.e1 (ac2 o1.e1 o2.e1 (ac8 o3.e1 o4.e1 o5.e1 o6.e1 o7.e1 o8.e1 o9.e1 o10.e1 an)))
def num6_0 (y m d D : Int) : Int := (IntKind.wrap .i64 ((Cal.yr y) + D))
def num6_1 (y m d D : Int) : Int := (IntKind.wrap .i64 ((num6_0 y m d D) - 1))
def num6_2 (y m d D : Int) : Int := (IntKind.wrap .i64 ((num6_1 y m d D) - 719162))
theorem num6 (y m d D : Int) (o0 : Sm 46 [.int .i64 y, .int .i64 m, .int .i64 d] (.int .i64 D)) (o1 : Sm 44 [.int .i64 y] (.int .i64 (Cal.yr y))) :
    Sm 23 [.int .i64 y, .int .i64 m, .int .i64 d] (.int .i64 (num6_2 y m d D)) :=
  .of1 (scr := [.auto 1, .ret (.int .i64 (Cal.yr y)) [], .ret (.int .i64 D) []]) (rest := []) (rd := []) (fun h => by kernel_rfl) (ac2 o0.e1 o1.e1 an)
def wd6_0 (y m d N : Int) : Int := (IntKind.wrap .i64 (N + 3))
def wd6_1 (y m d N : Int) : Int := (IntKind.wrap .i64 (7 * ((wd6_0 y m d N) / 7)))
def wd6_2 (y m d N : Int) : Int := (IntKind.wrap .i64 ((wd6_0 y m d N) - (wd6_1 y m d N)))
def wd6_3 (y m d N : Int) : Int := (IntKind.wrap .i64 ((wd6_2 y m d N) + 1))
theorem wd6 (y m d N : Int) (o0 : Sm 45 [.int .i64 (wd6_0 y m d N), .int .i64 7] (.int .i64 ((wd6_0 y m d N) / 7))) (o1 : Sm 23 [.int .i64 y, .int .i64 m, .int .i64 d] (.int .i64 N)) :
    Sm 24 [.int .i64 y, .int .i64 m, .int .i64 d] (.int .i64 (wd6_3 y m d N)) :=
  .of1 (scr := [.auto 1, .ret (.int .i64 N) [], .ret (.int .i64 ((wd6_0 y m d N) / 7)) []]) (rest := []) (rd := []) (fun h => by kernel_rfl) (ac2 o0.e1 o1.e1 an)
def mk6_0 (y : Int) : Int := (Int.tmod y 1000000000)
def mk6_1 (m : Int) : Int := (Int.tmod m 12)
def mk6_2 (y m d L : Int) : Int := (IntKind.wrap .i64 ((mk6_1 m) + 12))
def mk6_3 (y m d L : Int) : Int := (Int.tmod (mk6_2 y m d L) 12)
def mk6_4 (y m d L : Int) : Int := (IntKind.wrap .i64 ((mk6_3 y m d L) + 1))
def mk6_5 (d L : Int) : Int := (Int.tmod d L)
def mk6_6 (y m d L : Int) : Int := (IntKind.wrap .i64 ((mk6_5 d L) + L))
def mk6_7 (y m d L : Int) : Int := (Int.tmod (mk6_6 y m d L) L)
def mk6_8 (y m d L : Int) : Int := (IntKind.wrap .i64 ((mk6_7 y m d L) + 1))
theorem mk6 (y m d L : Int) (o0 : (decide ((L : Int) ≠ 0)) = true) (o1 : Sm 40 [.int .i64 (mk6_0 y), .int .i64 (mk6_4 y m d L)] (.int .i64 L)) :
    Sm 18 [.int .i64 y, .int .i64 m, .int .i64 d] (.agg [.int .i64 (mk6_0 y), .int .i64 (mk6_4 y m d L), .int .i64 (mk6_8 y m d L)]) :=
  .of1 (scr := [.auto 4, .ret (.int .i64 L) [], .ob, .ob]) (rest := []) (rd := []) (fun h => by kernel_rfl) (ac1 o0 (ac2 o0 o1.e1 an))
def cwd_0 (y m d N : Int) : Int := (Int.tmod N 7)
def cwd_1 (y m d N : Int) : Int := (IntKind.wrap .i64 ((cwd_0 y m d N) + 10))
def cwd_2 (y m d N : Int) : Int := (Int.tmod (cwd_1 y m d N) 7)
def cwd_3 (y m d N : Int) : Int := (IntKind.wrap .i64 ((cwd_2 y m d N) + 1))
theorem cwd (y m d N : Int) (o0 : Sm 507 [.agg [.int .i64 y, .int .i64 m, .int .i64 d]] (.tuple [.int .i64 N, .bool true])) :
    Sm 401 [.agg [.int .i64 y, .int .i64 m, .int .i64 d]] (.int .i64 (cwd_3 y m d N)) :=
  .of1 (scr := [.auto 2, .ret (.tuple [.int .i64 N, .bool true]) []]) (rest := []) (rd := []) (fun h => by kernel_rfl) (ac1 o0.e1 an)
def dlt_0 (y m d s N a b c : Int) : Int := (IntKind.wrap .i64 (86400 * N))
def dlt_1 (y m d s N a b c : Int) : Int := (IntKind.wrap .i64 ((dlt_0 y m d s N a b c) + 0))
def dlt_2 (y m d s N a b c : Int) : Int := (IntKind.wrap .i64 ((dlt_1 y m d s N a b c) - 0))
def dlt_3 (s : Int) : Bool := (decide ((s : Int) < (-9007199254740992)))
def dlt_4 (s : Int) : Bool := (decide ((s : Int) > 9007199254740992))
def dlt_5 (y m d s N a b c : Int) : Int := (IntKind.wrap .i64 ((dlt_2 y m d s N a b c) + s))
def dlt_6 (y m d s N a b c : Int) : Bool := (decide (((dlt_5 y m d s N a b c) : Int) < (-72057594037927936)))
def dlt_7 (y m d s N a b c : Int) : Bool := (decide (((dlt_5 y m d s N a b c) : Int) > 72057594037927936))
def dlt_8 (y m d s N a b c : Int) : Int := (IntKind.wrap .i64 ((dlt_5 y m d s N a b c) + 0))
def dlt_9 (y m d s N a b c : Int) : Int := (IntKind.wrap .i64 (Int.tdiv (dlt_8 y m d s N a b c) 86400))
def dlt_10 (y m d s N a b c : Int) : Int := (Int.tmod (dlt_8 y m d s N a b c) 86400)
def dlt_11 (y m d s N a b c : Int) : Bool := (decide (((dlt_10 y m d s N a b c) : Int) < 0))
theorem dlt (y m d s N a b c : Int) (o0 : Sm 596 [.int .i64 (dlt_9 y m d s N a b c)] (.tuple [.agg [.int .i64 a, .int .i64 b, .int .i64 c], .bool true])) (o1 : (dlt_11 y m d s N a b c) = false) (o2 : (dlt_7 y m d s N a b c) = false) (o3 : (dlt_6 y m d s N a b c) = false) (o4 : (dlt_4 s) = false) (o5 : (dlt_3 s) = false) (o6 : Sm 507 [.agg [.int .i64 y, .int .i64 m, .int .i64 d]] (.tuple [.int .i64 N, .bool true])) :
    Sm 565 [.agg [.int .i64 y, .int .i64 m, .int .i64 d], .int .i64 s] (.tuple [.agg [.int .i64 a, .int .i64 b, .int .i64 c], .bool true]) :=
  .of1 (scr := [.auto 6, .ret (.tuple [.int .i64 N, .bool true]) [], .auto 40, .br false, .auto 2, .br false, .auto 2, .br false, .auto 2, .br false, .auto 36, .br false, .ret (.tuple [.agg [.int .i64 a, .int .i64 b, .int .i64 c], .bool true]) []]) (rest := []) (rd := []) (fun h => by kernel_rfl) (ac1 o0.e1 (ac2 o1 o2 (ac4 o3 o4 o5 o6.e1 an)))
def dlf_0 (y m d s N : Int) : Int := (IntKind.wrap .i64 (86400 * N))
def dlf_1 (y m d s N : Int) : Int := (IntKind.wrap .i64 ((dlf_0 y m d s N) + 0))
def dlf_2 (y m d s N : Int) : Int := (IntKind.wrap .i64 ((dlf_1 y m d s N) - 0))
def dlf_3 (s : Int) : Bool := (decide ((s : Int) < (-9007199254740992)))
def dlf_4 (s : Int) : Bool := (decide ((s : Int) > 9007199254740992))
def dlf_5 (y m d s N : Int) : Int := (IntKind.wrap .i64 ((dlf_2 y m d s N) + s))
def dlf_6 (y m d s N : Int) : Bool := (decide (((dlf_5 y m d s N) : Int) < (-72057594037927936)))
def dlf_7 (y m d s N : Int) : Bool := (decide (((dlf_5 y m d s N) : Int) > 72057594037927936))
def dlf_8 (y m d s N : Int) : Int := (IntKind.wrap .i64 ((dlf_5 y m d s N) + 0))
def dlf_9 (y m d s N : Int) : Int := (IntKind.wrap .i64 (Int.tdiv (dlf_8 y m d s N) 86400))
def dlf_10 (y m d s N : Int) : Int := (Int.tmod (dlf_8 y m d s N) 86400)
def dlf_11 (y m d s N : Int) : Bool := (decide (((dlf_10 y m d s N) : Int) < 0))
theorem dlf (y m d s N : Int) (o0 : Sm 596 [.int .i64 (dlf_9 y m d s N)] (.tuple [.agg [.int .i64 0, .int .i64 0, .int .i64 0], .bool false])) (o1 : (dlf_11 y m d s N) = false) (o2 : (dlf_7 y m d s N) = false) (o3 : (dlf_6 y m d s N) = false) (o4 : (dlf_4 s) = false) (o5 : (dlf_3 s) = false) (o6 : Sm 507 [.agg [.int .i64 y, .int .i64 m, .int .i64 d]] (.tuple [.int .i64 N, .bool true])) :
    Sm 565 [.agg [.int .i64 y, .int .i64 m, .int .i64 d], .int .i64 s] (.tuple [.agg [.int .i64 0, .int .i64 0, .int .i64 0], .bool false]) :=
  .of1 (scr := [.auto 6, .ret (.tuple [.int .i64 N, .bool true]) [], .auto 40, .br false, .auto 2, .br false, .auto 2, .br false, .auto 2, .br false, .auto 36, .br false, .ret (.tuple [.agg [.int .i64 0, .int .i64 0, .int .i64 0], .bool false]) []]) (rest := []) (rd := []) (fun h => by kernel_rfl) (ac1 o0.e1 (ac2 o1 o2 (ac4 o3 o4 o5 o6.e1 an)))
def btw_0 (y m d a b c N M : Int) : Int := (IntKind.wrap .i64 (86400 * N))
def btw_1 (y m d a b c N M : Int) : Int := (IntKind.wrap .i64 ((btw_0 y m d a b c N M) + 0))
def btw_2 (y m d a b c N M : Int) : Int := (IntKind.wrap .i64 ((btw_1 y m d a b c N M) - 0))
def btw_3 (y m d a b c N M : Int) : Int := (IntKind.wrap .i64 (86400 * M))
def btw_4 (y m d a b c N M : Int) : Int := (IntKind.wrap .i64 ((btw_3 y m d a b c N M) + 0))
def btw_5 (y m d a b c N M : Int) : Int := (IntKind.wrap .i64 ((btw_4 y m d a b c N M) - 0))
def btw_6 (y m d a b c N M : Int) : Int := (IntKind.wrap .i64 ((btw_5 y m d a b c N M) - (btw_2 y m d a b c N M)))
theorem btw (y m d a b c N M : Int) (o0 : Sm 507 [.agg [.int .i64 a, .int .i64 b, .int .i64 c]] (.tuple [.int .i64 M, .bool true])) (o1 : Sm 507 [.agg [.int .i64 y, .int .i64 m, .int .i64 d]] (.tuple [.int .i64 N, .bool true])) :
    Sm 498 [.agg [.int .i64 y, .int .i64 m, .int .i64 d, .int .i64 0, .bool true, .int .i64 0], .agg [.int .i64 a, .int .i64 b, .int .i64 c, .int .i64 0, .bool true, .int .i64 0]] (.tuple [.int .i64 (btw_6 y m d a b c N M), .bool true]) :=
  .of1 (scr := [.auto 4, .ret (.tuple [.int .i64 N, .bool true]) [], .auto 39, .ret (.tuple [.int .i64 M, .bool true]) []]) (rest := []) (rd := []) (fun h => by kernel_rfl) (ac2 o0.e1 o1.e1 an)
end Go.Proofs.YtmekaipcoghlfaaGreatDoor
end
