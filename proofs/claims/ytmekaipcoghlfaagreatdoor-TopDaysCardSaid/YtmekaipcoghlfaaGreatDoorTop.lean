/-
  TopDays in the terms of the executor: whatever the day and the number of days, the call returns true.
-/
import Derived.Test.YtmekaipcoghlfaaGreatDoorQd
import Derived.Test.YtmekaipcoghlfaaGreatDoorRa
import Derived.Test.YtmekaipcoghlfaaGreatDoorRb
import Derived.Test.YtmekaipcoghlfaaGreatDoorRc
import Derived.Test.YtmekaipcoghlfaaGreatDoorRd
import Derived.Test.YtmekaipcoghlfaaGreatDoorRe
import Derived.Test.YtmekaipcoghlfaaGreatDoorTa
import Derived.Test.YtmekaipcoghlfaaGreatDoorTc
import Derived.Test.YtmekaipcoghlfaaGreatDoorTd
import Derived.Test.YtmekaipcoghlfaaGreatDoorTe
import Derived.Test.YtmekaipcoghlfaaGreatDoorYd
set_option linter.all false
set_option linter.unusedVariables false
set_option linter.unusedSimpArgs false
noncomputable section
namespace Go.Proofs.YtmekaipcoghlfaaGreatDoor
open Go Go.Am Go.Proofs
set_option maxRecDepth 100000
theorem awk  (o0 : Sm 8 [.str [123, 97, 58, 32, 49, 125, 46, 97], .nilslice, .agg [.int .i64 11, .str [], .nilslice, .nilslice, .bool false, .bool false], .int .i64 1000] (.agg [.int .i64 1, .str [49], .int .i64 3, .nilslice, .nilslice])) (o1 : Sm 8 [.str [99, 111, 117, 110, 116, 40, 91, 49, 44, 32, 50, 93, 41], .nilslice, .agg [.int .i64 11, .str [], .nilslice, .nilslice, .bool false, .bool false], .int .i64 1000] (.agg [.int .i64 1, .str [50], .int .i64 3, .nilslice, .nilslice])) (o2 : Sm 8 [.str [40, 49, 46, 46, 51, 93], .nilslice, .agg [.int .i64 11, .str [], .nilslice, .nilslice, .bool false, .bool false], .int .i64 1000] (.agg [.int .i64 1, .str [40, 49, 46, 46, 51, 93], .int .i64 12, .fslice [.int .i64 3, .nilslice, .nilslice] 3 1 true true, .nilslice])) (o3 : Sm 8 [.str [49, 32, 43, 32, 49], .nilslice, .agg [.int .i64 11, .str [], .nilslice, .nilslice, .bool false, .bool false], .int .i64 1000] (.agg [.int .i64 1, .str [50], .int .i64 3, .nilslice, .nilslice])) :
    Sm 5 [] (.bool true) :=
  .of1 (scr := [.auto 2, .ret (.agg [.int .i64 1, .str [50], .int .i64 3, .nilslice, .nilslice]) [], .auto 10, .ret (.agg [.int .i64 1, .str [40, 49, 46, 46, 51, 93], .int .i64 12, .fslice [.int .i64 3, .nilslice, .nilslice] 3 1 true true, .nilslice]) [], .auto 11, .ret (.agg [.int .i64 1, .str [50], .int .i64 3, .nilslice, .nilslice]) [], .auto 11, .ret (.agg [.int .i64 1, .str [49], .int .i64 3, .nilslice, .nilslice]) []]) (rest := []) (rd := []) (fun h => by kernel_rfl) (ac4 o0.e1 o1.e1 o2.e1 o3.e1 an)
def topI2_0 (n : Int) : Int := (IntKind.wrap .i64 n)
def topI2_1 (Y2 M2 D2 : Int) : List Nat := ([64] ++ ([34] ++ dateL Y2 M2 D2 ++ [34]))
def topI2_2 (n Y M D : Int) : Int := (IntKind.wrap .i64 ((Cal.num Y M D) + (topI2_0 n)))
def topI2_3 (Y2 M2 D2 : Int) : List Nat := (([64, 34] ++ (dateL Y2 M2 D2)) ++ [34])
def topI2_4 (Y2 M2 D2 : Int) : Bool := (eqNats (topI2_3 Y2 M2 D2) [110, 117, 108, 108])
def topI2_5 (Y2 M2 D2 : Int) : Bool := (eqNats (topI2_1 Y2 M2 D2) (topI2_3 Y2 M2 D2))
theorem topI2 (y m d n Y M D Y2 M2 D2 W : Int) (o0 : (eqNats (intL W) (intL W)) = true) (o1 : Sm 21 [.int .i64 W] (.str (intL W))) (o2 : Sm 24 [.int .i64 Y, .int .i64 M, .int .i64 D] (.int .i64 W)) (o3 : (topI2_5 Y2 M2 D2) = true) (o4 : (eqNats (intL n) (intL n)) = true) (o5 : Sm 21 [.int .i64 (topI2_0 n)] (.str (intL n))) (o6 : (topI2_4 Y2 M2 D2) = false) (o7 : Sm 8 [.str [40, 100, 97, 121, 32, 43, 32, 110, 32, 42, 32, 64, 34, 80, 49, 68, 34, 32, 45, 32, 100, 97, 121, 41, 32, 47, 32, 64, 34, 80, 49, 68, 34], .fslice [.str [100, 97, 121], .int .i64 5, .nilslice, .nilslice, .str [110], .int .i64 3, .nilslice, .nilslice] 4 2 true true, .agg [.int .i64 11, .str [], .fslice [.int .i64 5, .str (dateL Y M D), .nilslice, .nilslice, .bool false, .bool false, .int .i64 3, .str (intL n), .nilslice, .nilslice, .bool false, .bool false] 6 2 false true, .fslice [.str [100, 97, 121], .str [110]] 1 2 false true, .bool false, .bool false], .int .i64 100] (.agg [.int .i64 1, .str (intL n), .int .i64 14, .nilslice, .nilslice])) (o8 : Sm 8 [.str [100, 97, 121, 46, 119, 101, 101, 107, 100, 97, 121], .fslice [.str [100, 97, 121], .int .i64 5, .nilslice, .nilslice, .str [110], .int .i64 3, .nilslice, .nilslice] 4 2 true true, .agg [.int .i64 11, .str [], .fslice [.int .i64 5, .str (dateL Y M D), .nilslice, .nilslice, .bool false, .bool false, .int .i64 3, .str (intL n), .nilslice, .nilslice, .bool false, .bool false] 6 2 false true, .fslice [.str [100, 97, 121], .str [110]] 1 2 false true, .bool false, .bool false], .int .i64 100] (.agg [.int .i64 1, .str (intL W), .int .i64 3, .nilslice, .nilslice])) (o9 : (Nat.ble (List.length ([64, 34] ++ (dateL Y2 M2 D2)) + List.length [34]) 4611686018427387904) = true) (o10 : (Nat.ble (List.length [64, 34] + List.length (dateL Y2 M2 D2)) 4611686018427387904) = true) (o11 : Sm 20 [.agg [.int .i64 Y2, .int .i64 M2, .int .i64 D2]] (.str (dateL Y2 M2 D2))) (o12 : (decide ((Y2 : Int) ≤ 999999999)) = true) (o13 : (decide ((Y2 : Int) ≥ (-999999999))) = true) (o14 : Sm 22 [.int .i64 (topI2_2 n Y M D)] (.tuple [.int .i64 Y2, .int .i64 M2, .int .i64 D2])) (o15 : Sm 23 [.int .i64 Y, .int .i64 M, .int .i64 D] (.int .i64 (Cal.num Y M D))) (o16 : Sm 8 [.str [100, 97, 121, 32, 43, 32, 110, 32, 42, 32, 64, 34, 80, 49, 68, 34], .fslice [.str [100, 97, 121], .int .i64 5, .nilslice, .nilslice, .str [110], .int .i64 3, .nilslice, .nilslice] 4 2 true true, .agg [.int .i64 11, .str [], .fslice [.int .i64 5, .str (dateL Y M D), .nilslice, .nilslice, .bool false, .bool false, .int .i64 3, .str (intL n), .nilslice, .nilslice, .bool false, .bool false] 6 2 false true, .fslice [.str [100, 97, 121], .str [110]] 1 2 false true, .bool false, .bool false], .int .i64 100] (.agg [.int .i64 1, .str ([64] ++ ([34] ++ dateL Y2 M2 D2 ++ [34])), .int .i64 14, .nilslice, .nilslice])) (o17 : Sm 20 [.agg [.int .i64 Y, .int .i64 M, .int .i64 D]] (.str (dateL Y M D))) (o18 : Sm 18 [.int .i64 y, .int .i64 m, .int .i64 d] (.agg [.int .i64 Y, .int .i64 M, .int .i64 D])) (o19 : Sm 5 [] (.bool true)) :
    Sm 4 [.int .i64 y, .int .i64 m, .int .i64 d, .int .i32 n] (.bool true) :=
  .of1 (scr := [.auto 1, .ret (.bool true) [], .auto 1, .ret (.agg [.int .i64 Y, .int .i64 M, .int .i64 D]) [], .auto 8, .ret (.str (dateL Y M D)) [], .ret (.str (intL n)) [], .auto 45, .ret (.agg [.int .i64 1, .str ([64] ++ ([34] ++ dateL Y2 M2 D2 ++ [34])), .int .i64 14, .nilslice, .nilslice]) [], .auto 4, .ret (.int .i64 (Cal.num Y M D)) [], .ret (.tuple [.int .i64 Y2, .int .i64 M2, .int .i64 D2]) [], .br true, .auto 2, .br true, .ret (.str (dateL Y2 M2 D2)) [], .ob, .ob, .auto 1, .ret (.agg [.int .i64 1, .str (intL W), .int .i64 3, .nilslice, .nilslice]) [], .auto 2, .ret (.agg [.int .i64 1, .str (intL n), .int .i64 14, .nilslice, .nilslice]) [], .auto 1, .br false, .auto 5, .ret (.str (intL n)) [], .auto 2, .br true, .auto 11, .br true, .auto 12, .ret (.int .i64 W) [], .auto 1, .ret (.str (intL W)) [], .auto 2, .br true]) (rest := []) (rd := []) (fun h => by kernel_rfl) (ac1 o0 (ac4 o1.e1 o2.e1 o3 o4 (ac16 o5.e1 o6 o7.e1 o8.e1 o9 o10 o11.e1 o12 o13 o14.e1 o15.e1 o16.e1 o5.e1 o17.e1 o18.e1 o19.e1 an)))
def topO6_0 (n : Int) : Int := (IntKind.wrap .i64 n)
def topO6_1 (n Y M D : Int) : Int := (IntKind.wrap .i64 ((Cal.num Y M D) + (topO6_0 n)))
theorem topO6 (y m d n Y M D Y2 M2 D2 W : Int) (o0 : (eqNats (intL W) (intL W)) = true) (o1 : Sm 21 [.int .i64 W] (.str (intL W))) (o2 : Sm 24 [.int .i64 Y, .int .i64 M, .int .i64 D] (.int .i64 W)) (o3 : Sm 8 [.str [40, 100, 97, 121, 32, 43, 32, 110, 32, 42, 32, 64, 34, 80, 49, 68, 34, 32, 45, 32, 100, 97, 121, 41, 32, 47, 32, 64, 34, 80, 49, 68, 34], .fslice [.str [100, 97, 121], .int .i64 5, .nilslice, .nilslice, .str [110], .int .i64 3, .nilslice, .nilslice] 4 2 true true, .agg [.int .i64 11, .str [], .fslice [.int .i64 5, .str (dateL Y M D), .nilslice, .nilslice, .bool false, .bool false, .int .i64 3, .str (intL n), .nilslice, .nilslice, .bool false, .bool false] 6 2 false true, .fslice [.str [100, 97, 121], .str [110]] 1 2 false true, .bool false, .bool false], .int .i64 100] (.agg [.int .i64 1, .str [110, 117, 108, 108], .int .i64 14, .nilslice, .nilslice])) (o4 : Sm 8 [.str [100, 97, 121, 46, 119, 101, 101, 107, 100, 97, 121], .fslice [.str [100, 97, 121], .int .i64 5, .nilslice, .nilslice, .str [110], .int .i64 3, .nilslice, .nilslice] 4 2 true true, .agg [.int .i64 11, .str [], .fslice [.int .i64 5, .str (dateL Y M D), .nilslice, .nilslice, .bool false, .bool false, .int .i64 3, .str (intL n), .nilslice, .nilslice, .bool false, .bool false] 6 2 false true, .fslice [.str [100, 97, 121], .str [110]] 1 2 false true, .bool false, .bool false], .int .i64 100] (.agg [.int .i64 1, .str (intL W), .int .i64 3, .nilslice, .nilslice])) (o5 : (decide ((Y2 : Int) ≤ 999999999)) = false) (o6 : (decide ((Y2 : Int) ≥ (-999999999))) = true) (o7 : Sm 22 [.int .i64 (topO6_1 n Y M D)] (.tuple [.int .i64 Y2, .int .i64 M2, .int .i64 D2])) (o8 : Sm 23 [.int .i64 Y, .int .i64 M, .int .i64 D] (.int .i64 (Cal.num Y M D))) (o9 : Sm 8 [.str [100, 97, 121, 32, 43, 32, 110, 32, 42, 32, 64, 34, 80, 49, 68, 34], .fslice [.str [100, 97, 121], .int .i64 5, .nilslice, .nilslice, .str [110], .int .i64 3, .nilslice, .nilslice] 4 2 true true, .agg [.int .i64 11, .str [], .fslice [.int .i64 5, .str (dateL Y M D), .nilslice, .nilslice, .bool false, .bool false, .int .i64 3, .str (intL n), .nilslice, .nilslice, .bool false, .bool false] 6 2 false true, .fslice [.str [100, 97, 121], .str [110]] 1 2 false true, .bool false, .bool false], .int .i64 100] (.agg [.int .i64 1, .str [110, 117, 108, 108], .int .i64 14, .nilslice, .nilslice])) (o10 : Sm 21 [.int .i64 (topO6_0 n)] (.str (intL n))) (o11 : Sm 20 [.agg [.int .i64 Y, .int .i64 M, .int .i64 D]] (.str (dateL Y M D))) (o12 : Sm 18 [.int .i64 y, .int .i64 m, .int .i64 d] (.agg [.int .i64 Y, .int .i64 M, .int .i64 D])) (o13 : Sm 5 [] (.bool true)) :
    Sm 4 [.int .i64 y, .int .i64 m, .int .i64 d, .int .i32 n] (.bool true) :=
  .of1 (scr := [.auto 1, .ret (.bool true) [], .auto 1, .ret (.agg [.int .i64 Y, .int .i64 M, .int .i64 D]) [], .auto 8, .ret (.str (dateL Y M D)) [], .ret (.str (intL n)) [], .auto 45, .ret (.agg [.int .i64 1, .str [110, 117, 108, 108], .int .i64 14, .nilslice, .nilslice]) [], .auto 4, .ret (.int .i64 (Cal.num Y M D)) [], .ret (.tuple [.int .i64 Y2, .int .i64 M2, .int .i64 D2]) [], .br true, .auto 2, .br false, .auto 1, .ret (.agg [.int .i64 1, .str (intL W), .int .i64 3, .nilslice, .nilslice]) [], .auto 2, .ret (.agg [.int .i64 1, .str [110, 117, 108, 108], .int .i64 14, .nilslice, .nilslice]) [], .auto 33, .ret (.int .i64 W) [], .auto 1, .ret (.str (intL W)) [], .auto 2, .br true]) (rest := []) (rd := []) (fun h => by kernel_rfl) (ac2 o0 o1.e1 (ac4 o2.e1 o3.e1 o4.e1 o5 (ac8 o6 o7.e1 o8.e1 o9.e1 o10.e1 o11.e1 o12.e1 o13.e1 an)))
def topO7_0 (n : Int) : Int := (IntKind.wrap .i64 n)
def topO7_1 (n Y M D : Int) : Int := (IntKind.wrap .i64 ((Cal.num Y M D) + (topO7_0 n)))
theorem topO7 (y m d n Y M D Y2 M2 D2 W : Int) (o0 : (eqNats (intL W) (intL W)) = true) (o1 : Sm 21 [.int .i64 W] (.str (intL W))) (o2 : Sm 24 [.int .i64 Y, .int .i64 M, .int .i64 D] (.int .i64 W)) (o3 : Sm 8 [.str [40, 100, 97, 121, 32, 43, 32, 110, 32, 42, 32, 64, 34, 80, 49, 68, 34, 32, 45, 32, 100, 97, 121, 41, 32, 47, 32, 64, 34, 80, 49, 68, 34], .fslice [.str [100, 97, 121], .int .i64 5, .nilslice, .nilslice, .str [110], .int .i64 3, .nilslice, .nilslice] 4 2 true true, .agg [.int .i64 11, .str [], .fslice [.int .i64 5, .str (dateL Y M D), .nilslice, .nilslice, .bool false, .bool false, .int .i64 3, .str (intL n), .nilslice, .nilslice, .bool false, .bool false] 6 2 false true, .fslice [.str [100, 97, 121], .str [110]] 1 2 false true, .bool false, .bool false], .int .i64 100] (.agg [.int .i64 1, .str [110, 117, 108, 108], .int .i64 14, .nilslice, .nilslice])) (o4 : Sm 8 [.str [100, 97, 121, 46, 119, 101, 101, 107, 100, 97, 121], .fslice [.str [100, 97, 121], .int .i64 5, .nilslice, .nilslice, .str [110], .int .i64 3, .nilslice, .nilslice] 4 2 true true, .agg [.int .i64 11, .str [], .fslice [.int .i64 5, .str (dateL Y M D), .nilslice, .nilslice, .bool false, .bool false, .int .i64 3, .str (intL n), .nilslice, .nilslice, .bool false, .bool false] 6 2 false true, .fslice [.str [100, 97, 121], .str [110]] 1 2 false true, .bool false, .bool false], .int .i64 100] (.agg [.int .i64 1, .str (intL W), .int .i64 3, .nilslice, .nilslice])) (o5 : (decide ((Y2 : Int) ≥ (-999999999))) = false) (o6 : Sm 22 [.int .i64 (topO7_1 n Y M D)] (.tuple [.int .i64 Y2, .int .i64 M2, .int .i64 D2])) (o7 : Sm 23 [.int .i64 Y, .int .i64 M, .int .i64 D] (.int .i64 (Cal.num Y M D))) (o8 : Sm 8 [.str [100, 97, 121, 32, 43, 32, 110, 32, 42, 32, 64, 34, 80, 49, 68, 34], .fslice [.str [100, 97, 121], .int .i64 5, .nilslice, .nilslice, .str [110], .int .i64 3, .nilslice, .nilslice] 4 2 true true, .agg [.int .i64 11, .str [], .fslice [.int .i64 5, .str (dateL Y M D), .nilslice, .nilslice, .bool false, .bool false, .int .i64 3, .str (intL n), .nilslice, .nilslice, .bool false, .bool false] 6 2 false true, .fslice [.str [100, 97, 121], .str [110]] 1 2 false true, .bool false, .bool false], .int .i64 100] (.agg [.int .i64 1, .str [110, 117, 108, 108], .int .i64 14, .nilslice, .nilslice])) (o9 : Sm 21 [.int .i64 (topO7_0 n)] (.str (intL n))) (o10 : Sm 20 [.agg [.int .i64 Y, .int .i64 M, .int .i64 D]] (.str (dateL Y M D))) (o11 : Sm 18 [.int .i64 y, .int .i64 m, .int .i64 d] (.agg [.int .i64 Y, .int .i64 M, .int .i64 D])) (o12 : Sm 5 [] (.bool true)) :
    Sm 4 [.int .i64 y, .int .i64 m, .int .i64 d, .int .i32 n] (.bool true) :=
  .of1 (scr := [.auto 1, .ret (.bool true) [], .auto 1, .ret (.agg [.int .i64 Y, .int .i64 M, .int .i64 D]) [], .auto 8, .ret (.str (dateL Y M D)) [], .ret (.str (intL n)) [], .auto 45, .ret (.agg [.int .i64 1, .str [110, 117, 108, 108], .int .i64 14, .nilslice, .nilslice]) [], .auto 4, .ret (.int .i64 (Cal.num Y M D)) [], .ret (.tuple [.int .i64 Y2, .int .i64 M2, .int .i64 D2]) [], .br false, .auto 4, .ret (.agg [.int .i64 1, .str (intL W), .int .i64 3, .nilslice, .nilslice]) [], .auto 2, .ret (.agg [.int .i64 1, .str [110, 117, 108, 108], .int .i64 14, .nilslice, .nilslice]) [], .auto 33, .ret (.int .i64 W) [], .auto 1, .ret (.str (intL W)) [], .auto 2, .br true]) (rest := []) (rd := []) (fun h => by kernel_rfl) (ac1 o0 (ac4 o1.e1 o2.e1 o3.e1 o4.e1 (ac8 o5 o6.e1 o7.e1 o8.e1 o9.e1 o10.e1 o11.e1 o12.e1 an)))
theorem awake_ok : Sm 5 [] (.bool true) := awk run3 run2 run1 run0
theorem wrapN1 (n : Int) (n0 : -2147483648 ≤ n) (n1 : n ≤ 2147483647) : IntKind.wrap .i64 (1 * (86400 * n)) = 86400 * n := by
  rw [wrapI (by omega) (by omega)]; omega
theorem dateL_len (y m d : Int) (h : y.natAbs ≤ 999999999) (hm : m.natAbs ≤ 99) (hd : d.natAbs ≤ 99) : (dateL y m d).length ≤ 16 := by
  have l1 : (padL 4 y.natAbs).length ≤ 9 := padL_len (by decide) (by omega)
  have l2 : (padL 2 m.natAbs).length ≤ 2 := padL_len (by decide) (by omega)
  have l3 : (padL 2 d.natAbs).length ≤ 2 := padL_len (by decide) (by omega)
  unfold dateL
  split <;> simp only [List.length_append, List.length_cons, List.length_nil] <;> omega
theorem wday_bd (n : Int) : 1 ≤ wday n ∧ wday n ≤ 7 := by unfold wday; omega
theorem of6_any (n Y M D : Int) (h5 : -1000000001 ≤ Y) (h6 : Y ≤ 1000000000) (h1 : 1 ≤ M) (h2 : M ≤ 12) (h3 : 1 ≤ D) (h4 : D ≤ Cal.len Y M) (hn : Cal.num Y M D = n) :
    Sm 22 [.int .i64 n] (.tuple [.int .i64 Y, .int .i64 M, .int .i64 D]) := by
  obtain rfl | rfl | rfl | rfl | rfl | rfl | rfl | rfl | rfl | rfl | rfl | rfl : M = 1 ∨ M = 2 ∨ M = 3 ∨ M = 4 ∨ M = 5 ∨ M = 6 ∨ M = 7 ∨ M = 8 ∨ M = 9 ∨ M = 10 ∨ M = 11 ∨ M = 12 := by omega
  · exact of6_1 n Y D h5 h6 h3 h4 hn
  · exact of6_2 n Y D h5 h6 h3 h4 hn
  · exact of6_3 n Y D h5 h6 h3 h4 hn
  · exact of6_4 n Y D h5 h6 h3 h4 hn
  · exact of6_5 n Y D h5 h6 h3 h4 hn
  · exact of6_6 n Y D h5 h6 h3 h4 hn
  · exact of6_7 n Y D h5 h6 h3 h4 hn
  · exact of6_8 n Y D h5 h6 h3 h4 hn
  · exact of6_9 n Y D h5 h6 h3 h4 hn
  · exact of6_10 n Y D h5 h6 h3 h4 hn
  · exact of6_11 n Y D h5 h6 h3 h4 hn
  · exact of6_12 n Y D h5 h6 h3 h4 hn
/-- TopDays is true. -/
theorem topDays (y m d n : Int) (n0 : -2147483648 ≤ n) (n1 : n ≤ 2147483647) : Sm 4 [.int .i64 y, .int .i64 m, .int .i64 d, .int .i32 n] (.bool true) := by
  obtain ⟨Y, M, D, hY0, hY1, hv, hmk⟩ := mk6_ok y m d
  obtain ⟨Y2, M2, D2, hv2, hnum, hb0, hb1, hin, hout⟩ := later_ok Y M D n hv hY0 hY1 n0 n1
  obtain ⟨v1, v2, v3, v4⟩ := hv
  obtain ⟨w1, w2, w3, w4⟩ := hv2
  have hl := Cal.len_bd Y M
  have hl2 := Cal.len_bd Y2 M2
  obtain ⟨u0, u1⟩ := num_bd Y M D (by omega) (by omega) v1 v2 v3 (by omega)
  have hread := readDate_ok Y M D v1 v2 v3 v4 hY0 hY1
  have hsig := signed_ok n n0 (by omega)
  have hmayD := dmay_ok (decide (n < 0)) n.natAbs (by omega) (by intro h; have := of_decide_eq_true h; omega)
  have hmay := may_true Y M D v1 v2 v3 v4 hY0 hY1
  have htimes := times_ok n n0 n1
  have hsm := smay_ok (86400 * n) (by omega) (by omega)
  have hw1 := wrapN1 n n0 n1
  have hcn := cnum_ok Y M D v1 v2 v3 v4 hY0 hY1
  have hcw := cwd_ok Y M D _ u0 u1 hcn
  have hn6 := num6_ok Y M D (by omega) (by omega) v1 v2 v3 (by omega)
  have hw6 := wd6_ok Y M D _ u0 u1 hn6
  have hWb := wday_bd (Cal.num Y M D)
  have hdt := date_ok Y M D v1 v2 v3 v4 hY0 hY1
  have hWt := numText_ok (wday (Cal.num Y M D)) (by omega) (by omega)
  have hWr := refItoa_ok (wday (Cal.num Y M D)) (by omega) (by omega)
  have hnr := refItoa_ok n n0 (by omega)
  have hWi := int_ok (wday (Cal.num Y M D)) (by omega) (by omega)
  have hWm := dmay_ok (decide (wday (Cal.num Y M D) < 0)) (wday (Cal.num Y M D)).natAbs (by omega) (by intro h; have := of_decide_eq_true h; omega)
  have hRW := fun a b c => runW n Y M D a b c (wday (Cal.num Y M D)) hWt hWm hWi hcw hmayD hsig hmay hread nameOf
  have e0 : IntKind.wrap .i64 n = n := wrapI (by omega) (by omega)
  have e1 : IntKind.wrap .i64 (Cal.num Y M D + n) = Cal.num Y M D + n := wrapI (by omega) (by omega)
  have e1' : IntKind.wrap .i64 (Cal.num Y M D + IntKind.wrap .i64 n) = Cal.num Y M D + n := by rw [e0, e1]
  rcases hyb : yearB Y2 with _ | _
  · have hlat := hout hyb
    have hRA := fun a b c => runAf n Y M D a b c (wday (Cal.num Y M D)) (by show Sm 565 [_, .int .i64 (IntKind.wrap .i64 (1 * (86400 * n)))] _; rw [hw1]; exact hlat) hsm htimes hmayD hsig hmay hread nameOf
    have hRK := fun a b c => runKf n Y M D a b c (wday (Cal.num Y M D)) (by show Sm 565 [_, .int .i64 (IntKind.wrap .i64 (1 * (86400 * n)))] _; rw [hw1]; exact hlat) hsm htimes hmayD hsig hmay hread nameOf
    have hfar : Y2 < -999999999 ∨ 999999999 < Y2 := by
      by_cases h1 : -999999999 ≤ Y2 ∧ Y2 ≤ 999999999
      · have : yearB Y2 = true := by unfold yearB; rw [decide_eq_true h1.1, decide_eq_true h1.2]; rfl
        rw [this] at hyb; cases hyb
      · omega
    have hof : ∃ a b c, (a < -999999999 ∨ 999999999 < a) ∧ Sm 22 [.int .i64 (Cal.num Y M D + n)] (.tuple [.int .i64 a, .int .i64 b, .int .i64 c]) := by
      have hnb : -400000000000 ≤ Cal.num Y M D + n ∧ Cal.num Y M D + n ≤ 400000000000 := by
        have := Cal.num_yd Y M D v1 v2
        have hb := yd_bd Y M D v1 v2 v3 (by omega)
        unfold Cal.yr at this
        omega
      have hyd := Cal.num_yd Y2 M2 D2 w1 w2
      have hb := yd_bd Y2 M2 D2 w1 w2 w3 (by omega)
      by_cases c1 : Y2 ≤ 1000000000
      · by_cases c2 : -1000000001 ≤ Y2
        · exact ⟨Y2, M2, D2, hfar, of6_any _ Y2 M2 D2 c2 c1 w1 w2 w3 w4 hnum⟩
        · obtain ⟨b, c, h⟩ := of6_lo _ hnb.1 hnb.2 (by
            have hlt := yd_lt Y2 M2 D2 w1 w2 w3 w4
            have hnx := yr_next Y2
            have hmo := yr_mono (Y2 + 1) (-1000000001) (by omega)
            rw [show Cal.yr (-1000000001) = -365242500731 by decide] at hmo
            omega)
          exact ⟨_, b, c, by omega, h⟩
      · obtain ⟨b, c, h⟩ := of6_hi _ hnb.1 hnb.2 (by
          have hmo := yr_mono 1000000001 Y2 (by omega)
          rw [show Cal.yr 1000000001 = 365242500000 by decide] at hmo
          omega)
        exact ⟨_, b, c, by omega, h⟩
    obtain ⟨a, b, c, hab, hof⟩ := hof
    by_cases hlo : a < -999999999
    · exact topO7 y m d n Y M D a b c (wday (Cal.num Y M D)) (eqNats_self _) hWr hw6 (hRK a b c) (hRW a b c) (decide_eq_false (by omega))
        (by show Sm 22 [.int .i64 (IntKind.wrap .i64 (Cal.num Y M D + IntKind.wrap .i64 n))] _; rw [e1']; exact hof) hn6 (hRA a b c) (by show Sm 21 [.int .i64 (IntKind.wrap .i64 n)] _; rw [e0]; exact hnr) hdt hmk awake_ok
    · exact topO6 y m d n Y M D a b c (wday (Cal.num Y M D)) (eqNats_self _) hWr hw6 (hRK a b c) (hRW a b c) (decide_eq_false (by omega)) (decide_eq_true (by omega))
        (by show Sm 22 [.int .i64 (IntKind.wrap .i64 (Cal.num Y M D + IntKind.wrap .i64 n))] _; rw [e1']; exact hof) hn6 (hRA a b c) (by show Sm 21 [.int .i64 (IntKind.wrap .i64 n)] _; rw [e0]; exact hnr) hdt hmk awake_ok
  · have hlat := hin hyb
    have hyy : -999999999 ≤ Y2 ∧ Y2 ≤ 999999999 := by
      unfold yearB at hyb
      rw [Bool.and_eq_true] at hyb
      exact ⟨of_decide_eq_true hyb.1, of_decide_eq_true hyb.2⟩
    have hmay2 := may_true Y2 M2 D2 w1 w2 w3 w4 hyy.1 hyy.2
    have hdt2 := date_ok Y2 M2 D2 w1 w2 w3 w4 hyy.1 hyy.2
    have hq2 := quote_ok Y2 M2 D2 w1 w2 w3 w4 hyy.1 hyy.2
    have hlen := dateL_len Y2 M2 D2 (by omega) (by omega) (by omega)
    have hcn2 := cnum_ok Y2 M2 D2 w1 w2 w3 w4 hyy.1 hyy.2
    obtain ⟨t0, t1⟩ := num_bd Y2 M2 D2 (by omega) (by omega) w1 w2 w3 (by omega)
    have hbt := btw_ok Y M D Y2 M2 D2 _ _ u0 u1 t0 t1 hcn2 hcn
    rw [hnum, show Cal.num Y M D + n - Cal.num Y M D = n by omega] at hbt
    have hl5 : Sm 565 [.agg [.int .i64 Y, .int .i64 M, .int .i64 D], .int .i64 (IntKind.wrap .i64 (1 * (86400 * n)))] (.tuple [.agg [.int .i64 Y2, .int .i64 M2, .int .i64 D2], .bool true]) := by rw [hw1]; exact hlat
    have hRA := runA n Y M D Y2 M2 D2 (wday (Cal.num Y M D)) (ble _ _ (by simp only [List.length_append, List.length_cons, List.length_nil]; omega)) hq2 hdt2 hmay2 hl5 hsm htimes hmayD hsig hmay hread nameOf
    have hRK := runK n Y M D Y2 M2 D2 (wday (Cal.num Y M D)) (numText_ok n n0 (by omega)) hmayD (ratio_ok n n0 n1) hsm hbt hmay2 hl5 htimes hsig hmay hread nameOf
    exact topI2 y m d n Y M D Y2 M2 D2 (wday (Cal.num Y M D)) (eqNats_self _) hWr hw6 (by show eqNats ([64] ++ ([34] ++ dateL Y2 M2 D2 ++ [34])) (([64, 34] ++ dateL Y2 M2 D2) ++ [34]) = true; exact eqNats_self _) (eqNats_self _)
      (by show Sm 21 [.int .i64 (IntKind.wrap .i64 n)] _; rw [e0]; exact hnr) (by show eqNats (64 :: _) (110 :: _) = false; exact eqNats_cons_ne _ _ (by decide)) hRK (hRW Y2 M2 D2)
      (ble _ _ (by simp only [List.length_append, List.length_cons, List.length_nil]; omega)) (ble _ _ (by simp only [List.length_append, List.length_cons, List.length_nil]; omega)) hdt2 (decide_eq_true hyy.2) (decide_eq_true hyy.1)
      (by show Sm 22 [.int .i64 (IntKind.wrap .i64 (Cal.num Y M D + IntKind.wrap .i64 n))] _; rw [e1']; exact of6_any _ Y2 M2 D2 (by omega) (by omega) w1 w2 w3 w4 hnum) hn6 hRA hdt hmk awake_ok
end Go.Proofs.YtmekaipcoghlfaaGreatDoor
end
