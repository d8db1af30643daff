/-
  Part of the proof of TopDays: lemmas that the others lean on.
-/
import Derived.Test.YtmekaipcoghlfaaGreatDoorTb
set_option linter.all false
set_option linter.unusedVariables false
set_option linter.unusedSimpArgs false
noncomputable section
namespace Go.Proofs.YtmekaipcoghlfaaGreatDoor
open Go Go.Am Go.Proofs
set_option maxHeartbeats 4000000
/-- So many decimal digits. -/
def digs : Nat → Nat → List Nat
  | 0, _ => []
  | k + 1, n => digs k (n / 10) ++ [48 + n % 10]
/-- A number's decimal numeral. -/
def itoaL (n : Nat) : List Nat := digs (max 1 (nd n)) n
def ndg3_7_0 (n : Nat) : Bool := (decide ((((n : Nat) : Int) : Int) ≥ 100))
theorem ndg3_7 (n : Nat) (o0 : (ndg3_7_0 n) = true) (o1 : Sm 310 [.int .u64 ((n : Nat) : Int)] (.int .i64 7)) :
    Sm 212 [.int .u64 ((n : Nat) : Int)] (.int .i64 3) :=
  .of1 (scr := [.auto 1, .ret (.int .i64 7) [], .auto 4, .br true]) (rest := []) (rd := []) (fun h => by kernel_rfl) (ac2 o0 o1.e1 an)
def ndg3_8_0 (n : Nat) : Bool := (decide ((((n : Nat) : Int) : Int) ≥ 100))
theorem ndg3_8 (n : Nat) (o0 : (ndg3_8_0 n) = true) (o1 : Sm 310 [.int .u64 ((n : Nat) : Int)] (.int .i64 8)) :
    Sm 212 [.int .u64 ((n : Nat) : Int)] (.int .i64 3) :=
  .of1 (scr := [.auto 1, .ret (.int .i64 8) [], .auto 4, .br true]) (rest := []) (rd := []) (fun h => by kernel_rfl) (ac2 o0 o1.e1 an)
def ndg3_9_0 (n : Nat) : Bool := (decide ((((n : Nat) : Int) : Int) ≥ 100))
theorem ndg3_9 (n : Nat) (o0 : (ndg3_9_0 n) = true) (o1 : Sm 310 [.int .u64 ((n : Nat) : Int)] (.int .i64 9)) :
    Sm 212 [.int .u64 ((n : Nat) : Int)] (.int .i64 3) :=
  .of1 (scr := [.auto 1, .ret (.int .i64 9) [], .auto 4, .br true]) (rest := []) (rd := []) (fun h => by kernel_rfl) (ac2 o0 o1.e1 an)
def ndg3_10_0 (n : Nat) : Bool := (decide ((((n : Nat) : Int) : Int) ≥ 1000))
theorem ndg3_10 (n : Nat) (o0 : (ndg3_10_0 n) = false) (o1 : Sm 310 [.int .u64 ((n : Nat) : Int)] (.int .i64 10)) :
    Sm 212 [.int .u64 ((n : Nat) : Int)] (.int .i64 3) :=
  .of1 (scr := [.auto 1, .ret (.int .i64 10) [], .auto 4, .br false]) (rest := []) (rd := []) (fun h => by kernel_rfl) (ac2 o0 o1.e1 an)
def ndg4_10_0 (n : Nat) : Bool := (decide ((((n : Nat) : Int) : Int) ≥ 1000))
theorem ndg4_10 (n : Nat) (o0 : (ndg4_10_0 n) = true) (o1 : Sm 310 [.int .u64 ((n : Nat) : Int)] (.int .i64 10)) :
    Sm 212 [.int .u64 ((n : Nat) : Int)] (.int .i64 4) :=
  .of1 (scr := [.auto 1, .ret (.int .i64 10) [], .auto 4, .br true]) (rest := []) (rd := []) (fun h => by kernel_rfl) (ac2 o0 o1.e1 an)
def ndg4_11_0 (n : Nat) : Bool := (decide ((((n : Nat) : Int) : Int) ≥ 1000))
theorem ndg4_11 (n : Nat) (o0 : (ndg4_11_0 n) = true) (o1 : Sm 310 [.int .u64 ((n : Nat) : Int)] (.int .i64 11)) :
    Sm 212 [.int .u64 ((n : Nat) : Int)] (.int .i64 4) :=
  .of1 (scr := [.auto 1, .ret (.int .i64 11) [], .auto 4, .br true]) (rest := []) (rd := []) (fun h => by kernel_rfl) (ac2 o0 o1.e1 an)
def ndg4_12_0 (n : Nat) : Bool := (decide ((((n : Nat) : Int) : Int) ≥ 1000))
theorem ndg4_12 (n : Nat) (o0 : (ndg4_12_0 n) = true) (o1 : Sm 310 [.int .u64 ((n : Nat) : Int)] (.int .i64 12)) :
    Sm 212 [.int .u64 ((n : Nat) : Int)] (.int .i64 4) :=
  .of1 (scr := [.auto 1, .ret (.int .i64 12) [], .auto 4, .br true]) (rest := []) (rd := []) (fun h => by kernel_rfl) (ac2 o0 o1.e1 an)
def ndg4_13_0 (n : Nat) : Bool := (decide ((((n : Nat) : Int) : Int) ≥ 1000))
theorem ndg4_13 (n : Nat) (o0 : (ndg4_13_0 n) = true) (o1 : Sm 310 [.int .u64 ((n : Nat) : Int)] (.int .i64 13)) :
    Sm 212 [.int .u64 ((n : Nat) : Int)] (.int .i64 4) :=
  .of1 (scr := [.auto 1, .ret (.int .i64 13) [], .auto 4, .br true]) (rest := []) (rd := []) (fun h => by kernel_rfl) (ac2 o0 o1.e1 an)
def ndg4_14_0 (n : Nat) : Bool := (decide ((((n : Nat) : Int) : Int) ≥ 10000))
theorem ndg4_14 (n : Nat) (o0 : (ndg4_14_0 n) = false) (o1 : Sm 310 [.int .u64 ((n : Nat) : Int)] (.int .i64 14)) :
    Sm 212 [.int .u64 ((n : Nat) : Int)] (.int .i64 4) :=
  .of1 (scr := [.auto 1, .ret (.int .i64 14) [], .auto 4, .br false]) (rest := []) (rd := []) (fun h => by kernel_rfl) (ac2 o0 o1.e1 an)
def ndg5_14_0 (n : Nat) : Bool := (decide ((((n : Nat) : Int) : Int) ≥ 10000))
theorem ndg5_14 (n : Nat) (o0 : (ndg5_14_0 n) = true) (o1 : Sm 310 [.int .u64 ((n : Nat) : Int)] (.int .i64 14)) :
    Sm 212 [.int .u64 ((n : Nat) : Int)] (.int .i64 5) :=
  .of1 (scr := [.auto 1, .ret (.int .i64 14) [], .auto 4, .br true]) (rest := []) (rd := []) (fun h => by kernel_rfl) (ac2 o0 o1.e1 an)
def ndg5_15_0 (n : Nat) : Bool := (decide ((((n : Nat) : Int) : Int) ≥ 10000))
theorem ndg5_15 (n : Nat) (o0 : (ndg5_15_0 n) = true) (o1 : Sm 310 [.int .u64 ((n : Nat) : Int)] (.int .i64 15)) :
    Sm 212 [.int .u64 ((n : Nat) : Int)] (.int .i64 5) :=
  .of1 (scr := [.auto 1, .ret (.int .i64 15) [], .auto 4, .br true]) (rest := []) (rd := []) (fun h => by kernel_rfl) (ac2 o0 o1.e1 an)
def ndg5_16_0 (n : Nat) : Bool := (decide ((((n : Nat) : Int) : Int) ≥ 10000))
theorem ndg5_16 (n : Nat) (o0 : (ndg5_16_0 n) = true) (o1 : Sm 310 [.int .u64 ((n : Nat) : Int)] (.int .i64 16)) :
    Sm 212 [.int .u64 ((n : Nat) : Int)] (.int .i64 5) :=
  .of1 (scr := [.auto 1, .ret (.int .i64 16) [], .auto 4, .br true]) (rest := []) (rd := []) (fun h => by kernel_rfl) (ac2 o0 o1.e1 an)
def ndg5_17_0 (n : Nat) : Bool := (decide ((((n : Nat) : Int) : Int) ≥ 100000))
theorem ndg5_17 (n : Nat) (o0 : (ndg5_17_0 n) = false) (o1 : Sm 310 [.int .u64 ((n : Nat) : Int)] (.int .i64 17)) :
    Sm 212 [.int .u64 ((n : Nat) : Int)] (.int .i64 5) :=
  .of1 (scr := [.auto 1, .ret (.int .i64 17) [], .auto 4, .br false]) (rest := []) (rd := []) (fun h => by kernel_rfl) (ac2 o0 o1.e1 an)
def ndg6_17_0 (n : Nat) : Bool := (decide ((((n : Nat) : Int) : Int) ≥ 100000))
theorem ndg6_17 (n : Nat) (o0 : (ndg6_17_0 n) = true) (o1 : Sm 310 [.int .u64 ((n : Nat) : Int)] (.int .i64 17)) :
    Sm 212 [.int .u64 ((n : Nat) : Int)] (.int .i64 6) :=
  .of1 (scr := [.auto 1, .ret (.int .i64 17) [], .auto 4, .br true]) (rest := []) (rd := []) (fun h => by kernel_rfl) (ac2 o0 o1.e1 an)
def ndg6_18_0 (n : Nat) : Bool := (decide ((((n : Nat) : Int) : Int) ≥ 100000))
theorem ndg6_18 (n : Nat) (o0 : (ndg6_18_0 n) = true) (o1 : Sm 310 [.int .u64 ((n : Nat) : Int)] (.int .i64 18)) :
    Sm 212 [.int .u64 ((n : Nat) : Int)] (.int .i64 6) :=
  .of1 (scr := [.auto 1, .ret (.int .i64 18) [], .auto 4, .br true]) (rest := []) (rd := []) (fun h => by kernel_rfl) (ac2 o0 o1.e1 an)
def ndg6_19_0 (n : Nat) : Bool := (decide ((((n : Nat) : Int) : Int) ≥ 100000))
theorem ndg6_19 (n : Nat) (o0 : (ndg6_19_0 n) = true) (o1 : Sm 310 [.int .u64 ((n : Nat) : Int)] (.int .i64 19)) :
    Sm 212 [.int .u64 ((n : Nat) : Int)] (.int .i64 6) :=
  .of1 (scr := [.auto 1, .ret (.int .i64 19) [], .auto 4, .br true]) (rest := []) (rd := []) (fun h => by kernel_rfl) (ac2 o0 o1.e1 an)
def ndg6_20_0 (n : Nat) : Bool := (decide ((((n : Nat) : Int) : Int) ≥ 1000000))
theorem ndg6_20 (n : Nat) (o0 : (ndg6_20_0 n) = false) (o1 : Sm 310 [.int .u64 ((n : Nat) : Int)] (.int .i64 20)) :
    Sm 212 [.int .u64 ((n : Nat) : Int)] (.int .i64 6) :=
  .of1 (scr := [.auto 1, .ret (.int .i64 20) [], .auto 4, .br false]) (rest := []) (rd := []) (fun h => by kernel_rfl) (ac2 o0 o1.e1 an)
def ndg7_20_0 (n : Nat) : Bool := (decide ((((n : Nat) : Int) : Int) ≥ 1000000))
theorem ndg7_20 (n : Nat) (o0 : (ndg7_20_0 n) = true) (o1 : Sm 310 [.int .u64 ((n : Nat) : Int)] (.int .i64 20)) :
    Sm 212 [.int .u64 ((n : Nat) : Int)] (.int .i64 7) :=
  .of1 (scr := [.auto 1, .ret (.int .i64 20) [], .auto 4, .br true]) (rest := []) (rd := []) (fun h => by kernel_rfl) (ac2 o0 o1.e1 an)
def ndg7_21_0 (n : Nat) : Bool := (decide ((((n : Nat) : Int) : Int) ≥ 1000000))
theorem ndg7_21 (n : Nat) (o0 : (ndg7_21_0 n) = true) (o1 : Sm 310 [.int .u64 ((n : Nat) : Int)] (.int .i64 21)) :
    Sm 212 [.int .u64 ((n : Nat) : Int)] (.int .i64 7) :=
  .of1 (scr := [.auto 1, .ret (.int .i64 21) [], .auto 4, .br true]) (rest := []) (rd := []) (fun h => by kernel_rfl) (ac2 o0 o1.e1 an)
def ndg7_22_0 (n : Nat) : Bool := (decide ((((n : Nat) : Int) : Int) ≥ 1000000))
theorem ndg7_22 (n : Nat) (o0 : (ndg7_22_0 n) = true) (o1 : Sm 310 [.int .u64 ((n : Nat) : Int)] (.int .i64 22)) :
    Sm 212 [.int .u64 ((n : Nat) : Int)] (.int .i64 7) :=
  .of1 (scr := [.auto 1, .ret (.int .i64 22) [], .auto 4, .br true]) (rest := []) (rd := []) (fun h => by kernel_rfl) (ac2 o0 o1.e1 an)
def ndg7_23_0 (n : Nat) : Bool := (decide ((((n : Nat) : Int) : Int) ≥ 1000000))
theorem ndg7_23 (n : Nat) (o0 : (ndg7_23_0 n) = true) (o1 : Sm 310 [.int .u64 ((n : Nat) : Int)] (.int .i64 23)) :
    Sm 212 [.int .u64 ((n : Nat) : Int)] (.int .i64 7) :=
  .of1 (scr := [.auto 1, .ret (.int .i64 23) [], .auto 4, .br true]) (rest := []) (rd := []) (fun h => by kernel_rfl) (ac2 o0 o1.e1 an)
def ndg7_24_0 (n : Nat) : Bool := (decide ((((n : Nat) : Int) : Int) ≥ 10000000))
theorem ndg7_24 (n : Nat) (o0 : (ndg7_24_0 n) = false) (o1 : Sm 310 [.int .u64 ((n : Nat) : Int)] (.int .i64 24)) :
    Sm 212 [.int .u64 ((n : Nat) : Int)] (.int .i64 7) :=
  .of1 (scr := [.auto 1, .ret (.int .i64 24) [], .auto 4, .br false]) (rest := []) (rd := []) (fun h => by kernel_rfl) (ac2 o0 o1.e1 an)
def ndg8_24_0 (n : Nat) : Bool := (decide ((((n : Nat) : Int) : Int) ≥ 10000000))
theorem ndg8_24 (n : Nat) (o0 : (ndg8_24_0 n) = true) (o1 : Sm 310 [.int .u64 ((n : Nat) : Int)] (.int .i64 24)) :
    Sm 212 [.int .u64 ((n : Nat) : Int)] (.int .i64 8) :=
  .of1 (scr := [.auto 1, .ret (.int .i64 24) [], .auto 4, .br true]) (rest := []) (rd := []) (fun h => by kernel_rfl) (ac2 o0 o1.e1 an)
def ndg8_25_0 (n : Nat) : Bool := (decide ((((n : Nat) : Int) : Int) ≥ 10000000))
theorem ndg8_25 (n : Nat) (o0 : (ndg8_25_0 n) = true) (o1 : Sm 310 [.int .u64 ((n : Nat) : Int)] (.int .i64 25)) :
    Sm 212 [.int .u64 ((n : Nat) : Int)] (.int .i64 8) :=
  .of1 (scr := [.auto 1, .ret (.int .i64 25) [], .auto 4, .br true]) (rest := []) (rd := []) (fun h => by kernel_rfl) (ac2 o0 o1.e1 an)
def ndg8_26_0 (n : Nat) : Bool := (decide ((((n : Nat) : Int) : Int) ≥ 10000000))
theorem ndg8_26 (n : Nat) (o0 : (ndg8_26_0 n) = true) (o1 : Sm 310 [.int .u64 ((n : Nat) : Int)] (.int .i64 26)) :
    Sm 212 [.int .u64 ((n : Nat) : Int)] (.int .i64 8) :=
  .of1 (scr := [.auto 1, .ret (.int .i64 26) [], .auto 4, .br true]) (rest := []) (rd := []) (fun h => by kernel_rfl) (ac2 o0 o1.e1 an)
def ndg8_27_0 (n : Nat) : Bool := (decide ((((n : Nat) : Int) : Int) ≥ 100000000))
theorem ndg8_27 (n : Nat) (o0 : (ndg8_27_0 n) = false) (o1 : Sm 310 [.int .u64 ((n : Nat) : Int)] (.int .i64 27)) :
    Sm 212 [.int .u64 ((n : Nat) : Int)] (.int .i64 8) :=
  .of1 (scr := [.auto 1, .ret (.int .i64 27) [], .auto 4, .br false]) (rest := []) (rd := []) (fun h => by kernel_rfl) (ac2 o0 o1.e1 an)
def ndg9_27_0 (n : Nat) : Bool := (decide ((((n : Nat) : Int) : Int) ≥ 100000000))
theorem ndg9_27 (n : Nat) (o0 : (ndg9_27_0 n) = true) (o1 : Sm 310 [.int .u64 ((n : Nat) : Int)] (.int .i64 27)) :
    Sm 212 [.int .u64 ((n : Nat) : Int)] (.int .i64 9) :=
  .of1 (scr := [.auto 1, .ret (.int .i64 27) [], .auto 4, .br true]) (rest := []) (rd := []) (fun h => by kernel_rfl) (ac2 o0 o1.e1 an)
def ndg9_28_0 (n : Nat) : Bool := (decide ((((n : Nat) : Int) : Int) ≥ 100000000))
theorem ndg9_28 (n : Nat) (o0 : (ndg9_28_0 n) = true) (o1 : Sm 310 [.int .u64 ((n : Nat) : Int)] (.int .i64 28)) :
    Sm 212 [.int .u64 ((n : Nat) : Int)] (.int .i64 9) :=
  .of1 (scr := [.auto 1, .ret (.int .i64 28) [], .auto 4, .br true]) (rest := []) (rd := []) (fun h => by kernel_rfl) (ac2 o0 o1.e1 an)
def ndg9_29_0 (n : Nat) : Bool := (decide ((((n : Nat) : Int) : Int) ≥ 100000000))
theorem ndg9_29 (n : Nat) (o0 : (ndg9_29_0 n) = true) (o1 : Sm 310 [.int .u64 ((n : Nat) : Int)] (.int .i64 29)) :
    Sm 212 [.int .u64 ((n : Nat) : Int)] (.int .i64 9) :=
  .of1 (scr := [.auto 1, .ret (.int .i64 29) [], .auto 4, .br true]) (rest := []) (rd := []) (fun h => by kernel_rfl) (ac2 o0 o1.e1 an)
def ndg9_30_0 (n : Nat) : Bool := (decide ((((n : Nat) : Int) : Int) ≥ 1000000000))
theorem ndg9_30 (n : Nat) (o0 : (ndg9_30_0 n) = false) (o1 : Sm 310 [.int .u64 ((n : Nat) : Int)] (.int .i64 30)) :
    Sm 212 [.int .u64 ((n : Nat) : Int)] (.int .i64 9) :=
  .of1 (scr := [.auto 1, .ret (.int .i64 30) [], .auto 4, .br false]) (rest := []) (rd := []) (fun h => by kernel_rfl) (ac2 o0 o1.e1 an)
def len8_0 (n : Nat) : Bool := (decide ((((n : Nat) : Int) : Int) ≥ 4294967296))
def len8_1 (n : Nat) : Bool := (decide ((((n : Nat) : Int) : Int) ≥ 65536))
def len8_2 (n : Nat) : Bool := (decide ((((n : Nat) : Int) : Int) ≥ 256))
def len8_3 (n : Nat) : Int := (IntKind.wrap .u8 ((n : Nat) : Int))
def len8_4 (n : Nat) : Int := ((((getL len8T (Int.toNat (len8_3 n))).getD 0) : Nat) : Int)
def len8_5 (n : Nat) : Int := (IntKind.wrap .i64 (len8_4 n))
def len8_6 (n : Nat) : Int := (IntKind.wrap .i64 (0 + (len8_5 n)))
theorem len8 (n : Nat) (o0 : (decide ((0 : Int) ≤ (len8_3 n)) && decide (((len8_3 n) : Int) < 256)) = true) (o1 : (len8_2 n) = false) (o2 : (len8_1 n) = false) (o3 : (len8_0 n) = false) :
    Sm 310 [.int .u64 ((n : Nat) : Int)] (.int .i64 (len8_6 n)) :=
  .of1 (scr := [.auto 1, .br false, .br false, .br false, .ob]) (rest := []) (rd := []) (fun h => by kernel_rfl) (ac4 o0 o1 o2 o3 an)
def len16_0 (n : Nat) : Bool := (decide ((((n : Nat) : Int) : Int) ≥ 4294967296))
def len16_1 (n : Nat) : Bool := (decide ((((n : Nat) : Int) : Int) ≥ 65536))
def len16_2 (n : Nat) : Bool := (decide ((((n : Nat) : Int) : Int) ≥ 256))
def len16_3 (n : Nat) : Int := (IntKind.wrap .u8 (Int.fdiv ((n : Nat) : Int) (2 ^ 8)))
def len16_4 (n : Nat) : Int := ((((getL len8T (Int.toNat (len16_3 n))).getD 0) : Nat) : Int)
def len16_5 (n : Nat) : Int := (IntKind.wrap .i64 (len16_4 n))
def len16_6 (n : Nat) : Int := (IntKind.wrap .i64 (8 + (len16_5 n)))
theorem len16 (n : Nat) (o0 : (decide ((0 : Int) ≤ (len16_3 n)) && decide (((len16_3 n) : Int) < 256)) = true) (o1 : (len16_2 n) = true) (o2 : (len16_1 n) = false) (o3 : (len16_0 n) = false) :
    Sm 310 [.int .u64 ((n : Nat) : Int)] (.int .i64 (len16_6 n)) :=
  .of1 (scr := [.auto 1, .br false, .br false, .br true, .ob]) (rest := []) (rd := []) (fun h => by kernel_rfl) (ac4 o0 o1 o2 o3 an)
def len24_0 (n : Nat) : Bool := (decide ((((n : Nat) : Int) : Int) ≥ 4294967296))
def len24_1 (n : Nat) : Bool := (decide ((((n : Nat) : Int) : Int) ≥ 65536))
def len24_2 (n : Nat) : Int := (Int.fdiv ((n : Nat) : Int) (2 ^ 16))
def len24_3 (n : Nat) : Int := (IntKind.wrap .u8 (len24_2 n))
def len24_4 (n : Nat) : Int := ((((getL len8T (Int.toNat (len24_3 n))).getD 0) : Nat) : Int)
def len24_5 (n : Nat) : Int := (IntKind.wrap .i64 (len24_4 n))
def len24_6 (n : Nat) : Int := (IntKind.wrap .i64 (16 + (len24_5 n)))
theorem len24 (n : Nat) (o0 : (decide ((0 : Int) ≤ (len24_3 n)) && decide (((len24_3 n) : Int) < 256)) = true) (o1 : (decide (((len24_2 n) : Int) ≥ 256)) = false) (o2 : (len24_1 n) = true) (o3 : (len24_0 n) = false) :
    Sm 310 [.int .u64 ((n : Nat) : Int)] (.int .i64 (len24_6 n)) :=
  .of1 (scr := [.auto 1, .br false, .br true, .br false, .ob]) (rest := []) (rd := []) (fun h => by kernel_rfl) (ac4 o0 o1 o2 o3 an)
def len32_0 (n : Nat) : Bool := (decide ((((n : Nat) : Int) : Int) ≥ 4294967296))
def len32_1 (n : Nat) : Bool := (decide ((((n : Nat) : Int) : Int) ≥ 65536))
def len32_2 (n : Nat) : Int := (Int.fdiv ((n : Nat) : Int) (2 ^ 16))
def len32_3 (n : Nat) : Int := (IntKind.wrap .u8 (Int.fdiv (len32_2 n) (2 ^ 8)))
def len32_4 (n : Nat) : Int := ((((getL len8T (Int.toNat (len32_3 n))).getD 0) : Nat) : Int)
def len32_5 (n : Nat) : Int := (IntKind.wrap .i64 (len32_4 n))
def len32_6 (n : Nat) : Int := (IntKind.wrap .i64 (24 + (len32_5 n)))
theorem len32 (n : Nat) (o0 : (decide ((0 : Int) ≤ (len32_3 n)) && decide (((len32_3 n) : Int) < 256)) = true) (o1 : (decide (((len32_2 n) : Int) ≥ 256)) = true) (o2 : (len32_1 n) = true) (o3 : (len32_0 n) = false) :
    Sm 310 [.int .u64 ((n : Nat) : Int)] (.int .i64 (len32_6 n)) :=
  .of1 (scr := [.auto 1, .br false, .br true, .br true, .ob]) (rest := []) (rd := []) (fun h => by kernel_rfl) (ac4 o0 o1 o2 o3 an)
theorem len8_ok (n : Nat) (h0 : 0 ≤ n) (h1 : n ≤ 255) : Sm 310 [.int .u64 (n : Int)] (.int .i64 ((0 + bl (n / 1) : Nat) : Int)) := by
  have e_len8_3 : len8_3 n = ((n : Nat) : Int) := wrapU8 (by omega) (by omega)
  have e_len8_4 : len8_4 n = ((bl (n / 1) : Nat) : Int) := by unfold len8_4; rw [show Int.toNat (len8_3 n) = n / 1 by omega, len8_at _ (by omega)]
  have hbl : bl (n / 1) ≤ 8 := by unfold bl; split <;> (try omega); split <;> (try omega); split <;> (try omega); split <;> (try omega); split <;> (try omega); split <;> (try omega); split <;> (try omega); split <;> omega
  have e_len8_5 : len8_5 n = (len8_4 n) := wrapI (by omega) (by omega)
  have e_len8_6 : len8_6 n = (0 + (len8_5 n)) := wrapI (by omega) (by omega)
  refine (len8 n (by rw [decide_eq_true (by omega), decide_eq_true (by omega)]; rfl) (decide_eq_false (by omega)) (decide_eq_false (by omega)) (decide_eq_false (by omega))).cast ?_
  rw [show len8_6 n = ((0 + bl (n / 1) : Nat) : Int) by omega]
theorem len16_ok (n : Nat) (h0 : 256 ≤ n) (h1 : n ≤ 65535) : Sm 310 [.int .u64 (n : Int)] (.int .i64 ((8 + bl (n / 256) : Nat) : Int)) := by
  have e_len16_3 : len16_3 n = ((n / 256 : Nat) : Int) := by unfold len16_3; rw [fdv]; exact wrapU8 (by omega) (by omega)
  have e_len16_4 : len16_4 n = ((bl (n / 256) : Nat) : Int) := by unfold len16_4; rw [show Int.toNat (len16_3 n) = n / 256 by omega, len8_at _ (by omega)]
  have hbl : bl (n / 256) ≤ 8 := by unfold bl; split <;> (try omega); split <;> (try omega); split <;> (try omega); split <;> (try omega); split <;> (try omega); split <;> (try omega); split <;> (try omega); split <;> omega
  have e_len16_5 : len16_5 n = (len16_4 n) := wrapI (by omega) (by omega)
  have e_len16_6 : len16_6 n = (8 + (len16_5 n)) := wrapI (by omega) (by omega)
  refine (len16 n (by rw [decide_eq_true (by omega), decide_eq_true (by omega)]; rfl) (decide_eq_true (by omega)) (decide_eq_false (by omega)) (decide_eq_false (by omega))).cast ?_
  rw [show len16_6 n = ((8 + bl (n / 256) : Nat) : Int) by omega]
theorem len24_ok (n : Nat) (h0 : 65536 ≤ n) (h1 : n ≤ 16777215) : Sm 310 [.int .u64 (n : Int)] (.int .i64 ((16 + bl (n / 65536) : Nat) : Int)) := by
  have e_len24_2 : len24_2 n = ((n / 65536 : Nat) : Int) := by unfold len24_2; rw [fdv]
  have e_len24_3 : len24_3 n = (len24_2 n) := wrapU8 (by omega) (by omega)
  have e_len24_4 : len24_4 n = ((bl (n / 65536) : Nat) : Int) := by unfold len24_4; rw [show Int.toNat (len24_3 n) = n / 65536 by omega, len8_at _ (by omega)]
  have hbl : bl (n / 65536) ≤ 8 := by unfold bl; split <;> (try omega); split <;> (try omega); split <;> (try omega); split <;> (try omega); split <;> (try omega); split <;> (try omega); split <;> (try omega); split <;> omega
  have e_len24_5 : len24_5 n = (len24_4 n) := wrapI (by omega) (by omega)
  have e_len24_6 : len24_6 n = (16 + (len24_5 n)) := wrapI (by omega) (by omega)
  refine (len24 n (by rw [decide_eq_true (by omega), decide_eq_true (by omega)]; rfl) (decide_eq_false (by omega)) (decide_eq_true (by omega)) (decide_eq_false (by omega))).cast ?_
  rw [show len24_6 n = ((16 + bl (n / 65536) : Nat) : Int) by omega]
theorem len32_ok (n : Nat) (h0 : 16777216 ≤ n) (h1 : n ≤ 4294967295) : Sm 310 [.int .u64 (n : Int)] (.int .i64 ((24 + bl (n / 16777216) : Nat) : Int)) := by
  have e_len32_2 : len32_2 n = ((n / 65536 : Nat) : Int) := by unfold len32_2; rw [fdv]
  have e_len32_3 : len32_3 n = (((len32_2 n).toNat / 256 : Nat) : Int) := by unfold len32_3; rw [show (len32_2 n) = (((len32_2 n).toNat : Nat) : Int) by omega, fdv, Int.toNat_natCast]; exact wrapU8 (by omega) (by omega)
  have e_len32_4 : len32_4 n = ((bl (n / 16777216) : Nat) : Int) := by unfold len32_4; rw [show Int.toNat (len32_3 n) = n / 16777216 by omega, len8_at _ (by omega)]
  have hbl : bl (n / 16777216) ≤ 8 := by unfold bl; split <;> (try omega); split <;> (try omega); split <;> (try omega); split <;> (try omega); split <;> (try omega); split <;> (try omega); split <;> (try omega); split <;> omega
  have e_len32_5 : len32_5 n = (len32_4 n) := wrapI (by omega) (by omega)
  have e_len32_6 : len32_6 n = (24 + (len32_5 n)) := wrapI (by omega) (by omega)
  refine (len32 n (by rw [decide_eq_true (by omega), decide_eq_true (by omega)]; rfl) (decide_eq_true (by omega)) (decide_eq_true (by omega)) (decide_eq_false (by omega))).cast ?_
  rw [show len32_6 n = ((24 + bl (n / 16777216) : Nat) : Int) by omega]
theorem bl_eq {x b : Nat} (h : (b = 0 ∧ x < 1) ∨ (b = 1 ∧ 1 ≤ x ∧ x < 2) ∨ (b = 2 ∧ 2 ≤ x ∧ x < 4) ∨ (b = 3 ∧ 4 ≤ x ∧ x < 8) ∨ (b = 4 ∧ 8 ≤ x ∧ x < 16) ∨ (b = 5 ∧ 16 ≤ x ∧ x < 32) ∨ (b = 6 ∧ 32 ≤ x ∧ x < 64) ∨ (b = 7 ∧ 64 ≤ x ∧ x < 128) ∨ (b = 8 ∧ 128 ≤ x)) : bl x = b := by
  unfold bl
  repeat' split
  all_goals omega
theorem len_1 (n : Nat) (h0 : 1 ≤ n) (h1 : n ≤ 1) : Sm 310 [.int .u64 (n : Int)] (.int .i64 1) := by
  have := len8_ok n (by omega) (by omega)
  rw [bl_eq (b := 1) (by omega)] at this
  exact this
theorem len_2 (n : Nat) (h0 : 2 ≤ n) (h1 : n ≤ 3) : Sm 310 [.int .u64 (n : Int)] (.int .i64 2) := by
  have := len8_ok n (by omega) (by omega)
  rw [bl_eq (b := 2) (by omega)] at this
  exact this
theorem len_3 (n : Nat) (h0 : 4 ≤ n) (h1 : n ≤ 7) : Sm 310 [.int .u64 (n : Int)] (.int .i64 3) := by
  have := len8_ok n (by omega) (by omega)
  rw [bl_eq (b := 3) (by omega)] at this
  exact this
theorem len_4 (n : Nat) (h0 : 8 ≤ n) (h1 : n ≤ 15) : Sm 310 [.int .u64 (n : Int)] (.int .i64 4) := by
  have := len8_ok n (by omega) (by omega)
  rw [bl_eq (b := 4) (by omega)] at this
  exact this
theorem len_5 (n : Nat) (h0 : 16 ≤ n) (h1 : n ≤ 31) : Sm 310 [.int .u64 (n : Int)] (.int .i64 5) := by
  have := len8_ok n (by omega) (by omega)
  rw [bl_eq (b := 5) (by omega)] at this
  exact this
theorem len_6 (n : Nat) (h0 : 32 ≤ n) (h1 : n ≤ 63) : Sm 310 [.int .u64 (n : Int)] (.int .i64 6) := by
  have := len8_ok n (by omega) (by omega)
  rw [bl_eq (b := 6) (by omega)] at this
  exact this
theorem len_7 (n : Nat) (h0 : 64 ≤ n) (h1 : n ≤ 127) : Sm 310 [.int .u64 (n : Int)] (.int .i64 7) := by
  have := len8_ok n (by omega) (by omega)
  rw [bl_eq (b := 7) (by omega)] at this
  exact this
theorem len_8 (n : Nat) (h0 : 128 ≤ n) (h1 : n ≤ 255) : Sm 310 [.int .u64 (n : Int)] (.int .i64 8) := by
  have := len8_ok n (by omega) (by omega)
  rw [bl_eq (b := 8) (by omega)] at this
  exact this
theorem len_9 (n : Nat) (h0 : 256 ≤ n) (h1 : n ≤ 511) : Sm 310 [.int .u64 (n : Int)] (.int .i64 9) := by
  have := len16_ok n (by omega) (by omega)
  rw [bl_eq (b := 1) (by omega)] at this
  exact this
theorem len_10 (n : Nat) (h0 : 512 ≤ n) (h1 : n ≤ 1023) : Sm 310 [.int .u64 (n : Int)] (.int .i64 10) := by
  have := len16_ok n (by omega) (by omega)
  rw [bl_eq (b := 2) (by omega)] at this
  exact this
theorem len_11 (n : Nat) (h0 : 1024 ≤ n) (h1 : n ≤ 2047) : Sm 310 [.int .u64 (n : Int)] (.int .i64 11) := by
  have := len16_ok n (by omega) (by omega)
  rw [bl_eq (b := 3) (by omega)] at this
  exact this
theorem len_12 (n : Nat) (h0 : 2048 ≤ n) (h1 : n ≤ 4095) : Sm 310 [.int .u64 (n : Int)] (.int .i64 12) := by
  have := len16_ok n (by omega) (by omega)
  rw [bl_eq (b := 4) (by omega)] at this
  exact this
theorem len_13 (n : Nat) (h0 : 4096 ≤ n) (h1 : n ≤ 8191) : Sm 310 [.int .u64 (n : Int)] (.int .i64 13) := by
  have := len16_ok n (by omega) (by omega)
  rw [bl_eq (b := 5) (by omega)] at this
  exact this
theorem len_14 (n : Nat) (h0 : 8192 ≤ n) (h1 : n ≤ 16383) : Sm 310 [.int .u64 (n : Int)] (.int .i64 14) := by
  have := len16_ok n (by omega) (by omega)
  rw [bl_eq (b := 6) (by omega)] at this
  exact this
theorem len_15 (n : Nat) (h0 : 16384 ≤ n) (h1 : n ≤ 32767) : Sm 310 [.int .u64 (n : Int)] (.int .i64 15) := by
  have := len16_ok n (by omega) (by omega)
  rw [bl_eq (b := 7) (by omega)] at this
  exact this
theorem len_16 (n : Nat) (h0 : 32768 ≤ n) (h1 : n ≤ 65535) : Sm 310 [.int .u64 (n : Int)] (.int .i64 16) := by
  have := len16_ok n (by omega) (by omega)
  rw [bl_eq (b := 8) (by omega)] at this
  exact this
theorem len_17 (n : Nat) (h0 : 65536 ≤ n) (h1 : n ≤ 131071) : Sm 310 [.int .u64 (n : Int)] (.int .i64 17) := by
  have := len24_ok n (by omega) (by omega)
  rw [bl_eq (b := 1) (by omega)] at this
  exact this
theorem len_18 (n : Nat) (h0 : 131072 ≤ n) (h1 : n ≤ 262143) : Sm 310 [.int .u64 (n : Int)] (.int .i64 18) := by
  have := len24_ok n (by omega) (by omega)
  rw [bl_eq (b := 2) (by omega)] at this
  exact this
theorem len_19 (n : Nat) (h0 : 262144 ≤ n) (h1 : n ≤ 524287) : Sm 310 [.int .u64 (n : Int)] (.int .i64 19) := by
  have := len24_ok n (by omega) (by omega)
  rw [bl_eq (b := 3) (by omega)] at this
  exact this
theorem len_20 (n : Nat) (h0 : 524288 ≤ n) (h1 : n ≤ 1048575) : Sm 310 [.int .u64 (n : Int)] (.int .i64 20) := by
  have := len24_ok n (by omega) (by omega)
  rw [bl_eq (b := 4) (by omega)] at this
  exact this
theorem len_21 (n : Nat) (h0 : 1048576 ≤ n) (h1 : n ≤ 2097151) : Sm 310 [.int .u64 (n : Int)] (.int .i64 21) := by
  have := len24_ok n (by omega) (by omega)
  rw [bl_eq (b := 5) (by omega)] at this
  exact this
theorem len_22 (n : Nat) (h0 : 2097152 ≤ n) (h1 : n ≤ 4194303) : Sm 310 [.int .u64 (n : Int)] (.int .i64 22) := by
  have := len24_ok n (by omega) (by omega)
  rw [bl_eq (b := 6) (by omega)] at this
  exact this
theorem len_23 (n : Nat) (h0 : 4194304 ≤ n) (h1 : n ≤ 8388607) : Sm 310 [.int .u64 (n : Int)] (.int .i64 23) := by
  have := len24_ok n (by omega) (by omega)
  rw [bl_eq (b := 7) (by omega)] at this
  exact this
theorem len_24 (n : Nat) (h0 : 8388608 ≤ n) (h1 : n ≤ 16777215) : Sm 310 [.int .u64 (n : Int)] (.int .i64 24) := by
  have := len24_ok n (by omega) (by omega)
  rw [bl_eq (b := 8) (by omega)] at this
  exact this
theorem len_25 (n : Nat) (h0 : 16777216 ≤ n) (h1 : n ≤ 33554431) : Sm 310 [.int .u64 (n : Int)] (.int .i64 25) := by
  have := len32_ok n (by omega) (by omega)
  rw [bl_eq (b := 1) (by omega)] at this
  exact this
theorem len_26 (n : Nat) (h0 : 33554432 ≤ n) (h1 : n ≤ 67108863) : Sm 310 [.int .u64 (n : Int)] (.int .i64 26) := by
  have := len32_ok n (by omega) (by omega)
  rw [bl_eq (b := 2) (by omega)] at this
  exact this
theorem len_27 (n : Nat) (h0 : 67108864 ≤ n) (h1 : n ≤ 134217727) : Sm 310 [.int .u64 (n : Int)] (.int .i64 27) := by
  have := len32_ok n (by omega) (by omega)
  rw [bl_eq (b := 3) (by omega)] at this
  exact this
theorem len_28 (n : Nat) (h0 : 134217728 ≤ n) (h1 : n ≤ 268435455) : Sm 310 [.int .u64 (n : Int)] (.int .i64 28) := by
  have := len32_ok n (by omega) (by omega)
  rw [bl_eq (b := 4) (by omega)] at this
  exact this
theorem len_29 (n : Nat) (h0 : 268435456 ≤ n) (h1 : n ≤ 536870911) : Sm 310 [.int .u64 (n : Int)] (.int .i64 29) := by
  have := len32_ok n (by omega) (by omega)
  rw [bl_eq (b := 5) (by omega)] at this
  exact this
theorem len_30 (n : Nat) (h0 : 536870912 ≤ n) (h1 : n ≤ 1073741823) : Sm 310 [.int .u64 (n : Int)] (.int .i64 30) := by
  have := len32_ok n (by omega) (by omega)
  rw [bl_eq (b := 6) (by omega)] at this
  exact this
theorem numDigits3 (n : Nat) (h0 : 100 ≤ n) (h1 : n ≤ 999) : Sm 212 [.int .u64 (n : Int)] (.int .i64 3) := by
  by_cases c7 : n ≤ 127
  · exact ndg3_7 n (decide_eq_true (by omega)) (len_7 n (by omega) (by omega))
  by_cases c8 : n ≤ 255
  · exact ndg3_8 n (decide_eq_true (by omega)) (len_8 n (by omega) (by omega))
  by_cases c9 : n ≤ 511
  · exact ndg3_9 n (decide_eq_true (by omega)) (len_9 n (by omega) (by omega))
  by_cases c10 : n ≤ 999
  · exact ndg3_10 n (decide_eq_false (by omega)) (len_10 n (by omega) (by omega))
  omega
theorem numDigits4 (n : Nat) (h0 : 1000 ≤ n) (h1 : n ≤ 9999) : Sm 212 [.int .u64 (n : Int)] (.int .i64 4) := by
  by_cases c10 : n ≤ 1023
  · exact ndg4_10 n (decide_eq_true (by omega)) (len_10 n (by omega) (by omega))
  by_cases c11 : n ≤ 2047
  · exact ndg4_11 n (decide_eq_true (by omega)) (len_11 n (by omega) (by omega))
  by_cases c12 : n ≤ 4095
  · exact ndg4_12 n (decide_eq_true (by omega)) (len_12 n (by omega) (by omega))
  by_cases c13 : n ≤ 8191
  · exact ndg4_13 n (decide_eq_true (by omega)) (len_13 n (by omega) (by omega))
  by_cases c14 : n ≤ 9999
  · exact ndg4_14 n (decide_eq_false (by omega)) (len_14 n (by omega) (by omega))
  omega
theorem numDigits5 (n : Nat) (h0 : 10000 ≤ n) (h1 : n ≤ 99999) : Sm 212 [.int .u64 (n : Int)] (.int .i64 5) := by
  by_cases c14 : n ≤ 16383
  · exact ndg5_14 n (decide_eq_true (by omega)) (len_14 n (by omega) (by omega))
  by_cases c15 : n ≤ 32767
  · exact ndg5_15 n (decide_eq_true (by omega)) (len_15 n (by omega) (by omega))
  by_cases c16 : n ≤ 65535
  · exact ndg5_16 n (decide_eq_true (by omega)) (len_16 n (by omega) (by omega))
  by_cases c17 : n ≤ 99999
  · exact ndg5_17 n (decide_eq_false (by omega)) (len_17 n (by omega) (by omega))
  omega
theorem numDigits6 (n : Nat) (h0 : 100000 ≤ n) (h1 : n ≤ 999999) : Sm 212 [.int .u64 (n : Int)] (.int .i64 6) := by
  by_cases c17 : n ≤ 131071
  · exact ndg6_17 n (decide_eq_true (by omega)) (len_17 n (by omega) (by omega))
  by_cases c18 : n ≤ 262143
  · exact ndg6_18 n (decide_eq_true (by omega)) (len_18 n (by omega) (by omega))
  by_cases c19 : n ≤ 524287
  · exact ndg6_19 n (decide_eq_true (by omega)) (len_19 n (by omega) (by omega))
  by_cases c20 : n ≤ 999999
  · exact ndg6_20 n (decide_eq_false (by omega)) (len_20 n (by omega) (by omega))
  omega
theorem numDigits7 (n : Nat) (h0 : 1000000 ≤ n) (h1 : n ≤ 9999999) : Sm 212 [.int .u64 (n : Int)] (.int .i64 7) := by
  by_cases c20 : n ≤ 1048575
  · exact ndg7_20 n (decide_eq_true (by omega)) (len_20 n (by omega) (by omega))
  by_cases c21 : n ≤ 2097151
  · exact ndg7_21 n (decide_eq_true (by omega)) (len_21 n (by omega) (by omega))
  by_cases c22 : n ≤ 4194303
  · exact ndg7_22 n (decide_eq_true (by omega)) (len_22 n (by omega) (by omega))
  by_cases c23 : n ≤ 8388607
  · exact ndg7_23 n (decide_eq_true (by omega)) (len_23 n (by omega) (by omega))
  by_cases c24 : n ≤ 9999999
  · exact ndg7_24 n (decide_eq_false (by omega)) (len_24 n (by omega) (by omega))
  omega
theorem numDigits8 (n : Nat) (h0 : 10000000 ≤ n) (h1 : n ≤ 99999999) : Sm 212 [.int .u64 (n : Int)] (.int .i64 8) := by
  by_cases c24 : n ≤ 16777215
  · exact ndg8_24 n (decide_eq_true (by omega)) (len_24 n (by omega) (by omega))
  by_cases c25 : n ≤ 33554431
  · exact ndg8_25 n (decide_eq_true (by omega)) (len_25 n (by omega) (by omega))
  by_cases c26 : n ≤ 67108863
  · exact ndg8_26 n (decide_eq_true (by omega)) (len_26 n (by omega) (by omega))
  by_cases c27 : n ≤ 99999999
  · exact ndg8_27 n (decide_eq_false (by omega)) (len_27 n (by omega) (by omega))
  omega
theorem numDigits9 (n : Nat) (h0 : 100000000 ≤ n) (h1 : n ≤ 999999999) : Sm 212 [.int .u64 (n : Int)] (.int .i64 9) := by
  by_cases c27 : n ≤ 134217727
  · exact ndg9_27 n (decide_eq_true (by omega)) (len_27 n (by omega) (by omega))
  by_cases c28 : n ≤ 268435455
  · exact ndg9_28 n (decide_eq_true (by omega)) (len_28 n (by omega) (by omega))
  by_cases c29 : n ≤ 536870911
  · exact ndg9_29 n (decide_eq_true (by omega)) (len_29 n (by omega) (by omega))
  by_cases c30 : n ≤ 999999999
  · exact ndg9_30 n (decide_eq_false (by omega)) (len_30 n (by omega) (by omega))
  omega
def it1_0 (n : Nat) : Bool := (decide ((0 : Int) ≤ ((n : Nat) : Int)))
def it1_1 (n : Nat) : Bool := (decide ((((n : Nat) : Int) : Int) < 100))
def it1_2 (n : Nat) : Bool := (decide ((((n : Nat) : Int) : Int) < 10))
def it1_3 (n : Nat) : Int := (IntKind.wrap .i64 (((n : Nat) : Int) + 1))
def it1_4 (n : Nat) : List Nat := (List.take ((Int.toNat (it1_3 n)) - (n)) (dropL digT (n)))
theorem it1 (n : Nat) (o0 : (decide ((0 : Int) ≤ ((n : Nat) : Int)) && decide ((((n : Nat) : Int) : Int) ≤ (it1_3 n)) && decide (((it1_3 n) : Int) ≤ 36)) = true) (o1 : (it1_2 n) = true) (o2 : (it1_1 n) = true) (o3 : (it1_0 n) = true) :
    Sm 62 [.int .i64 ((n : Nat) : Int)] (.str (it1_4 n)) :=
  .of1 (scr := [.auto 4, .br true, .auto 2, .br true, .auto 1, .br true, .ob]) (rest := []) (rd := []) (fun h => by kernel_rfl) (ac4 o0 o1 o2 o3 an)
def it2_0 (n : Nat) : Bool := (decide ((0 : Int) ≤ ((n : Nat) : Int)))
def it2_1 (n : Nat) : Bool := (decide ((((n : Nat) : Int) : Int) < 100))
def it2_2 (n : Nat) : Bool := (decide ((((n : Nat) : Int) : Int) < 10))
def it2_3 (n : Nat) : Int := (IntKind.wrap .i64 (((n : Nat) : Int) * 2))
def it2_4 (n : Nat) : Int := (IntKind.wrap .i64 ((it2_3 n) + 2))
def it2_5 (n : Nat) : List Nat := (List.take ((Int.toNat (it2_4 n)) - (Int.toNat (it2_3 n))) (dropL smallsT (Int.toNat (it2_3 n))))
theorem it2 (n : Nat) (o0 : (decide ((0 : Int) ≤ (it2_3 n)) && decide (((it2_3 n) : Int) ≤ (it2_4 n)) && decide (((it2_4 n) : Int) ≤ 200)) = true) (o1 : (it2_2 n) = false) (o2 : (it2_1 n) = true) (o3 : (it2_0 n) = true) :
    Sm 62 [.int .i64 ((n : Nat) : Int)] (.str (it2_5 n)) :=
  .of1 (scr := [.auto 4, .br true, .auto 2, .br true, .auto 1, .br false, .ob]) (rest := []) (rd := []) (fun h => by kernel_rfl) (ac4 o0 o1 o2 o3 an)
def it3_0 (n : Nat) : Bool := (decide ((0 : Int) ≤ ((n : Nat) : Int)))
def it3_1 (n : Nat) : Bool := (decide ((((n : Nat) : Int) : Int) < 100))
def it3_2 (n : Nat) : Int := (IntKind.wrap .u64 ((n : Nat) : Int))
def it3_3 (n : Nat) : Bool := (decide ((((n : Nat) : Int) : Int) < 0))
def it3_4 (n : Nat) : Int := (IntKind.wrap .u32 (it3_2 n))
def it3_5 (n : Nat) : Int := (Int.tmod (it3_4 n) 100)
def it3_6 (n : Nat) : Int := (IntKind.wrap .u32 ((it3_5 n) * 2))
def it3_7 (n : Nat) : Int := (IntKind.wrap .u32 (Int.tdiv (it3_4 n) 100))
def it3_8 (n : Nat) : Int := (IntKind.wrap .u32 ((it3_6 n) + 1))
def it3_9 (n : Nat) : Int := ((((getL smallsT (Int.toNat (it3_8 n))).getD 0) : Nat) : Int)
def it3_10 (n : Nat) : Int := ((((getL smallsT (Int.toNat (it3_6 n))).getD 0) : Nat) : Int)
def it3_11 (n : Nat) : Int := (IntKind.wrap .u32 (48 + (it3_7 n)))
def it3_12 (n : Nat) : Int := (IntKind.wrap .u8 (it3_11 n))
theorem it3 (n : Nat) (o0 : mapO u8Nat [.int .u8 (it3_12 n), .int .u8 (it3_10 n), .int .u8 (it3_9 n)] = some [(Int.toNat (it3_12 n)), (Int.toNat (it3_10 n)), (Int.toNat (it3_9 n))]) (o1 : (it3_3 n) = false) (o2 : (decide ((0 : Int) ≤ (it3_6 n)) && decide (((it3_6 n) : Int) < 200)) = true) (o3 : (decide ((0 : Int) ≤ (it3_8 n)) && decide (((it3_8 n) : Int) < 200)) = true) (o4 : Sm 212 [.int .u64 (it3_2 n)] (.int .i64 3)) (o5 : (it3_1 n) = false) (o6 : (it3_0 n) = true) :
    Sm 62 [.int .i64 ((n : Nat) : Int)] (.str [(Int.toNat (it3_12 n)), (Int.toNat (it3_10 n)), (Int.toNat (it3_9 n))]) :=
  .of1 (scr := [.auto 4, .br true, .auto 2, .br false, .br false, .ret (.int .i64 3) [], .auto 10, .ob, .ob, .auto 7, .br false, .auto 3, .nats [(Int.toNat (it3_12 n)), (Int.toNat (it3_10 n)), (Int.toNat (it3_9 n))]]) (rest := []) (rd := []) (fun h => by kernel_rfl) (ac8 o0 o1 o2 o3 o4.e1 o1 o5 o6 an)
def it4_0 (n : Nat) : Bool := (decide ((0 : Int) ≤ ((n : Nat) : Int)))
def it4_1 (n : Nat) : Bool := (decide ((((n : Nat) : Int) : Int) < 100))
def it4_2 (n : Nat) : Int := (IntKind.wrap .u64 ((n : Nat) : Int))
def it4_3 (n : Nat) : Bool := (decide ((((n : Nat) : Int) : Int) < 0))
def it4_4 (n : Nat) : Int := (IntKind.wrap .u32 (it4_2 n))
def it4_5 (n : Nat) : Int := (Int.tmod (it4_4 n) 10000)
def it4_6 (n : Nat) : Int := (IntKind.wrap .u32 (Int.tdiv (it4_4 n) 10000))
def it4_7 (n : Nat) : Int := (IntKind.wrap .u32 (Int.tdiv (it4_5 n) 100))
def it4_8 (n : Nat) : Int := (IntKind.wrap .u32 ((it4_7 n) * 2))
def it4_9 (n : Nat) : Int := (Int.tmod (it4_5 n) 100)
def it4_10 (n : Nat) : Int := (IntKind.wrap .u32 ((it4_9 n) * 2))
def it4_11 (n : Nat) : Int := (IntKind.wrap .u32 ((it4_10 n) + 1))
def it4_12 (n : Nat) : Int := ((((getL smallsT (Int.toNat (it4_11 n))).getD 0) : Nat) : Int)
def it4_13 (n : Nat) : Int := ((((getL smallsT (Int.toNat (it4_10 n))).getD 0) : Nat) : Int)
def it4_14 (n : Nat) : Int := (IntKind.wrap .u32 ((it4_8 n) + 1))
def it4_15 (n : Nat) : Int := ((((getL smallsT (Int.toNat (it4_14 n))).getD 0) : Nat) : Int)
def it4_16 (n : Nat) : Int := ((((getL smallsT (Int.toNat (it4_8 n))).getD 0) : Nat) : Int)
theorem it4 (n : Nat) (o0 : mapO u8Nat [.int .u8 (it4_16 n), .int .u8 (it4_15 n), .int .u8 (it4_13 n), .int .u8 (it4_12 n)] = some [(Int.toNat (it4_16 n)), (Int.toNat (it4_15 n)), (Int.toNat (it4_13 n)), (Int.toNat (it4_12 n))]) (o1 : (it4_3 n) = false) (o2 : (decide ((0 : Int) ≤ (it4_8 n)) && decide (((it4_8 n) : Int) < 200)) = true) (o3 : (decide ((0 : Int) ≤ (it4_14 n)) && decide (((it4_14 n) : Int) < 200)) = true) (o4 : (decide ((0 : Int) ≤ (it4_10 n)) && decide (((it4_10 n) : Int) < 200)) = true) (o5 : (decide ((0 : Int) ≤ (it4_11 n)) && decide (((it4_11 n) : Int) < 200)) = true) (o6 : Sm 212 [.int .u64 (it4_2 n)] (.int .i64 4)) (o7 : (it4_1 n) = false) (o8 : (it4_0 n) = true) :
    Sm 62 [.int .i64 ((n : Nat) : Int)] (.str [(Int.toNat (it4_16 n)), (Int.toNat (it4_15 n)), (Int.toNat (it4_13 n)), (Int.toNat (it4_12 n))]) :=
  .of1 (scr := [.auto 4, .br true, .auto 2, .br false, .br false, .ret (.int .i64 4) [], .auto 11, .ob, .ob, .auto 4, .ob, .ob, .auto 6, .br false, .auto 3, .nats [(Int.toNat (it4_16 n)), (Int.toNat (it4_15 n)), (Int.toNat (it4_13 n)), (Int.toNat (it4_12 n))]]) (rest := []) (rd := []) (fun h => by kernel_rfl) (ac2 o0 o1 (ac8 o2 o3 o4 o5 o6.e1 o1 o7 o8 an))
def it5_0 (n : Nat) : Bool := (decide ((0 : Int) ≤ ((n : Nat) : Int)))
def it5_1 (n : Nat) : Bool := (decide ((((n : Nat) : Int) : Int) < 100))
def it5_2 (n : Nat) : Int := (IntKind.wrap .u64 ((n : Nat) : Int))
def it5_3 (n : Nat) : Bool := (decide ((((n : Nat) : Int) : Int) < 0))
def it5_4 (n : Nat) : Int := (IntKind.wrap .u32 (it5_2 n))
def it5_5 (n : Nat) : Int := (Int.tmod (it5_4 n) 10000)
def it5_6 (n : Nat) : Int := (IntKind.wrap .u32 (Int.tdiv (it5_4 n) 10000))
def it5_7 (n : Nat) : Int := (IntKind.wrap .u32 (Int.tdiv (it5_5 n) 100))
def it5_8 (n : Nat) : Int := (IntKind.wrap .u32 ((it5_7 n) * 2))
def it5_9 (n : Nat) : Int := (Int.tmod (it5_5 n) 100)
def it5_10 (n : Nat) : Int := (IntKind.wrap .u32 ((it5_9 n) * 2))
def it5_11 (n : Nat) : Int := (IntKind.wrap .u32 ((it5_10 n) + 1))
def it5_12 (n : Nat) : Int := ((((getL smallsT (Int.toNat (it5_11 n))).getD 0) : Nat) : Int)
def it5_13 (n : Nat) : Int := ((((getL smallsT (Int.toNat (it5_10 n))).getD 0) : Nat) : Int)
def it5_14 (n : Nat) : Int := (IntKind.wrap .u32 ((it5_8 n) + 1))
def it5_15 (n : Nat) : Int := ((((getL smallsT (Int.toNat (it5_14 n))).getD 0) : Nat) : Int)
def it5_16 (n : Nat) : Int := ((((getL smallsT (Int.toNat (it5_8 n))).getD 0) : Nat) : Int)
def it5_17 (n : Nat) : Int := (IntKind.wrap .u32 (48 + (it5_6 n)))
def it5_18 (n : Nat) : Int := (IntKind.wrap .u8 (it5_17 n))
theorem it5 (n : Nat) (o0 : mapO u8Nat [.int .u8 (it5_18 n), .int .u8 (it5_16 n), .int .u8 (it5_15 n), .int .u8 (it5_13 n), .int .u8 (it5_12 n)] = some [(Int.toNat (it5_18 n)), (Int.toNat (it5_16 n)), (Int.toNat (it5_15 n)), (Int.toNat (it5_13 n)), (Int.toNat (it5_12 n))]) (o1 : (it5_3 n) = false) (o2 : (decide ((0 : Int) ≤ (it5_8 n)) && decide (((it5_8 n) : Int) < 200)) = true) (o3 : (decide ((0 : Int) ≤ (it5_14 n)) && decide (((it5_14 n) : Int) < 200)) = true) (o4 : (decide ((0 : Int) ≤ (it5_10 n)) && decide (((it5_10 n) : Int) < 200)) = true) (o5 : (decide ((0 : Int) ≤ (it5_11 n)) && decide (((it5_11 n) : Int) < 200)) = true) (o6 : Sm 212 [.int .u64 (it5_2 n)] (.int .i64 5)) (o7 : (it5_1 n) = false) (o8 : (it5_0 n) = true) :
    Sm 62 [.int .i64 ((n : Nat) : Int)] (.str [(Int.toNat (it5_18 n)), (Int.toNat (it5_16 n)), (Int.toNat (it5_15 n)), (Int.toNat (it5_13 n)), (Int.toNat (it5_12 n))]) :=
  .of1 (scr := [.auto 4, .br true, .auto 2, .br false, .br false, .ret (.int .i64 5) [], .auto 11, .ob, .ob, .auto 4, .ob, .ob, .auto 8, .br false, .auto 3, .nats [(Int.toNat (it5_18 n)), (Int.toNat (it5_16 n)), (Int.toNat (it5_15 n)), (Int.toNat (it5_13 n)), (Int.toNat (it5_12 n))]]) (rest := []) (rd := []) (fun h => by kernel_rfl) (ac2 o0 o1 (ac8 o2 o3 o4 o5 o6.e1 o1 o7 o8 an))
def it6_0 (n : Nat) : Bool := (decide ((0 : Int) ≤ ((n : Nat) : Int)))
def it6_1 (n : Nat) : Bool := (decide ((((n : Nat) : Int) : Int) < 100))
def it6_2 (n : Nat) : Int := (IntKind.wrap .u64 ((n : Nat) : Int))
def it6_3 (n : Nat) : Bool := (decide ((((n : Nat) : Int) : Int) < 0))
def it6_4 (n : Nat) : Int := (IntKind.wrap .u32 (it6_2 n))
def it6_5 (n : Nat) : Int := (Int.tmod (it6_4 n) 10000)
def it6_6 (n : Nat) : Int := (IntKind.wrap .u32 (Int.tdiv (it6_4 n) 10000))
def it6_7 (n : Nat) : Int := (IntKind.wrap .u32 (Int.tdiv (it6_5 n) 100))
def it6_8 (n : Nat) : Int := (IntKind.wrap .u32 ((it6_7 n) * 2))
def it6_9 (n : Nat) : Int := (Int.tmod (it6_5 n) 100)
def it6_10 (n : Nat) : Int := (IntKind.wrap .u32 ((it6_9 n) * 2))
def it6_11 (n : Nat) : Int := (IntKind.wrap .u32 ((it6_10 n) + 1))
def it6_12 (n : Nat) : Int := ((((getL smallsT (Int.toNat (it6_11 n))).getD 0) : Nat) : Int)
def it6_13 (n : Nat) : Int := ((((getL smallsT (Int.toNat (it6_10 n))).getD 0) : Nat) : Int)
def it6_14 (n : Nat) : Int := (IntKind.wrap .u32 ((it6_8 n) + 1))
def it6_15 (n : Nat) : Int := ((((getL smallsT (Int.toNat (it6_14 n))).getD 0) : Nat) : Int)
def it6_16 (n : Nat) : Int := ((((getL smallsT (Int.toNat (it6_8 n))).getD 0) : Nat) : Int)
def it6_17 (n : Nat) : Int := (Int.tmod (it6_6 n) 100)
def it6_18 (n : Nat) : Int := (IntKind.wrap .u32 ((it6_17 n) * 2))
def it6_19 (n : Nat) : Int := (IntKind.wrap .u32 (Int.tdiv (it6_6 n) 100))
def it6_20 (n : Nat) : Int := (IntKind.wrap .u32 ((it6_18 n) + 1))
def it6_21 (n : Nat) : Int := ((((getL smallsT (Int.toNat (it6_20 n))).getD 0) : Nat) : Int)
def it6_22 (n : Nat) : Int := ((((getL smallsT (Int.toNat (it6_18 n))).getD 0) : Nat) : Int)
theorem it6 (n : Nat) (o0 : mapO u8Nat [.int .u8 (it6_22 n), .int .u8 (it6_21 n), .int .u8 (it6_16 n), .int .u8 (it6_15 n), .int .u8 (it6_13 n), .int .u8 (it6_12 n)] = some [(Int.toNat (it6_22 n)), (Int.toNat (it6_21 n)), (Int.toNat (it6_16 n)), (Int.toNat (it6_15 n)), (Int.toNat (it6_13 n)), (Int.toNat (it6_12 n))]) (o1 : (it6_3 n) = false) (o2 : (decide ((0 : Int) ≤ (it6_18 n)) && decide (((it6_18 n) : Int) < 200)) = true) (o3 : (decide ((0 : Int) ≤ (it6_20 n)) && decide (((it6_20 n) : Int) < 200)) = true) (o4 : (decide ((0 : Int) ≤ (it6_8 n)) && decide (((it6_8 n) : Int) < 200)) = true) (o5 : (decide ((0 : Int) ≤ (it6_14 n)) && decide (((it6_14 n) : Int) < 200)) = true) (o6 : (decide ((0 : Int) ≤ (it6_10 n)) && decide (((it6_10 n) : Int) < 200)) = true) (o7 : (decide ((0 : Int) ≤ (it6_11 n)) && decide (((it6_11 n) : Int) < 200)) = true) (o8 : Sm 212 [.int .u64 (it6_2 n)] (.int .i64 6)) (o9 : (it6_1 n) = false) (o10 : (it6_0 n) = true) :
    Sm 62 [.int .i64 ((n : Nat) : Int)] (.str [(Int.toNat (it6_22 n)), (Int.toNat (it6_21 n)), (Int.toNat (it6_16 n)), (Int.toNat (it6_15 n)), (Int.toNat (it6_13 n)), (Int.toNat (it6_12 n))]) :=
  .of1 (scr := [.auto 4, .br true, .auto 2, .br false, .br false, .ret (.int .i64 6) [], .auto 11, .ob, .ob, .auto 4, .ob, .ob, .auto 7, .ob, .ob, .auto 5, .br false, .auto 3, .nats [(Int.toNat (it6_22 n)), (Int.toNat (it6_21 n)), (Int.toNat (it6_16 n)), (Int.toNat (it6_15 n)), (Int.toNat (it6_13 n)), (Int.toNat (it6_12 n))]]) (rest := []) (rd := []) (fun h => by kernel_rfl) (ac4 o0 o1 o2 o3 (ac8 o4 o5 o6 o7 o8.e1 o1 o9 o10 an))
def it7_0 (n : Nat) : Bool := (decide ((0 : Int) ≤ ((n : Nat) : Int)))
def it7_1 (n : Nat) : Bool := (decide ((((n : Nat) : Int) : Int) < 100))
def it7_2 (n : Nat) : Int := (IntKind.wrap .u64 ((n : Nat) : Int))
def it7_3 (n : Nat) : Bool := (decide ((((n : Nat) : Int) : Int) < 0))
def it7_4 (n : Nat) : Int := (IntKind.wrap .u32 (it7_2 n))
def it7_5 (n : Nat) : Int := (Int.tmod (it7_4 n) 10000)
def it7_6 (n : Nat) : Int := (IntKind.wrap .u32 (Int.tdiv (it7_4 n) 10000))
def it7_7 (n : Nat) : Int := (IntKind.wrap .u32 (Int.tdiv (it7_5 n) 100))
def it7_8 (n : Nat) : Int := (IntKind.wrap .u32 ((it7_7 n) * 2))
def it7_9 (n : Nat) : Int := (Int.tmod (it7_5 n) 100)
def it7_10 (n : Nat) : Int := (IntKind.wrap .u32 ((it7_9 n) * 2))
def it7_11 (n : Nat) : Int := (IntKind.wrap .u32 ((it7_10 n) + 1))
def it7_12 (n : Nat) : Int := ((((getL smallsT (Int.toNat (it7_11 n))).getD 0) : Nat) : Int)
def it7_13 (n : Nat) : Int := ((((getL smallsT (Int.toNat (it7_10 n))).getD 0) : Nat) : Int)
def it7_14 (n : Nat) : Int := (IntKind.wrap .u32 ((it7_8 n) + 1))
def it7_15 (n : Nat) : Int := ((((getL smallsT (Int.toNat (it7_14 n))).getD 0) : Nat) : Int)
def it7_16 (n : Nat) : Int := ((((getL smallsT (Int.toNat (it7_8 n))).getD 0) : Nat) : Int)
def it7_17 (n : Nat) : Int := (Int.tmod (it7_6 n) 100)
def it7_18 (n : Nat) : Int := (IntKind.wrap .u32 ((it7_17 n) * 2))
def it7_19 (n : Nat) : Int := (IntKind.wrap .u32 (Int.tdiv (it7_6 n) 100))
def it7_20 (n : Nat) : Int := (IntKind.wrap .u32 ((it7_18 n) + 1))
def it7_21 (n : Nat) : Int := ((((getL smallsT (Int.toNat (it7_20 n))).getD 0) : Nat) : Int)
def it7_22 (n : Nat) : Int := ((((getL smallsT (Int.toNat (it7_18 n))).getD 0) : Nat) : Int)
def it7_23 (n : Nat) : Int := (IntKind.wrap .u32 (48 + (it7_19 n)))
def it7_24 (n : Nat) : Int := (IntKind.wrap .u8 (it7_23 n))
theorem it7 (n : Nat) (o0 : mapO u8Nat [.int .u8 (it7_24 n), .int .u8 (it7_22 n), .int .u8 (it7_21 n), .int .u8 (it7_16 n), .int .u8 (it7_15 n), .int .u8 (it7_13 n), .int .u8 (it7_12 n)] = some [(Int.toNat (it7_24 n)), (Int.toNat (it7_22 n)), (Int.toNat (it7_21 n)), (Int.toNat (it7_16 n)), (Int.toNat (it7_15 n)), (Int.toNat (it7_13 n)), (Int.toNat (it7_12 n))]) (o1 : (it7_3 n) = false) (o2 : (decide ((0 : Int) ≤ (it7_18 n)) && decide (((it7_18 n) : Int) < 200)) = true) (o3 : (decide ((0 : Int) ≤ (it7_20 n)) && decide (((it7_20 n) : Int) < 200)) = true) (o4 : (decide ((0 : Int) ≤ (it7_8 n)) && decide (((it7_8 n) : Int) < 200)) = true) (o5 : (decide ((0 : Int) ≤ (it7_14 n)) && decide (((it7_14 n) : Int) < 200)) = true) (o6 : (decide ((0 : Int) ≤ (it7_10 n)) && decide (((it7_10 n) : Int) < 200)) = true) (o7 : (decide ((0 : Int) ≤ (it7_11 n)) && decide (((it7_11 n) : Int) < 200)) = true) (o8 : Sm 212 [.int .u64 (it7_2 n)] (.int .i64 7)) (o9 : (it7_1 n) = false) (o10 : (it7_0 n) = true) :
    Sm 62 [.int .i64 ((n : Nat) : Int)] (.str [(Int.toNat (it7_24 n)), (Int.toNat (it7_22 n)), (Int.toNat (it7_21 n)), (Int.toNat (it7_16 n)), (Int.toNat (it7_15 n)), (Int.toNat (it7_13 n)), (Int.toNat (it7_12 n))]) :=
  .of1 (scr := [.auto 4, .br true, .auto 2, .br false, .br false, .ret (.int .i64 7) [], .auto 11, .ob, .ob, .auto 4, .ob, .ob, .auto 7, .ob, .ob, .auto 7, .br false, .auto 3, .nats [(Int.toNat (it7_24 n)), (Int.toNat (it7_22 n)), (Int.toNat (it7_21 n)), (Int.toNat (it7_16 n)), (Int.toNat (it7_15 n)), (Int.toNat (it7_13 n)), (Int.toNat (it7_12 n))]]) (rest := []) (rd := []) (fun h => by kernel_rfl) (ac4 o0 o1 o2 o3 (ac8 o4 o5 o6 o7 o8.e1 o1 o9 o10 an))
def it8_0 (n : Nat) : Bool := (decide ((0 : Int) ≤ ((n : Nat) : Int)))
def it8_1 (n : Nat) : Bool := (decide ((((n : Nat) : Int) : Int) < 100))
def it8_2 (n : Nat) : Int := (IntKind.wrap .u64 ((n : Nat) : Int))
def it8_3 (n : Nat) : Bool := (decide ((((n : Nat) : Int) : Int) < 0))
def it8_4 (n : Nat) : Int := (Int.tmod (it8_2 n) 100000000)
def it8_5 (n : Nat) : Int := (IntKind.wrap .u32 (it8_4 n))
def it8_6 (n : Nat) : Int := (IntKind.wrap .u64 (Int.tdiv (it8_2 n) 100000000))
def it8_7 (n : Nat) : Int := (IntKind.wrap .u32 (Int.tdiv (it8_5 n) 10000))
def it8_8 (n : Nat) : Int := (Int.tmod (it8_5 n) 10000)
def it8_9 (n : Nat) : Int := (IntKind.wrap .u32 (Int.tdiv (it8_8 n) 100))
def it8_10 (n : Nat) : Int := (IntKind.wrap .u32 ((it8_9 n) * 2))
def it8_11 (n : Nat) : Int := (Int.tmod (it8_8 n) 100)
def it8_12 (n : Nat) : Int := (IntKind.wrap .u32 ((it8_11 n) * 2))
def it8_13 (n : Nat) : Int := (IntKind.wrap .u32 (Int.tdiv (it8_7 n) 100))
def it8_14 (n : Nat) : Int := (IntKind.wrap .u32 ((it8_13 n) * 2))
def it8_15 (n : Nat) : Int := (Int.tmod (it8_7 n) 100)
def it8_16 (n : Nat) : Int := (IntKind.wrap .u32 ((it8_15 n) * 2))
def it8_17 (n : Nat) : Int := (IntKind.wrap .u32 ((it8_12 n) + 1))
def it8_18 (n : Nat) : Int := ((((getL smallsT (Int.toNat (it8_17 n))).getD 0) : Nat) : Int)
def it8_19 (n : Nat) : Int := ((((getL smallsT (Int.toNat (it8_12 n))).getD 0) : Nat) : Int)
def it8_20 (n : Nat) : Int := (IntKind.wrap .u32 ((it8_10 n) + 1))
def it8_21 (n : Nat) : Int := ((((getL smallsT (Int.toNat (it8_20 n))).getD 0) : Nat) : Int)
def it8_22 (n : Nat) : Int := ((((getL smallsT (Int.toNat (it8_10 n))).getD 0) : Nat) : Int)
def it8_23 (n : Nat) : Int := (IntKind.wrap .u32 ((it8_16 n) + 1))
def it8_24 (n : Nat) : Int := ((((getL smallsT (Int.toNat (it8_23 n))).getD 0) : Nat) : Int)
def it8_25 (n : Nat) : Int := ((((getL smallsT (Int.toNat (it8_16 n))).getD 0) : Nat) : Int)
def it8_26 (n : Nat) : Int := (IntKind.wrap .u32 ((it8_14 n) + 1))
def it8_27 (n : Nat) : Int := ((((getL smallsT (Int.toNat (it8_26 n))).getD 0) : Nat) : Int)
def it8_28 (n : Nat) : Int := ((((getL smallsT (Int.toNat (it8_14 n))).getD 0) : Nat) : Int)
def it8_29 (n : Nat) : Int := (IntKind.wrap .u32 (it8_6 n))
theorem it8 (n : Nat) (o0 : mapO u8Nat [.int .u8 (it8_28 n), .int .u8 (it8_27 n), .int .u8 (it8_25 n), .int .u8 (it8_24 n), .int .u8 (it8_22 n), .int .u8 (it8_21 n), .int .u8 (it8_19 n), .int .u8 (it8_18 n)] = some [(Int.toNat (it8_28 n)), (Int.toNat (it8_27 n)), (Int.toNat (it8_25 n)), (Int.toNat (it8_24 n)), (Int.toNat (it8_22 n)), (Int.toNat (it8_21 n)), (Int.toNat (it8_19 n)), (Int.toNat (it8_18 n))]) (o1 : (it8_3 n) = false) (o2 : (decide ((0 : Int) ≤ (it8_14 n)) && decide (((it8_14 n) : Int) < 200)) = true) (o3 : (decide ((0 : Int) ≤ (it8_26 n)) && decide (((it8_26 n) : Int) < 200)) = true) (o4 : (decide ((0 : Int) ≤ (it8_16 n)) && decide (((it8_16 n) : Int) < 200)) = true) (o5 : (decide ((0 : Int) ≤ (it8_23 n)) && decide (((it8_23 n) : Int) < 200)) = true) (o6 : (decide ((0 : Int) ≤ (it8_10 n)) && decide (((it8_10 n) : Int) < 200)) = true) (o7 : (decide ((0 : Int) ≤ (it8_20 n)) && decide (((it8_20 n) : Int) < 200)) = true) (o8 : (decide ((0 : Int) ≤ (it8_12 n)) && decide (((it8_12 n) : Int) < 200)) = true) (o9 : (decide ((0 : Int) ≤ (it8_17 n)) && decide (((it8_17 n) : Int) < 200)) = true) (o10 : Sm 212 [.int .u64 (it8_2 n)] (.int .i64 8)) (o11 : (it8_1 n) = false) (o12 : (it8_0 n) = true) :
    Sm 62 [.int .i64 ((n : Nat) : Int)] (.str [(Int.toNat (it8_28 n)), (Int.toNat (it8_27 n)), (Int.toNat (it8_25 n)), (Int.toNat (it8_24 n)), (Int.toNat (it8_22 n)), (Int.toNat (it8_21 n)), (Int.toNat (it8_19 n)), (Int.toNat (it8_18 n))]) :=
  .of1 (scr := [.auto 4, .br true, .auto 2, .br false, .br false, .ret (.int .i64 8) [], .auto 14, .ob, .ob, .auto 4, .ob, .ob, .auto 4, .ob, .ob, .auto 4, .ob, .ob, .auto 9, .br false, .auto 3, .nats [(Int.toNat (it8_28 n)), (Int.toNat (it8_27 n)), (Int.toNat (it8_25 n)), (Int.toNat (it8_24 n)), (Int.toNat (it8_22 n)), (Int.toNat (it8_21 n)), (Int.toNat (it8_19 n)), (Int.toNat (it8_18 n))]]) (rest := []) (rd := []) (fun h => by kernel_rfl) (ac2 o0 o1 (ac4 o2 o3 o4 o5 (ac8 o6 o7 o8 o9 o10.e1 o1 o11 o12 an)))
def it9_0 (n : Nat) : Bool := (decide ((0 : Int) ≤ ((n : Nat) : Int)))
def it9_1 (n : Nat) : Bool := (decide ((((n : Nat) : Int) : Int) < 100))
def it9_2 (n : Nat) : Int := (IntKind.wrap .u64 ((n : Nat) : Int))
def it9_3 (n : Nat) : Bool := (decide ((((n : Nat) : Int) : Int) < 0))
def it9_4 (n : Nat) : Int := (Int.tmod (it9_2 n) 100000000)
def it9_5 (n : Nat) : Int := (IntKind.wrap .u32 (it9_4 n))
def it9_6 (n : Nat) : Int := (IntKind.wrap .u64 (Int.tdiv (it9_2 n) 100000000))
def it9_7 (n : Nat) : Int := (IntKind.wrap .u32 (Int.tdiv (it9_5 n) 10000))
def it9_8 (n : Nat) : Int := (Int.tmod (it9_5 n) 10000)
def it9_9 (n : Nat) : Int := (IntKind.wrap .u32 (Int.tdiv (it9_8 n) 100))
def it9_10 (n : Nat) : Int := (IntKind.wrap .u32 ((it9_9 n) * 2))
def it9_11 (n : Nat) : Int := (Int.tmod (it9_8 n) 100)
def it9_12 (n : Nat) : Int := (IntKind.wrap .u32 ((it9_11 n) * 2))
def it9_13 (n : Nat) : Int := (IntKind.wrap .u32 (Int.tdiv (it9_7 n) 100))
def it9_14 (n : Nat) : Int := (IntKind.wrap .u32 ((it9_13 n) * 2))
def it9_15 (n : Nat) : Int := (Int.tmod (it9_7 n) 100)
def it9_16 (n : Nat) : Int := (IntKind.wrap .u32 ((it9_15 n) * 2))
def it9_17 (n : Nat) : Int := (IntKind.wrap .u32 ((it9_12 n) + 1))
def it9_18 (n : Nat) : Int := ((((getL smallsT (Int.toNat (it9_17 n))).getD 0) : Nat) : Int)
def it9_19 (n : Nat) : Int := ((((getL smallsT (Int.toNat (it9_12 n))).getD 0) : Nat) : Int)
def it9_20 (n : Nat) : Int := (IntKind.wrap .u32 ((it9_10 n) + 1))
def it9_21 (n : Nat) : Int := ((((getL smallsT (Int.toNat (it9_20 n))).getD 0) : Nat) : Int)
def it9_22 (n : Nat) : Int := ((((getL smallsT (Int.toNat (it9_10 n))).getD 0) : Nat) : Int)
def it9_23 (n : Nat) : Int := (IntKind.wrap .u32 ((it9_16 n) + 1))
def it9_24 (n : Nat) : Int := ((((getL smallsT (Int.toNat (it9_23 n))).getD 0) : Nat) : Int)
def it9_25 (n : Nat) : Int := ((((getL smallsT (Int.toNat (it9_16 n))).getD 0) : Nat) : Int)
def it9_26 (n : Nat) : Int := (IntKind.wrap .u32 ((it9_14 n) + 1))
def it9_27 (n : Nat) : Int := ((((getL smallsT (Int.toNat (it9_26 n))).getD 0) : Nat) : Int)
def it9_28 (n : Nat) : Int := ((((getL smallsT (Int.toNat (it9_14 n))).getD 0) : Nat) : Int)
def it9_29 (n : Nat) : Int := (IntKind.wrap .u32 (it9_6 n))
def it9_30 (n : Nat) : Int := (IntKind.wrap .u32 (48 + (it9_29 n)))
def it9_31 (n : Nat) : Int := (IntKind.wrap .u8 (it9_30 n))
theorem it9 (n : Nat) (o0 : mapO u8Nat [.int .u8 (it9_31 n), .int .u8 (it9_28 n), .int .u8 (it9_27 n), .int .u8 (it9_25 n), .int .u8 (it9_24 n), .int .u8 (it9_22 n), .int .u8 (it9_21 n), .int .u8 (it9_19 n), .int .u8 (it9_18 n)] = some [(Int.toNat (it9_31 n)), (Int.toNat (it9_28 n)), (Int.toNat (it9_27 n)), (Int.toNat (it9_25 n)), (Int.toNat (it9_24 n)), (Int.toNat (it9_22 n)), (Int.toNat (it9_21 n)), (Int.toNat (it9_19 n)), (Int.toNat (it9_18 n))]) (o1 : (it9_3 n) = false) (o2 : (decide ((0 : Int) ≤ (it9_14 n)) && decide (((it9_14 n) : Int) < 200)) = true) (o3 : (decide ((0 : Int) ≤ (it9_26 n)) && decide (((it9_26 n) : Int) < 200)) = true) (o4 : (decide ((0 : Int) ≤ (it9_16 n)) && decide (((it9_16 n) : Int) < 200)) = true) (o5 : (decide ((0 : Int) ≤ (it9_23 n)) && decide (((it9_23 n) : Int) < 200)) = true) (o6 : (decide ((0 : Int) ≤ (it9_10 n)) && decide (((it9_10 n) : Int) < 200)) = true) (o7 : (decide ((0 : Int) ≤ (it9_20 n)) && decide (((it9_20 n) : Int) < 200)) = true) (o8 : (decide ((0 : Int) ≤ (it9_12 n)) && decide (((it9_12 n) : Int) < 200)) = true) (o9 : (decide ((0 : Int) ≤ (it9_17 n)) && decide (((it9_17 n) : Int) < 200)) = true) (o10 : Sm 212 [.int .u64 (it9_2 n)] (.int .i64 9)) (o11 : (it9_1 n) = false) (o12 : (it9_0 n) = true) :
    Sm 62 [.int .i64 ((n : Nat) : Int)] (.str [(Int.toNat (it9_31 n)), (Int.toNat (it9_28 n)), (Int.toNat (it9_27 n)), (Int.toNat (it9_25 n)), (Int.toNat (it9_24 n)), (Int.toNat (it9_22 n)), (Int.toNat (it9_21 n)), (Int.toNat (it9_19 n)), (Int.toNat (it9_18 n))]) :=
  .of1 (scr := [.auto 4, .br true, .auto 2, .br false, .br false, .ret (.int .i64 9) [], .auto 14, .ob, .ob, .auto 4, .ob, .ob, .auto 4, .ob, .ob, .auto 4, .ob, .ob, .auto 11, .br false, .auto 3, .nats [(Int.toNat (it9_31 n)), (Int.toNat (it9_28 n)), (Int.toNat (it9_27 n)), (Int.toNat (it9_25 n)), (Int.toNat (it9_24 n)), (Int.toNat (it9_22 n)), (Int.toNat (it9_21 n)), (Int.toNat (it9_19 n)), (Int.toNat (it9_18 n))]]) (rest := []) (rd := []) (fun h => by kernel_rfl) (ac2 o0 o1 (ac4 o2 o3 o4 o5 (ac8 o6 o7 o8 o9 o10.e1 o1 o11 o12 an)))
theorem itoa3 (n : Nat) (h0 : 100 ≤ n) (h1 : n ≤ 999) : Sm 62 [.int .i64 (n : Int)] (.str (itoaL n)) := by
  have e_it3_2 : it3_2 n = ((n : Nat) : Int) := wrapU (by omega) (by omega)
  have e_it3_4 : it3_4 n = (it3_2 n) := wrapU32 (by omega) (by omega)
  have e_it3_5 : it3_5 n = (it3_4 n) % 100 := tmodI (by omega) (by omega)
  have e_it3_6 : it3_6 n = ((it3_5 n) * 2) := wrapU32 (by omega) (by omega)
  have e_it3_7 : it3_7 n = (it3_4 n) / 100 := (congrArg _ (tdivI (by omega) (by omega))).trans (wrapU32 (by omega) (by omega))
  have e_it3_8 : it3_8 n = ((it3_6 n) + 1) := wrapU32 (by omega) (by omega)
  have e_it3_9 : it3_9 n = ((48 + n / 1 % 10 : Nat) : Int) := by unfold it3_9; rw [show Int.toNat (it3_8 n) = 2 * (n / 1 % 100) + 1 by omega, smalls1 _ (by omega)]; omega
  have e_it3_10 : it3_10 n = ((48 + n / 10 % 10 : Nat) : Int) := by unfold it3_10; rw [show Int.toNat (it3_6 n) = 2 * (n / 1 % 100) by omega, smalls0 _ (by omega)]; omega
  have e_it3_11 : it3_11 n = (48 + (it3_7 n)) := wrapU32 (by omega) (by omega)
  have e_it3_12 : it3_12 n = (it3_11 n) := wrapU8 (by omega) (by omega)
  have f_2 : it3_12 n = ((48 + n / 100 % 10 : Nat) : Int) := by omega
  have f_1 : it3_10 n = ((48 + n / 10 % 10 : Nat) : Int) := by omega
  have f_0 : it3_9 n = ((48 + n / 1 % 10 : Nat) : Int) := by omega
  have hn : itoaL n = [48 + n / 100 % 10, 48 + n / 10 % 10, 48 + n / 1 % 10] := by
    unfold itoaL
    rw [nd_eq (k := 2) (by omega) (by omega)]
    simp only [show max 1 (2 + 1) = 3 by decide, digs, List.nil_append, List.cons_append, Nat.div_div_eq_div_mul, Nat.reduceMul, Nat.div_one]
  rw [hn]
  refine (it3 n (by repeat (first | refine mapO_cons (u8i (by omega) (by omega)) ?_ | exact mapO_nil))
    (decide_eq_false (by omega))
    (by rw [decide_eq_true (by omega), decide_eq_true (by omega)]; rfl)
    (by rw [decide_eq_true (by omega), decide_eq_true (by omega)]; rfl)
    (by rw [show it3_2 n = ((n : Nat) : Int) by omega]; exact numDigits3 n h0 h1)
    (decide_eq_false (by omega))
    (decide_eq_true (by omega))).cast ?_
  rw [f_2, f_1, f_0]
  rfl
theorem itoa4 (n : Nat) (h0 : 1000 ≤ n) (h1 : n ≤ 9999) : Sm 62 [.int .i64 (n : Int)] (.str (itoaL n)) := by
  have e_it4_2 : it4_2 n = ((n : Nat) : Int) := wrapU (by omega) (by omega)
  have e_it4_4 : it4_4 n = (it4_2 n) := wrapU32 (by omega) (by omega)
  have e_it4_5 : it4_5 n = (it4_4 n) % 10000 := tmodI (by omega) (by omega)
  have e_it4_6 : it4_6 n = (it4_4 n) / 10000 := (congrArg _ (tdivI (by omega) (by omega))).trans (wrapU32 (by omega) (by omega))
  have e_it4_7 : it4_7 n = (it4_5 n) / 100 := (congrArg _ (tdivI (by omega) (by omega))).trans (wrapU32 (by omega) (by omega))
  have e_it4_8 : it4_8 n = ((it4_7 n) * 2) := wrapU32 (by omega) (by omega)
  have e_it4_9 : it4_9 n = (it4_5 n) % 100 := tmodI (by omega) (by omega)
  have e_it4_10 : it4_10 n = ((it4_9 n) * 2) := wrapU32 (by omega) (by omega)
  have e_it4_11 : it4_11 n = ((it4_10 n) + 1) := wrapU32 (by omega) (by omega)
  have e_it4_12 : it4_12 n = ((48 + n / 1 % 10 : Nat) : Int) := by unfold it4_12; rw [show Int.toNat (it4_11 n) = 2 * (n / 1 % 100) + 1 by omega, smalls1 _ (by omega)]; omega
  have e_it4_13 : it4_13 n = ((48 + n / 10 % 10 : Nat) : Int) := by unfold it4_13; rw [show Int.toNat (it4_10 n) = 2 * (n / 1 % 100) by omega, smalls0 _ (by omega)]; omega
  have e_it4_14 : it4_14 n = ((it4_8 n) + 1) := wrapU32 (by omega) (by omega)
  have e_it4_15 : it4_15 n = ((48 + n / 100 % 10 : Nat) : Int) := by unfold it4_15; rw [show Int.toNat (it4_14 n) = 2 * (n / 100 % 100) + 1 by omega, smalls1 _ (by omega)]; omega
  have e_it4_16 : it4_16 n = ((48 + n / 1000 % 10 : Nat) : Int) := by unfold it4_16; rw [show Int.toNat (it4_8 n) = 2 * (n / 100 % 100) by omega, smalls0 _ (by omega)]; omega
  have f_3 : it4_16 n = ((48 + n / 1000 % 10 : Nat) : Int) := by omega
  have f_2 : it4_15 n = ((48 + n / 100 % 10 : Nat) : Int) := by omega
  have f_1 : it4_13 n = ((48 + n / 10 % 10 : Nat) : Int) := by omega
  have f_0 : it4_12 n = ((48 + n / 1 % 10 : Nat) : Int) := by omega
  have hn : itoaL n = [48 + n / 1000 % 10, 48 + n / 100 % 10, 48 + n / 10 % 10, 48 + n / 1 % 10] := by
    unfold itoaL
    rw [nd_eq (k := 3) (by omega) (by omega)]
    simp only [show max 1 (3 + 1) = 4 by decide, digs, List.nil_append, List.cons_append, Nat.div_div_eq_div_mul, Nat.reduceMul, Nat.div_one]
  rw [hn]
  refine (it4 n (by repeat (first | refine mapO_cons (u8i (by omega) (by omega)) ?_ | exact mapO_nil))
    (decide_eq_false (by omega))
    (by rw [decide_eq_true (by omega), decide_eq_true (by omega)]; rfl)
    (by rw [decide_eq_true (by omega), decide_eq_true (by omega)]; rfl)
    (by rw [decide_eq_true (by omega), decide_eq_true (by omega)]; rfl)
    (by rw [decide_eq_true (by omega), decide_eq_true (by omega)]; rfl)
    (by rw [show it4_2 n = ((n : Nat) : Int) by omega]; exact numDigits4 n h0 h1)
    (decide_eq_false (by omega))
    (decide_eq_true (by omega))).cast ?_
  rw [f_3, f_2, f_1, f_0]
  rfl
theorem itoa5 (n : Nat) (h0 : 10000 ≤ n) (h1 : n ≤ 99999) : Sm 62 [.int .i64 (n : Int)] (.str (itoaL n)) := by
  have e_it5_2 : it5_2 n = ((n : Nat) : Int) := wrapU (by omega) (by omega)
  have e_it5_4 : it5_4 n = (it5_2 n) := wrapU32 (by omega) (by omega)
  have e_it5_5 : it5_5 n = (it5_4 n) % 10000 := tmodI (by omega) (by omega)
  have e_it5_6 : it5_6 n = (it5_4 n) / 10000 := (congrArg _ (tdivI (by omega) (by omega))).trans (wrapU32 (by omega) (by omega))
  have e_it5_7 : it5_7 n = (it5_5 n) / 100 := (congrArg _ (tdivI (by omega) (by omega))).trans (wrapU32 (by omega) (by omega))
  have e_it5_8 : it5_8 n = ((it5_7 n) * 2) := wrapU32 (by omega) (by omega)
  have e_it5_9 : it5_9 n = (it5_5 n) % 100 := tmodI (by omega) (by omega)
  have e_it5_10 : it5_10 n = ((it5_9 n) * 2) := wrapU32 (by omega) (by omega)
  have e_it5_11 : it5_11 n = ((it5_10 n) + 1) := wrapU32 (by omega) (by omega)
  have e_it5_12 : it5_12 n = ((48 + n / 1 % 10 : Nat) : Int) := by unfold it5_12; rw [show Int.toNat (it5_11 n) = 2 * (n / 1 % 100) + 1 by omega, smalls1 _ (by omega)]; omega
  have e_it5_13 : it5_13 n = ((48 + n / 10 % 10 : Nat) : Int) := by unfold it5_13; rw [show Int.toNat (it5_10 n) = 2 * (n / 1 % 100) by omega, smalls0 _ (by omega)]; omega
  have e_it5_14 : it5_14 n = ((it5_8 n) + 1) := wrapU32 (by omega) (by omega)
  have e_it5_15 : it5_15 n = ((48 + n / 100 % 10 : Nat) : Int) := by unfold it5_15; rw [show Int.toNat (it5_14 n) = 2 * (n / 100 % 100) + 1 by omega, smalls1 _ (by omega)]; omega
  have e_it5_16 : it5_16 n = ((48 + n / 1000 % 10 : Nat) : Int) := by unfold it5_16; rw [show Int.toNat (it5_8 n) = 2 * (n / 100 % 100) by omega, smalls0 _ (by omega)]; omega
  have e_it5_17 : it5_17 n = (48 + (it5_6 n)) := wrapU32 (by omega) (by omega)
  have e_it5_18 : it5_18 n = (it5_17 n) := wrapU8 (by omega) (by omega)
  have f_4 : it5_18 n = ((48 + n / 10000 % 10 : Nat) : Int) := by omega
  have f_3 : it5_16 n = ((48 + n / 1000 % 10 : Nat) : Int) := by omega
  have f_2 : it5_15 n = ((48 + n / 100 % 10 : Nat) : Int) := by omega
  have f_1 : it5_13 n = ((48 + n / 10 % 10 : Nat) : Int) := by omega
  have f_0 : it5_12 n = ((48 + n / 1 % 10 : Nat) : Int) := by omega
  have hn : itoaL n = [48 + n / 10000 % 10, 48 + n / 1000 % 10, 48 + n / 100 % 10, 48 + n / 10 % 10, 48 + n / 1 % 10] := by
    unfold itoaL
    rw [nd_eq (k := 4) (by omega) (by omega)]
    simp only [show max 1 (4 + 1) = 5 by decide, digs, List.nil_append, List.cons_append, Nat.div_div_eq_div_mul, Nat.reduceMul, Nat.div_one]
  rw [hn]
  refine (it5 n (by repeat (first | refine mapO_cons (u8i (by omega) (by omega)) ?_ | exact mapO_nil))
    (decide_eq_false (by omega))
    (by rw [decide_eq_true (by omega), decide_eq_true (by omega)]; rfl)
    (by rw [decide_eq_true (by omega), decide_eq_true (by omega)]; rfl)
    (by rw [decide_eq_true (by omega), decide_eq_true (by omega)]; rfl)
    (by rw [decide_eq_true (by omega), decide_eq_true (by omega)]; rfl)
    (by rw [show it5_2 n = ((n : Nat) : Int) by omega]; exact numDigits5 n h0 h1)
    (decide_eq_false (by omega))
    (decide_eq_true (by omega))).cast ?_
  rw [f_4, f_3, f_2, f_1, f_0]
  rfl
theorem itoa6 (n : Nat) (h0 : 100000 ≤ n) (h1 : n ≤ 999999) : Sm 62 [.int .i64 (n : Int)] (.str (itoaL n)) := by
  have e_it6_2 : it6_2 n = ((n : Nat) : Int) := wrapU (by omega) (by omega)
  have e_it6_4 : it6_4 n = (it6_2 n) := wrapU32 (by omega) (by omega)
  have e_it6_5 : it6_5 n = (it6_4 n) % 10000 := tmodI (by omega) (by omega)
  have e_it6_6 : it6_6 n = (it6_4 n) / 10000 := (congrArg _ (tdivI (by omega) (by omega))).trans (wrapU32 (by omega) (by omega))
  have e_it6_7 : it6_7 n = (it6_5 n) / 100 := (congrArg _ (tdivI (by omega) (by omega))).trans (wrapU32 (by omega) (by omega))
  have e_it6_8 : it6_8 n = ((it6_7 n) * 2) := wrapU32 (by omega) (by omega)
  have e_it6_9 : it6_9 n = (it6_5 n) % 100 := tmodI (by omega) (by omega)
  have e_it6_10 : it6_10 n = ((it6_9 n) * 2) := wrapU32 (by omega) (by omega)
  have e_it6_11 : it6_11 n = ((it6_10 n) + 1) := wrapU32 (by omega) (by omega)
  have e_it6_12 : it6_12 n = ((48 + n / 1 % 10 : Nat) : Int) := by unfold it6_12; rw [show Int.toNat (it6_11 n) = 2 * (n / 1 % 100) + 1 by omega, smalls1 _ (by omega)]; omega
  have e_it6_13 : it6_13 n = ((48 + n / 10 % 10 : Nat) : Int) := by unfold it6_13; rw [show Int.toNat (it6_10 n) = 2 * (n / 1 % 100) by omega, smalls0 _ (by omega)]; omega
  have e_it6_14 : it6_14 n = ((it6_8 n) + 1) := wrapU32 (by omega) (by omega)
  have e_it6_15 : it6_15 n = ((48 + n / 100 % 10 : Nat) : Int) := by unfold it6_15; rw [show Int.toNat (it6_14 n) = 2 * (n / 100 % 100) + 1 by omega, smalls1 _ (by omega)]; omega
  have e_it6_16 : it6_16 n = ((48 + n / 1000 % 10 : Nat) : Int) := by unfold it6_16; rw [show Int.toNat (it6_8 n) = 2 * (n / 100 % 100) by omega, smalls0 _ (by omega)]; omega
  have e_it6_17 : it6_17 n = (it6_6 n) % 100 := tmodI (by omega) (by omega)
  have e_it6_18 : it6_18 n = ((it6_17 n) * 2) := wrapU32 (by omega) (by omega)
  have e_it6_19 : it6_19 n = (it6_6 n) / 100 := (congrArg _ (tdivI (by omega) (by omega))).trans (wrapU32 (by omega) (by omega))
  have e_it6_20 : it6_20 n = ((it6_18 n) + 1) := wrapU32 (by omega) (by omega)
  have e_it6_21 : it6_21 n = ((48 + n / 10000 % 10 : Nat) : Int) := by unfold it6_21; rw [show Int.toNat (it6_20 n) = 2 * (n / 10000 % 100) + 1 by omega, smalls1 _ (by omega)]; omega
  have e_it6_22 : it6_22 n = ((48 + n / 100000 % 10 : Nat) : Int) := by unfold it6_22; rw [show Int.toNat (it6_18 n) = 2 * (n / 10000 % 100) by omega, smalls0 _ (by omega)]; omega
  have f_5 : it6_22 n = ((48 + n / 100000 % 10 : Nat) : Int) := by omega
  have f_4 : it6_21 n = ((48 + n / 10000 % 10 : Nat) : Int) := by omega
  have f_3 : it6_16 n = ((48 + n / 1000 % 10 : Nat) : Int) := by omega
  have f_2 : it6_15 n = ((48 + n / 100 % 10 : Nat) : Int) := by omega
  have f_1 : it6_13 n = ((48 + n / 10 % 10 : Nat) : Int) := by omega
  have f_0 : it6_12 n = ((48 + n / 1 % 10 : Nat) : Int) := by omega
  have hn : itoaL n = [48 + n / 100000 % 10, 48 + n / 10000 % 10, 48 + n / 1000 % 10, 48 + n / 100 % 10, 48 + n / 10 % 10, 48 + n / 1 % 10] := by
    unfold itoaL
    rw [nd_eq (k := 5) (by omega) (by omega)]
    simp only [show max 1 (5 + 1) = 6 by decide, digs, List.nil_append, List.cons_append, Nat.div_div_eq_div_mul, Nat.reduceMul, Nat.div_one]
  rw [hn]
  refine (it6 n (by repeat (first | refine mapO_cons (u8i (by omega) (by omega)) ?_ | exact mapO_nil))
    (decide_eq_false (by omega))
    (by rw [decide_eq_true (by omega), decide_eq_true (by omega)]; rfl)
    (by rw [decide_eq_true (by omega), decide_eq_true (by omega)]; rfl)
    (by rw [decide_eq_true (by omega), decide_eq_true (by omega)]; rfl)
    (by rw [decide_eq_true (by omega), decide_eq_true (by omega)]; rfl)
    (by rw [decide_eq_true (by omega), decide_eq_true (by omega)]; rfl)
    (by rw [decide_eq_true (by omega), decide_eq_true (by omega)]; rfl)
    (by rw [show it6_2 n = ((n : Nat) : Int) by omega]; exact numDigits6 n h0 h1)
    (decide_eq_false (by omega))
    (decide_eq_true (by omega))).cast ?_
  rw [f_5, f_4, f_3, f_2, f_1, f_0]
  rfl
theorem itoa7 (n : Nat) (h0 : 1000000 ≤ n) (h1 : n ≤ 9999999) : Sm 62 [.int .i64 (n : Int)] (.str (itoaL n)) := by
  have e_it7_2 : it7_2 n = ((n : Nat) : Int) := wrapU (by omega) (by omega)
  have e_it7_4 : it7_4 n = (it7_2 n) := wrapU32 (by omega) (by omega)
  have e_it7_5 : it7_5 n = (it7_4 n) % 10000 := tmodI (by omega) (by omega)
  have e_it7_6 : it7_6 n = (it7_4 n) / 10000 := (congrArg _ (tdivI (by omega) (by omega))).trans (wrapU32 (by omega) (by omega))
  have e_it7_7 : it7_7 n = (it7_5 n) / 100 := (congrArg _ (tdivI (by omega) (by omega))).trans (wrapU32 (by omega) (by omega))
  have e_it7_8 : it7_8 n = ((it7_7 n) * 2) := wrapU32 (by omega) (by omega)
  have e_it7_9 : it7_9 n = (it7_5 n) % 100 := tmodI (by omega) (by omega)
  have e_it7_10 : it7_10 n = ((it7_9 n) * 2) := wrapU32 (by omega) (by omega)
  have e_it7_11 : it7_11 n = ((it7_10 n) + 1) := wrapU32 (by omega) (by omega)
  have e_it7_12 : it7_12 n = ((48 + n / 1 % 10 : Nat) : Int) := by unfold it7_12; rw [show Int.toNat (it7_11 n) = 2 * (n / 1 % 100) + 1 by omega, smalls1 _ (by omega)]; omega
  have e_it7_13 : it7_13 n = ((48 + n / 10 % 10 : Nat) : Int) := by unfold it7_13; rw [show Int.toNat (it7_10 n) = 2 * (n / 1 % 100) by omega, smalls0 _ (by omega)]; omega
  have e_it7_14 : it7_14 n = ((it7_8 n) + 1) := wrapU32 (by omega) (by omega)
  have e_it7_15 : it7_15 n = ((48 + n / 100 % 10 : Nat) : Int) := by unfold it7_15; rw [show Int.toNat (it7_14 n) = 2 * (n / 100 % 100) + 1 by omega, smalls1 _ (by omega)]; omega
  have e_it7_16 : it7_16 n = ((48 + n / 1000 % 10 : Nat) : Int) := by unfold it7_16; rw [show Int.toNat (it7_8 n) = 2 * (n / 100 % 100) by omega, smalls0 _ (by omega)]; omega
  have e_it7_17 : it7_17 n = (it7_6 n) % 100 := tmodI (by omega) (by omega)
  have e_it7_18 : it7_18 n = ((it7_17 n) * 2) := wrapU32 (by omega) (by omega)
  have e_it7_19 : it7_19 n = (it7_6 n) / 100 := (congrArg _ (tdivI (by omega) (by omega))).trans (wrapU32 (by omega) (by omega))
  have e_it7_20 : it7_20 n = ((it7_18 n) + 1) := wrapU32 (by omega) (by omega)
  have e_it7_21 : it7_21 n = ((48 + n / 10000 % 10 : Nat) : Int) := by unfold it7_21; rw [show Int.toNat (it7_20 n) = 2 * (n / 10000 % 100) + 1 by omega, smalls1 _ (by omega)]; omega
  have e_it7_22 : it7_22 n = ((48 + n / 100000 % 10 : Nat) : Int) := by unfold it7_22; rw [show Int.toNat (it7_18 n) = 2 * (n / 10000 % 100) by omega, smalls0 _ (by omega)]; omega
  have e_it7_23 : it7_23 n = (48 + (it7_19 n)) := wrapU32 (by omega) (by omega)
  have e_it7_24 : it7_24 n = (it7_23 n) := wrapU8 (by omega) (by omega)
  have f_6 : it7_24 n = ((48 + n / 1000000 % 10 : Nat) : Int) := by omega
  have f_5 : it7_22 n = ((48 + n / 100000 % 10 : Nat) : Int) := by omega
  have f_4 : it7_21 n = ((48 + n / 10000 % 10 : Nat) : Int) := by omega
  have f_3 : it7_16 n = ((48 + n / 1000 % 10 : Nat) : Int) := by omega
  have f_2 : it7_15 n = ((48 + n / 100 % 10 : Nat) : Int) := by omega
  have f_1 : it7_13 n = ((48 + n / 10 % 10 : Nat) : Int) := by omega
  have f_0 : it7_12 n = ((48 + n / 1 % 10 : Nat) : Int) := by omega
  have hn : itoaL n = [48 + n / 1000000 % 10, 48 + n / 100000 % 10, 48 + n / 10000 % 10, 48 + n / 1000 % 10, 48 + n / 100 % 10, 48 + n / 10 % 10, 48 + n / 1 % 10] := by
    unfold itoaL
    rw [nd_eq (k := 6) (by omega) (by omega)]
    simp only [show max 1 (6 + 1) = 7 by decide, digs, List.nil_append, List.cons_append, Nat.div_div_eq_div_mul, Nat.reduceMul, Nat.div_one]
  rw [hn]
  refine (it7 n (by repeat (first | refine mapO_cons (u8i (by omega) (by omega)) ?_ | exact mapO_nil))
    (decide_eq_false (by omega))
    (by rw [decide_eq_true (by omega), decide_eq_true (by omega)]; rfl)
    (by rw [decide_eq_true (by omega), decide_eq_true (by omega)]; rfl)
    (by rw [decide_eq_true (by omega), decide_eq_true (by omega)]; rfl)
    (by rw [decide_eq_true (by omega), decide_eq_true (by omega)]; rfl)
    (by rw [decide_eq_true (by omega), decide_eq_true (by omega)]; rfl)
    (by rw [decide_eq_true (by omega), decide_eq_true (by omega)]; rfl)
    (by rw [show it7_2 n = ((n : Nat) : Int) by omega]; exact numDigits7 n h0 h1)
    (decide_eq_false (by omega))
    (decide_eq_true (by omega))).cast ?_
  rw [f_6, f_5, f_4, f_3, f_2, f_1, f_0]
  rfl
theorem itoa8 (n : Nat) (h0 : 10000000 ≤ n) (h1 : n ≤ 99999999) : Sm 62 [.int .i64 (n : Int)] (.str (itoaL n)) := by
  have e_it8_2 : it8_2 n = ((n : Nat) : Int) := wrapU (by omega) (by omega)
  have e_it8_4 : it8_4 n = (it8_2 n) % 100000000 := tmodI (by omega) (by omega)
  have e_it8_5 : it8_5 n = (it8_4 n) := wrapU32 (by omega) (by omega)
  have e_it8_6 : it8_6 n = (it8_2 n) / 100000000 := (congrArg _ (tdivI (by omega) (by omega))).trans (wrapU (by omega) (by omega))
  have e_it8_7 : it8_7 n = (it8_5 n) / 10000 := (congrArg _ (tdivI (by omega) (by omega))).trans (wrapU32 (by omega) (by omega))
  have e_it8_8 : it8_8 n = (it8_5 n) % 10000 := tmodI (by omega) (by omega)
  have e_it8_9 : it8_9 n = (it8_8 n) / 100 := (congrArg _ (tdivI (by omega) (by omega))).trans (wrapU32 (by omega) (by omega))
  have e_it8_10 : it8_10 n = ((it8_9 n) * 2) := wrapU32 (by omega) (by omega)
  have e_it8_11 : it8_11 n = (it8_8 n) % 100 := tmodI (by omega) (by omega)
  have e_it8_12 : it8_12 n = ((it8_11 n) * 2) := wrapU32 (by omega) (by omega)
  have e_it8_13 : it8_13 n = (it8_7 n) / 100 := (congrArg _ (tdivI (by omega) (by omega))).trans (wrapU32 (by omega) (by omega))
  have e_it8_14 : it8_14 n = ((it8_13 n) * 2) := wrapU32 (by omega) (by omega)
  have e_it8_15 : it8_15 n = (it8_7 n) % 100 := tmodI (by omega) (by omega)
  have e_it8_16 : it8_16 n = ((it8_15 n) * 2) := wrapU32 (by omega) (by omega)
  have e_it8_17 : it8_17 n = ((it8_12 n) + 1) := wrapU32 (by omega) (by omega)
  have e_it8_18 : it8_18 n = ((48 + n / 1 % 10 : Nat) : Int) := by unfold it8_18; rw [show Int.toNat (it8_17 n) = 2 * (n / 1 % 100) + 1 by omega, smalls1 _ (by omega)]; omega
  have e_it8_19 : it8_19 n = ((48 + n / 10 % 10 : Nat) : Int) := by unfold it8_19; rw [show Int.toNat (it8_12 n) = 2 * (n / 1 % 100) by omega, smalls0 _ (by omega)]; omega
  have e_it8_20 : it8_20 n = ((it8_10 n) + 1) := wrapU32 (by omega) (by omega)
  have e_it8_21 : it8_21 n = ((48 + n / 100 % 10 : Nat) : Int) := by unfold it8_21; rw [show Int.toNat (it8_20 n) = 2 * (n / 100 % 100) + 1 by omega, smalls1 _ (by omega)]; omega
  have e_it8_22 : it8_22 n = ((48 + n / 1000 % 10 : Nat) : Int) := by unfold it8_22; rw [show Int.toNat (it8_10 n) = 2 * (n / 100 % 100) by omega, smalls0 _ (by omega)]; omega
  have e_it8_23 : it8_23 n = ((it8_16 n) + 1) := wrapU32 (by omega) (by omega)
  have e_it8_24 : it8_24 n = ((48 + n / 10000 % 10 : Nat) : Int) := by unfold it8_24; rw [show Int.toNat (it8_23 n) = 2 * (n / 10000 % 100) + 1 by omega, smalls1 _ (by omega)]; omega
  have e_it8_25 : it8_25 n = ((48 + n / 100000 % 10 : Nat) : Int) := by unfold it8_25; rw [show Int.toNat (it8_16 n) = 2 * (n / 10000 % 100) by omega, smalls0 _ (by omega)]; omega
  have e_it8_26 : it8_26 n = ((it8_14 n) + 1) := wrapU32 (by omega) (by omega)
  have e_it8_27 : it8_27 n = ((48 + n / 1000000 % 10 : Nat) : Int) := by unfold it8_27; rw [show Int.toNat (it8_26 n) = 2 * (n / 1000000 % 100) + 1 by omega, smalls1 _ (by omega)]; omega
  have e_it8_28 : it8_28 n = ((48 + n / 10000000 % 10 : Nat) : Int) := by unfold it8_28; rw [show Int.toNat (it8_14 n) = 2 * (n / 1000000 % 100) by omega, smalls0 _ (by omega)]; omega
  have e_it8_29 : it8_29 n = (it8_6 n) := wrapU32 (by omega) (by omega)
  have f_7 : it8_28 n = ((48 + n / 10000000 % 10 : Nat) : Int) := by omega
  have f_6 : it8_27 n = ((48 + n / 1000000 % 10 : Nat) : Int) := by omega
  have f_5 : it8_25 n = ((48 + n / 100000 % 10 : Nat) : Int) := by omega
  have f_4 : it8_24 n = ((48 + n / 10000 % 10 : Nat) : Int) := by omega
  have f_3 : it8_22 n = ((48 + n / 1000 % 10 : Nat) : Int) := by omega
  have f_2 : it8_21 n = ((48 + n / 100 % 10 : Nat) : Int) := by omega
  have f_1 : it8_19 n = ((48 + n / 10 % 10 : Nat) : Int) := by omega
  have f_0 : it8_18 n = ((48 + n / 1 % 10 : Nat) : Int) := by omega
  have hn : itoaL n = [48 + n / 10000000 % 10, 48 + n / 1000000 % 10, 48 + n / 100000 % 10, 48 + n / 10000 % 10, 48 + n / 1000 % 10, 48 + n / 100 % 10, 48 + n / 10 % 10, 48 + n / 1 % 10] := by
    unfold itoaL
    rw [nd_eq (k := 7) (by omega) (by omega)]
    simp only [show max 1 (7 + 1) = 8 by decide, digs, List.nil_append, List.cons_append, Nat.div_div_eq_div_mul, Nat.reduceMul, Nat.div_one]
  rw [hn]
  refine (it8 n (by repeat (first | refine mapO_cons (u8i (by omega) (by omega)) ?_ | exact mapO_nil))
    (decide_eq_false (by omega))
    (by rw [decide_eq_true (by omega), decide_eq_true (by omega)]; rfl)
    (by rw [decide_eq_true (by omega), decide_eq_true (by omega)]; rfl)
    (by rw [decide_eq_true (by omega), decide_eq_true (by omega)]; rfl)
    (by rw [decide_eq_true (by omega), decide_eq_true (by omega)]; rfl)
    (by rw [decide_eq_true (by omega), decide_eq_true (by omega)]; rfl)
    (by rw [decide_eq_true (by omega), decide_eq_true (by omega)]; rfl)
    (by rw [decide_eq_true (by omega), decide_eq_true (by omega)]; rfl)
    (by rw [decide_eq_true (by omega), decide_eq_true (by omega)]; rfl)
    (by rw [show it8_2 n = ((n : Nat) : Int) by omega]; exact numDigits8 n h0 h1)
    (decide_eq_false (by omega))
    (decide_eq_true (by omega))).cast ?_
  rw [f_7, f_6, f_5, f_4, f_3, f_2, f_1, f_0]
  rfl
theorem itoa9 (n : Nat) (h0 : 100000000 ≤ n) (h1 : n ≤ 999999999) : Sm 62 [.int .i64 (n : Int)] (.str (itoaL n)) := by
  have e_it9_2 : it9_2 n = ((n : Nat) : Int) := wrapU (by omega) (by omega)
  have e_it9_4 : it9_4 n = (it9_2 n) % 100000000 := tmodI (by omega) (by omega)
  have e_it9_5 : it9_5 n = (it9_4 n) := wrapU32 (by omega) (by omega)
  have e_it9_6 : it9_6 n = (it9_2 n) / 100000000 := (congrArg _ (tdivI (by omega) (by omega))).trans (wrapU (by omega) (by omega))
  have e_it9_7 : it9_7 n = (it9_5 n) / 10000 := (congrArg _ (tdivI (by omega) (by omega))).trans (wrapU32 (by omega) (by omega))
  have e_it9_8 : it9_8 n = (it9_5 n) % 10000 := tmodI (by omega) (by omega)
  have e_it9_9 : it9_9 n = (it9_8 n) / 100 := (congrArg _ (tdivI (by omega) (by omega))).trans (wrapU32 (by omega) (by omega))
  have e_it9_10 : it9_10 n = ((it9_9 n) * 2) := wrapU32 (by omega) (by omega)
  have e_it9_11 : it9_11 n = (it9_8 n) % 100 := tmodI (by omega) (by omega)
  have e_it9_12 : it9_12 n = ((it9_11 n) * 2) := wrapU32 (by omega) (by omega)
  have e_it9_13 : it9_13 n = (it9_7 n) / 100 := (congrArg _ (tdivI (by omega) (by omega))).trans (wrapU32 (by omega) (by omega))
  have e_it9_14 : it9_14 n = ((it9_13 n) * 2) := wrapU32 (by omega) (by omega)
  have e_it9_15 : it9_15 n = (it9_7 n) % 100 := tmodI (by omega) (by omega)
  have e_it9_16 : it9_16 n = ((it9_15 n) * 2) := wrapU32 (by omega) (by omega)
  have e_it9_17 : it9_17 n = ((it9_12 n) + 1) := wrapU32 (by omega) (by omega)
  have e_it9_18 : it9_18 n = ((48 + n / 1 % 10 : Nat) : Int) := by unfold it9_18; rw [show Int.toNat (it9_17 n) = 2 * (n / 1 % 100) + 1 by omega, smalls1 _ (by omega)]; omega
  have e_it9_19 : it9_19 n = ((48 + n / 10 % 10 : Nat) : Int) := by unfold it9_19; rw [show Int.toNat (it9_12 n) = 2 * (n / 1 % 100) by omega, smalls0 _ (by omega)]; omega
  have e_it9_20 : it9_20 n = ((it9_10 n) + 1) := wrapU32 (by omega) (by omega)
  have e_it9_21 : it9_21 n = ((48 + n / 100 % 10 : Nat) : Int) := by unfold it9_21; rw [show Int.toNat (it9_20 n) = 2 * (n / 100 % 100) + 1 by omega, smalls1 _ (by omega)]; omega
  have e_it9_22 : it9_22 n = ((48 + n / 1000 % 10 : Nat) : Int) := by unfold it9_22; rw [show Int.toNat (it9_10 n) = 2 * (n / 100 % 100) by omega, smalls0 _ (by omega)]; omega
  have e_it9_23 : it9_23 n = ((it9_16 n) + 1) := wrapU32 (by omega) (by omega)
  have e_it9_24 : it9_24 n = ((48 + n / 10000 % 10 : Nat) : Int) := by unfold it9_24; rw [show Int.toNat (it9_23 n) = 2 * (n / 10000 % 100) + 1 by omega, smalls1 _ (by omega)]; omega
  have e_it9_25 : it9_25 n = ((48 + n / 100000 % 10 : Nat) : Int) := by unfold it9_25; rw [show Int.toNat (it9_16 n) = 2 * (n / 10000 % 100) by omega, smalls0 _ (by omega)]; omega
  have e_it9_26 : it9_26 n = ((it9_14 n) + 1) := wrapU32 (by omega) (by omega)
  have e_it9_27 : it9_27 n = ((48 + n / 1000000 % 10 : Nat) : Int) := by unfold it9_27; rw [show Int.toNat (it9_26 n) = 2 * (n / 1000000 % 100) + 1 by omega, smalls1 _ (by omega)]; omega
  have e_it9_28 : it9_28 n = ((48 + n / 10000000 % 10 : Nat) : Int) := by unfold it9_28; rw [show Int.toNat (it9_14 n) = 2 * (n / 1000000 % 100) by omega, smalls0 _ (by omega)]; omega
  have e_it9_29 : it9_29 n = (it9_6 n) := wrapU32 (by omega) (by omega)
  have e_it9_30 : it9_30 n = (48 + (it9_29 n)) := wrapU32 (by omega) (by omega)
  have e_it9_31 : it9_31 n = (it9_30 n) := wrapU8 (by omega) (by omega)
  have f_8 : it9_31 n = ((48 + n / 100000000 % 10 : Nat) : Int) := by omega
  have f_7 : it9_28 n = ((48 + n / 10000000 % 10 : Nat) : Int) := by omega
  have f_6 : it9_27 n = ((48 + n / 1000000 % 10 : Nat) : Int) := by omega
  have f_5 : it9_25 n = ((48 + n / 100000 % 10 : Nat) : Int) := by omega
  have f_4 : it9_24 n = ((48 + n / 10000 % 10 : Nat) : Int) := by omega
  have f_3 : it9_22 n = ((48 + n / 1000 % 10 : Nat) : Int) := by omega
  have f_2 : it9_21 n = ((48 + n / 100 % 10 : Nat) : Int) := by omega
  have f_1 : it9_19 n = ((48 + n / 10 % 10 : Nat) : Int) := by omega
  have f_0 : it9_18 n = ((48 + n / 1 % 10 : Nat) : Int) := by omega
  have hn : itoaL n = [48 + n / 100000000 % 10, 48 + n / 10000000 % 10, 48 + n / 1000000 % 10, 48 + n / 100000 % 10, 48 + n / 10000 % 10, 48 + n / 1000 % 10, 48 + n / 100 % 10, 48 + n / 10 % 10, 48 + n / 1 % 10] := by
    unfold itoaL
    rw [nd_eq (k := 8) (by omega) (by omega)]
    simp only [show max 1 (8 + 1) = 9 by decide, digs, List.nil_append, List.cons_append, Nat.div_div_eq_div_mul, Nat.reduceMul, Nat.div_one]
  rw [hn]
  refine (it9 n (by repeat (first | refine mapO_cons (u8i (by omega) (by omega)) ?_ | exact mapO_nil))
    (decide_eq_false (by omega))
    (by rw [decide_eq_true (by omega), decide_eq_true (by omega)]; rfl)
    (by rw [decide_eq_true (by omega), decide_eq_true (by omega)]; rfl)
    (by rw [decide_eq_true (by omega), decide_eq_true (by omega)]; rfl)
    (by rw [decide_eq_true (by omega), decide_eq_true (by omega)]; rfl)
    (by rw [decide_eq_true (by omega), decide_eq_true (by omega)]; rfl)
    (by rw [decide_eq_true (by omega), decide_eq_true (by omega)]; rfl)
    (by rw [decide_eq_true (by omega), decide_eq_true (by omega)]; rfl)
    (by rw [decide_eq_true (by omega), decide_eq_true (by omega)]; rfl)
    (by rw [show it9_2 n = ((n : Nat) : Int) by omega]; exact numDigits9 n h0 h1)
    (decide_eq_false (by omega))
    (decide_eq_true (by omega))).cast ?_
  rw [f_8, f_7, f_6, f_5, f_4, f_3, f_2, f_1, f_0]
  rfl
theorem dig_all : (List.range 10).all (fun r => List.take 1 (dropL digT r) == [48 + r % 10]) = true := by kernel_rfl
theorem small_all : (List.range 100).all (fun r => List.take 2 (dropL smallsT (2 * r)) == [48 + r / 10 % 10, 48 + r % 10]) = true := by kernel_rfl
theorem itoa1 (n : Nat) (h1 : n ≤ 9) : Sm 62 [.int .i64 (n : Int)] (.str (itoaL n)) := by
  have e3 : it1_3 n = ((n : Nat) : Int) + 1 := wrapI (by omega) (by omega)
  refine (it1 n (by rw [e3, decide_eq_true (by omega), decide_eq_true (by omega), decide_eq_true (by omega)]; rfl) (decide_eq_true (by omega)) (decide_eq_true (by omega)) (decide_eq_true (by omega))).cast ?_
  have hn : itoaL n = [48 + n % 10] := by
    have : nd n ≤ 1 := nd_lt (by omega)
    unfold itoaL
    rw [show max 1 (nd n) = 1 by omega]
    rfl
  rw [hn]
  unfold it1_4
  rw [e3, show (((n : Nat) : Int) + 1).toNat - n = 1 by omega]
  exact congrArg _ (eq_of_beq (List.all_eq_true.1 dig_all n (List.mem_range.2 (by omega))))
theorem itoa2 (n : Nat) (h0 : 10 ≤ n) (h1 : n ≤ 99) : Sm 62 [.int .i64 (n : Int)] (.str (itoaL n)) := by
  have e3 : it2_3 n = ((n : Nat) : Int) * 2 := wrapI (by omega) (by omega)
  have e4 : it2_4 n = (it2_3 n) + 2 := wrapI (by omega) (by omega)
  refine (it2 n (by rw [e4, e3, decide_eq_true (by omega), decide_eq_true (by omega), decide_eq_true (by omega)]; rfl) (decide_eq_false (by omega)) (decide_eq_true (by omega)) (decide_eq_true (by omega))).cast ?_
  have hn : itoaL n = [48 + n / 10 % 10, 48 + n % 10] := by
    unfold itoaL
    rw [nd_eq (k := 1) (by omega) (by omega)]
    rfl
  rw [hn]
  unfold it2_5
  rw [e4, e3, show (((n : Nat) : Int) * 2).toNat = 2 * n by omega, show (((n : Nat) : Int) * 2 + 2).toNat - 2 * n = 2 by omega]
  exact congrArg _ (eq_of_beq (List.all_eq_true.1 small_all n (List.mem_range.2 (by omega))))
theorem itoa_ok (n : Nat) (h : n ≤ 999999999) : Sm 62 [.int .i64 (n : Int)] (.str (itoaL n)) := by
  by_cases h1 : n ≤ 9
  · exact itoa1 n h1
  by_cases h2 : n ≤ 99
  · exact itoa2 n (by omega) h2
  by_cases h3 : n ≤ 999
  · exact itoa3 n (by omega) h3
  by_cases h4 : n ≤ 9999
  · exact itoa4 n (by omega) h4
  by_cases h5 : n ≤ 99999
  · exact itoa5 n (by omega) h5
  by_cases h6 : n ≤ 999999
  · exact itoa6 n (by omega) h6
  by_cases h7 : n ≤ 9999999
  · exact itoa7 n (by omega) h7
  by_cases h8 : n ≤ 99999999
  · exact itoa8 n (by omega) h8
  exact itoa9 n (by omega) h
end Go.Proofs.YtmekaipcoghlfaaGreatDoor
end
