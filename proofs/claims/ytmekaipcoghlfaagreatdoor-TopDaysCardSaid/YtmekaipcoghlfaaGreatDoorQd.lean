/-
  Part of the proof of TopDays: lemmas that the others lean on.
-/
import Derived.Test.YtmekaipcoghlfaaGreatDoorDn
set_option linter.all false
set_option linter.unusedVariables false
set_option linter.unusedSimpArgs false
noncomputable section
namespace Go.Proofs.YtmekaipcoghlfaaGreatDoor
open Go Go.Am Go.Proofs
theorem st10 (a b : Nat) (hb : b < 340282366920938463463374607431768211456) (h : b = a * 10) : Sm 93 [.agg [.int .u64 0, .int .u64 0], AW b, .int .u64 10] (.tuple [.agg [.int .u64 0, .int .u64 0], AW a, .int .u64 0, .bool true]) := by
  have := divw_ok b hb
  rw [show b / 10 = a by omega, show b % 10 = 0 by omega] at this
  exact this
theorem dvst (P q : Nat) (h : P = 86400 * q) (hP : P < 86400 * 340282366920938463463374607431768211456) :
    Sm 28 [AW (P / 340282366920938463463374607431768211456), AW (P % 340282366920938463463374607431768211456), AW 86400] (.tuple [AW q, AW 0, .bool true]) := by
  have := div_ok (P / 340282366920938463463374607431768211456) (P % 340282366920938463463374607431768211456) 86400 (Nat.mod_lt _ (by decide)) (by decide) (by omega)
  rw [show P / 340282366920938463463374607431768211456 * 340282366920938463463374607431768211456 + P % 340282366920938463463374607431768211456 = 86400 * q by omega, show 86400 * q / 86400 = q by omega, show 86400 * q % 86400 = 0 by omega] at this
  exact this
def qdR : Nat → Nat → List Cmd
  | 0, _ => []
  | k + 1, m => .ret (.tuple [.agg [.int .u64 0, .int .u64 0], AW (m * 10 ^ k), .int .u64 0, .bool true]) [] :: .auto 17 :: qdR k m
def qdS (d k m : Nat) (u : Bool) : List Cmd :=
  [.auto 19, .br true, .auto 4, .br false, .auto 3, .ret (.int .i64 5) [], .auto 3, .ret (.int .i64 ((d : Nat) : Int)) [], .auto (12 * k + 19),
    .ret (.tuple [AW (86400 * m * 10 ^ k / 340282366920938463463374607431768211456), AW (86400 * m * 10 ^ k % 340282366920938463463374607431768211456)]) [], .auto 15, .ret (.tuple [AW (m * 10 ^ k), AW 0, .bool true]) [], .auto 24] ++
  qdR k m ++ [.ret (.tuple [DA u (m * 10 ^ 0), .bool true]) []]
def qdO : Nat → Nat → List Prop → List Prop
  | 0, _, acc => acc
  | k + 1, m, acc => qdO k m (OK PR E1 93 [.agg [.int .u64 0, .int .u64 0], AW (m * 10 ^ (k + 1)), .int .u64 10] [] (.tuple [.agg [.int .u64 0, .int .u64 0], AW (m * 10 ^ k), .int .u64 0, .bool true]) [] :: acc)
def qdT (d k m : Nat) : List Prop :=
  [OK PR E1 28 [AW (86400 * m * 10 ^ k / 340282366920938463463374607431768211456), AW (86400 * m * 10 ^ k % 340282366920938463463374607431768211456), AW 86400] [] (.tuple [AW (m * 10 ^ k), AW 0, .bool true]) [],
    OK PR E1 486 [AW (86400 * m), AW (10 ^ k)] [] (.tuple [AW (86400 * m * 10 ^ k / 340282366920938463463374607431768211456), AW (86400 * m * 10 ^ k % 340282366920938463463374607431768211456)]) [],
    OK PR E1 435 [.agg [.int .u64 0, .int .u64 0], AW (86400 * m)] [] (.int .i64 ((d : Nat) : Int)) [],
    OK PR E1 435 [.agg [.int .u64 0, .int .u64 0], AW 86400] [] (.int .i64 5) [],
    ((((86400 * m % 18446744073709551616 : Nat) : Int) == 0) = false),
    ((((86400 * m / 18446744073709551616 : Nat) : Int) == 0) = true)]
def qdOb (d k m : Nat) (s u : Bool) : List Prop :=
  OK PR E1 350 [.agg [.bool (!(s == false)), .int .u64 0, .int .u64 0, .int .u64 ((m * 10 ^ 0 / 18446744073709551616 : Nat) : Int), .int .u64 ((m * 10 ^ 0 % 18446744073709551616 : Nat) : Int), .int .i64 0, .bool false], .int .i64 1] [] (.tuple [DA u (m * 10 ^ 0), .bool true]) [] ::
  qdO k m (qdT d k m)
theorem qdO_ok (m K : Nat) (hK : m * 10 ^ K < 340282366920938463463374607431768211456) : ∀ (k : Nat) (acc : List Prop), k ≤ K → AllP acc → AllP (qdO k m acc)
  | 0, _, _, h => h
  | k + 1, acc, hk, h => by
    have hle : m * 10 ^ (k + 1) ≤ m * 10 ^ K := Nat.mul_le_mul_left m (Nat.pow_le_pow_right (by decide) hk)
    refine qdO_ok m K hK k _ (by omega) ?_
    exact ⟨(st10 (m * 10 ^ k) (m * 10 ^ (k + 1)) (by omega) (by rw [Nat.pow_succ, Nat.mul_assoc])).e1, h⟩
theorem qd5 (m : Nat) (s u : Bool) (h : Heap) : doCall E1 K1 384 [DA s (86400 * m), DA false 86400] h 0 ⟨qdS 5 35 m u, []⟩ = some (⟨.tuple [DA u (m * 10 ^ 0), .bool true], [], []⟩, ⟨[], qdOb 5 35 m s u⟩) := by kernel_rfl
theorem qd6 (m : Nat) (s u : Bool) (h : Heap) : doCall E1 K1 384 [DA s (86400 * m), DA false 86400] h 0 ⟨qdS 6 34 m u, []⟩ = some (⟨.tuple [DA u (m * 10 ^ 0), .bool true], [], []⟩, ⟨[], qdOb 6 34 m s u⟩) := by kernel_rfl
theorem qd7 (m : Nat) (s u : Bool) (h : Heap) : doCall E1 K1 384 [DA s (86400 * m), DA false 86400] h 0 ⟨qdS 7 33 m u, []⟩ = some (⟨.tuple [DA u (m * 10 ^ 0), .bool true], [], []⟩, ⟨[], qdOb 7 33 m s u⟩) := by kernel_rfl
theorem qd8 (m : Nat) (s u : Bool) (h : Heap) : doCall E1 K1 384 [DA s (86400 * m), DA false 86400] h 0 ⟨qdS 8 32 m u, []⟩ = some (⟨.tuple [DA u (m * 10 ^ 0), .bool true], [], []⟩, ⟨[], qdOb 8 32 m s u⟩) := by kernel_rfl
theorem qd9 (m : Nat) (s u : Bool) (h : Heap) : doCall E1 K1 384 [DA s (86400 * m), DA false 86400] h 0 ⟨qdS 9 31 m u, []⟩ = some (⟨.tuple [DA u (m * 10 ^ 0), .bool true], [], []⟩, ⟨[], qdOb 9 31 m s u⟩) := by kernel_rfl
theorem qd10 (m : Nat) (s u : Bool) (h : Heap) : doCall E1 K1 384 [DA s (86400 * m), DA false 86400] h 0 ⟨qdS 10 30 m u, []⟩ = some (⟨.tuple [DA u (m * 10 ^ 0), .bool true], [], []⟩, ⟨[], qdOb 10 30 m s u⟩) := by kernel_rfl
theorem qd11 (m : Nat) (s u : Bool) (h : Heap) : doCall E1 K1 384 [DA s (86400 * m), DA false 86400] h 0 ⟨qdS 11 29 m u, []⟩ = some (⟨.tuple [DA u (m * 10 ^ 0), .bool true], [], []⟩, ⟨[], qdOb 11 29 m s u⟩) := by kernel_rfl
theorem qd12 (m : Nat) (s u : Bool) (h : Heap) : doCall E1 K1 384 [DA s (86400 * m), DA false 86400] h 0 ⟨qdS 12 28 m u, []⟩ = some (⟨.tuple [DA u (m * 10 ^ 0), .bool true], [], []⟩, ⟨[], qdOb 12 28 m s u⟩) := by kernel_rfl
theorem qd13 (m : Nat) (s u : Bool) (h : Heap) : doCall E1 K1 384 [DA s (86400 * m), DA false 86400] h 0 ⟨qdS 13 27 m u, []⟩ = some (⟨.tuple [DA u (m * 10 ^ 0), .bool true], [], []⟩, ⟨[], qdOb 13 27 m s u⟩) := by kernel_rfl
theorem qd14 (m : Nat) (s u : Bool) (h : Heap) : doCall E1 K1 384 [DA s (86400 * m), DA false 86400] h 0 ⟨qdS 14 26 m u, []⟩ = some (⟨.tuple [DA u (m * 10 ^ 0), .bool true], [], []⟩, ⟨[], qdOb 14 26 m s u⟩) := by kernel_rfl
theorem qd15 (m : Nat) (s u : Bool) (h : Heap) : doCall E1 K1 384 [DA s (86400 * m), DA false 86400] h 0 ⟨qdS 15 25 m u, []⟩ = some (⟨.tuple [DA u (m * 10 ^ 0), .bool true], [], []⟩, ⟨[], qdOb 15 25 m s u⟩) := by kernel_rfl
theorem qd_run (m : Nat) (s u : Bool) : ∀ (d : Nat), 5 ≤ d → d ≤ 15 → ∀ h : Heap, doCall E1 K1 384 [DA s (86400 * m), DA false 86400] h 0 ⟨qdS d (40 - d) m u, []⟩ = some (⟨.tuple [DA u (m * 10 ^ 0), .bool true], [], []⟩, ⟨[], qdOb d (40 - d) m s u⟩)
  | 0, H, _ => absurd H (by decide)
  | 1, H, _ => absurd H (by decide)
  | 2, H, _ => absurd H (by decide)
  | 3, H, _ => absurd H (by decide)
  | 4, H, _ => absurd H (by decide)
  | 5, _, _ => qd5 m s u
  | 6, _, _ => qd6 m s u
  | 7, _, _ => qd7 m s u
  | 8, _, _ => qd8 m s u
  | 9, _, _ => qd9 m s u
  | 10, _, _ => qd10 m s u
  | 11, _, _ => qd11 m s u
  | 12, _, _ => qd12 m s u
  | 13, _, _ => qd13 m s u
  | 14, _, _ => qd14 m s u
  | 15, _, _ => qd15 m s u
  | zz + 16, _, H => absurd H (by omega)
theorem qd_b4 (m : Nat) (h0 : m ≠ 0) (h : m ≤ 2147483648) : (((86400 * m % 18446744073709551616 : Nat) : Int) == 0) = false := by
  rw [Nat.mod_eq_of_lt (by omega)]
  exact beqF' (by omega)
theorem qd_b5 (m : Nat) (h : m ≤ 2147483648) : (((86400 * m / 18446744073709551616 : Nat) : Int) == 0) = true := by
  rw [Nat.div_eq_of_lt (by omega)]
  rfl
theorem d5 : OK PR E1 435 [.agg [.int .u64 0, .int .u64 0], AW 86400] [] (.int .i64 5) [] := by
  have h := (digits_ok 86400 (by decide)).e1
  rw [nd_eq (k := 4) (n := 86400) (by decide) (by decide)] at h
  exact h
theorem qd_ok (s : Bool) (m : Nat) (h0 : m ≠ 0) (h : m ≤ 2147483648) : Sm 384 [DA s (86400 * m), DA false 86400] (.tuple [DA ((!(s == false)) && decide (m ≠ 0)) m, .bool true]) := by
  have hd1 : nd (86400 * m) ≤ 15 := nd_lt (by omega)
  have hd0 : 5 ≤ nd (86400 * m) := nd_ge (k := 4) (by omega)
  have hlt : 86400 * m < 10 ^ nd (86400 * m) := lt_nd _
  have hP : 86400 * m * 10 ^ (40 - nd (86400 * m)) < 10000000000000000000000000000000000000000 := by
    have h1 : 10 ^ nd (86400 * m) * 10 ^ (40 - nd (86400 * m)) = 10000000000000000000000000000000000000000 := by
      rw [← Nat.pow_add, show nd (86400 * m) + (40 - nd (86400 * m)) = 40 by omega]
    rw [← h1]
    exact Nat.mul_lt_mul_of_pos_right hlt (Nat.pow_pos (by decide))
  have hA : 86400 * m * 10 ^ (40 - nd (86400 * m)) = 86400 * (m * 10 ^ (40 - nd (86400 * m))) := Nat.mul_assoc ..
  have hk : 10 ^ (40 - nd (86400 * m)) ≤ 10 ^ 35 := Nat.pow_le_pow_right (by decide) (by omega)
  have hb : m * 10 ^ (40 - nd (86400 * m)) < 340282366920938463463374607431768211456 := by
    rw [hA] at hP
    clear hA hk hlt hd0 hd1 h0 h
    generalize m * 10 ^ (40 - nd (86400 * m)) = X at hP ⊢
    omega
  have hPd : 86400 * m * 10 ^ (40 - nd (86400 * m)) < 86400 * 340282366920938463463374607431768211456 := Nat.lt_of_lt_of_le hP (by decide)
  have hk' : 10 ^ (40 - nd (86400 * m)) < 340282366920938463463374607431768211456 := Nat.lt_of_le_of_lt hk (by decide)
  have hm : 86400 * m < 340282366920938463463374607431768211456 := by
    clear hA hk hlt hd0 hd1 h0 hP hPd hb hk'
    omega
  have hm0 : m * 10 ^ 0 ≤ 2147483648 := by rw [Nat.pow_zero, Nat.mul_one]; exact h
  have hf := (fit_ok (!(s == false)) (m * 10 ^ 0) (Nat.lt_of_le_of_lt hm0 (by decide))).e1
  suffices key : Sm 384 [DA s (86400 * m), DA false 86400] (.tuple [DA ((!(s == false)) && decide (m * 10 ^ 0 ≠ 0)) (m * 10 ^ 0), .bool true]) by
    rw [Nat.pow_zero, Nat.mul_one] at key
    exact key
  refine .of1 (scr := qdS (nd (86400 * m)) (40 - nd (86400 * m)) m _) (rest := []) (rd := []) (obs := qdOb (nd (86400 * m)) (40 - nd (86400 * m)) m s _) (qd_run m s _ _ hd0 hd1) ?_
  have o1 : OK PR E1 486 [AW (86400 * m), AW (10 ^ (40 - nd (86400 * m)))] [] (.tuple [AW (86400 * m * 10 ^ (40 - nd (86400 * m)) / 340282366920938463463374607431768211456), AW (86400 * m * 10 ^ (40 - nd (86400 * m)) % 340282366920938463463374607431768211456)]) [] := (mul_ok (86400 * m) (10 ^ (40 - nd (86400 * m))) hm hk').e1
  have o2 : OK PR E1 435 [.agg [.int .u64 0, .int .u64 0], AW (86400 * m)] [] (.int .i64 ((nd (86400 * m) : Nat) : Int)) [] := (digits_ok (86400 * m) hm).e1
  have o3 : OK PR E1 435 [.agg [.int .u64 0, .int .u64 0], AW 86400] [] (.int .i64 5) [] := d5
  have o4 := qd_b4 m h0 h
  have o5 := qd_b5 m h
  have o6 := (dvst _ (m * 10 ^ (40 - nd (86400 * m))) hA hPd).e1
  have hT : AllP (qdT (nd (86400 * m)) (40 - nd (86400 * m)) m) := by
    clear hA hk hlt hd0 hd1 hP hPd hb hk' hf
    exact ⟨o6, o1, o2, o3, o4, o5, trivial⟩
  have hO := qdO_ok m (40 - nd (86400 * m)) hb (40 - nd (86400 * m)) (qdT (nd (86400 * m)) (40 - nd (86400 * m)) m) (Nat.le_refl _) hT
  exact And.intro hf hO
theorem rq0 (s : Bool)  :
    Sm 384 [.agg [.bool s, .int .u64 0, .int .u64 0, .int .i64 0], .agg [.bool false, .int .u64 0, .int .u64 86400, .int .i64 0]] (.tuple [.agg [.bool false, .int .u64 0, .int .u64 0, .int .i64 0], .bool true]) :=
  .of1 (scr := []) (rest := []) (rd := [])
    (obs := []) (fun h => by kernel_rfl) trivial
theorem quot_ok (s : Bool) (m : Nat) (h : m ≤ 2147483648) : Sm 384 [DA s (86400 * m), DA false 86400] (.tuple [DA (s && decide (m ≠ 0)) m, .bool true]) := by
  have hs : (!(s == false)) = s := by cases s <;> rfl
  by_cases h0 : m = 0
  · subst h0
    refine (rq0 s).cast ?_
    simp [DA]
  · have := qd_ok s m h0 h
    rw [hs] at this
    exact this
/-- So many times a day goes into so many days. -/
theorem ratio_ok (n : Int) (h0 : -2147483648 ≤ n) (h1 : n ≤ 2147483647) : Sm 501 [.int .i64 (86400 * n), .int .i64 86400] (.tuple [DA (decide (n < 0)) n.natAbs, .bool true]) := by
  have hi := int_ok (86400 * n) (by omega) (by omega)
  rw [show (86400 * n).natAbs = 86400 * n.natAbs by omega, show decide (86400 * n < 0) = decide (n < 0) by simp; omega] at hi
  have hq := quot_ok (decide (n < 0)) n.natAbs (by omega)
  rw [show (decide (n < 0) && decide (n.natAbs ≠ 0)) = decide (n < 0) by by_cases h : n < 0 <;> simp [h]; omega] at hq
  exact rratio _ _ _ _ _ _ _ _ hq (int_ok 86400 (by decide) (by decide)) hi (smay_ok _ (by decide) (by decide)) (smay_ok _ (by omega) (by omega))
end Go.Proofs.YtmekaipcoghlfaaGreatDoor
end
