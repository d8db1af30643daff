/-
  Part of the proof of TopDays: lemmas that the others lean on.
-/
import Derived.Test.YtmekaipcoghlfaaGreatDoorDn
import Derived.Laws.RangeString
import Derived.Test.YtmekaipcoghlfaaGreatDoorBase
set_option linter.all false
set_option linter.unusedVariables false
set_option linter.unusedSimpArgs false
noncomputable section
namespace Go.Proofs.YtmekaipcoghlfaaGreatDoor
open Go Go.Am Go.Proofs
def len8T : List Nat := [0, 1, 2, 2, 3, 3, 3, 3, 4, 4, 4, 4, 4, 4, 4, 4, 5, 5, 5, 5, 5, 5, 5, 5, 5, 5, 5, 5, 5, 5, 5, 5, 6, 6, 6, 6, 6, 6, 6, 6, 6, 6, 6, 6, 6, 6, 6, 6, 6, 6, 6, 6, 6, 6, 6, 6, 6, 6, 6, 6, 6, 6, 6, 6, 7, 7, 7, 7, 7, 7, 7, 7, 7, 7, 7, 7, 7, 7, 7, 7, 7, 7, 7, 7, 7, 7, 7, 7, 7, 7, 7, 7, 7, 7, 7, 7, 7, 7, 7, 7, 7, 7, 7, 7, 7, 7, 7, 7, 7, 7, 7, 7, 7, 7, 7, 7, 7, 7, 7, 7, 7, 7, 7, 7, 7, 7, 7, 7, 8, 8, 8, 8, 8, 8, 8, 8, 8, 8, 8, 8, 8, 8, 8, 8, 8, 8, 8, 8, 8, 8, 8, 8, 8, 8, 8, 8, 8, 8, 8, 8, 8, 8, 8, 8, 8, 8, 8, 8, 8, 8, 8, 8, 8, 8, 8, 8, 8, 8, 8, 8, 8, 8, 8, 8, 8, 8, 8, 8, 8, 8, 8, 8, 8, 8, 8, 8, 8, 8, 8, 8, 8, 8, 8, 8, 8, 8, 8, 8, 8, 8, 8, 8, 8, 8, 8, 8, 8, 8, 8, 8, 8, 8, 8, 8, 8, 8, 8, 8, 8, 8, 8, 8, 8, 8, 8, 8, 8, 8, 8, 8, 8, 8, 8, 8, 8, 8, 8, 8, 8, 8, 8, 8, 8, 8, 8, 8]
def smallsT : List Nat := [48, 48, 48, 49, 48, 50, 48, 51, 48, 52, 48, 53, 48, 54, 48, 55, 48, 56, 48, 57, 49, 48, 49, 49, 49, 50, 49, 51, 49, 52, 49, 53, 49, 54, 49, 55, 49, 56, 49, 57, 50, 48, 50, 49, 50, 50, 50, 51, 50, 52, 50, 53, 50, 54, 50, 55, 50, 56, 50, 57, 51, 48, 51, 49, 51, 50, 51, 51, 51, 52, 51, 53, 51, 54, 51, 55, 51, 56, 51, 57, 52, 48, 52, 49, 52, 50, 52, 51, 52, 52, 52, 53, 52, 54, 52, 55, 52, 56, 52, 57, 53, 48, 53, 49, 53, 50, 53, 51, 53, 52, 53, 53, 53, 54, 53, 55, 53, 56, 53, 57, 54, 48, 54, 49, 54, 50, 54, 51, 54, 52, 54, 53, 54, 54, 54, 55, 54, 56, 54, 57, 55, 48, 55, 49, 55, 50, 55, 51, 55, 52, 55, 53, 55, 54, 55, 55, 55, 56, 55, 57, 56, 48, 56, 49, 56, 50, 56, 51, 56, 52, 56, 53, 56, 54, 56, 55, 56, 56, 56, 57, 57, 48, 57, 49, 57, 50, 57, 51, 57, 52, 57, 53, 57, 54, 57, 55, 57, 56, 57, 57]
def digT : List Nat := [48, 49, 50, 51, 52, 53, 54, 55, 56, 57, 97, 98, 99, 100, 101, 102, 103, 104, 105, 106, 107, 108, 109, 110, 111, 112, 113, 114, 115, 116, 117, 118, 119, 120, 121, 122]
def bl (x : Nat) : Nat := if x < 1 then 0 else if x < 2 then 1 else if x < 4 then 2 else if x < 8 then 3 else if x < 16 then 4 else if x < 32 then 5 else if x < 64 then 6 else if x < 128 then 7 else 8
theorem len8_all : (List.range 256).all (fun x => Nat.beq ((getL len8T x).getD 0) (bl x)) = true := by kernel_rfl
theorem len8_at (x : Nat) (h : x < 256) : (getL len8T x).getD 0 = bl x := Nat.eq_of_beq_eq_true (List.all_eq_true.1 len8_all x (List.mem_range.2 h))
theorem smalls_all : (List.range 100).all (fun r => Nat.beq ((getL smallsT (2 * r)).getD 0) (48 + r / 10) && Nat.beq ((getL smallsT (2 * r + 1)).getD 0) (48 + r % 10)) = true := by kernel_rfl
theorem smalls0 (r : Nat) (h : r < 100) : (getL smallsT (2 * r)).getD 0 = 48 + r / 10 := by
  have := List.all_eq_true.1 smalls_all r (List.mem_range.2 h)
  exact Nat.eq_of_beq_eq_true (Bool.and_eq_true _ _ ▸ this).1
theorem smalls1 (r : Nat) (h : r < 100) : (getL smallsT (2 * r + 1)).getD 0 = 48 + r % 10 := by
  have := List.all_eq_true.1 smalls_all r (List.mem_range.2 h)
  exact Nat.eq_of_beq_eq_true (Bool.and_eq_true _ _ ▸ this).2
theorem wrapU32 {n : Int} (h0 : 0 ≤ n) (h1 : n ≤ 4294967295) : IntKind.wrap .u32 n = n := by simp [IntKind.wrap, IntKind.bits, IntKind.signed]; omega
theorem wrapU8 {n : Int} (h0 : 0 ≤ n) (h1 : n ≤ 255) : IntKind.wrap .u8 n = n := by simp [IntKind.wrap, IntKind.bits, IntKind.signed]; omega
theorem wrapI32 {n : Int} (h0 : -2147483648 ≤ n) (h1 : n ≤ 2147483647) : IntKind.wrap .i32 n = n := by simp [IntKind.wrap, IntKind.bits, IntKind.signed]; split <;> omega
end Go.Proofs.YtmekaipcoghlfaaGreatDoor
end
noncomputable section
namespace Go.Proofs.YtmekaipcoghlfaaGreatDoor
open Go Go.Am Go.Proofs
theorem decode_at (l : List Nat) (i c : Nat) (h : l[i]? = some c) (hc : c < 128) : Utf8.decode ⟨(List.map UInt8.ofNat l).toArray⟩ i = (c, 1) := by
  obtain ⟨hlt, he⟩ := List.getElem?_eq_some_iff.1 h
  have hs : i < (⟨(List.map UInt8.ofNat l).toArray⟩ : ByteArray).size := by
    show i < (List.map UInt8.ofNat l).toArray.size
    simpa using hlt
  have hv : ((⟨(List.map UInt8.ofNat l).toArray⟩ : ByteArray)[i]'hs).toNat = c := by
    show ((List.map UInt8.ofNat l).toArray[i]'hs).toNat = c
    simp [he]
    omega
  rw [decode_ascii _ _ hs (by rw [hv]; exact hc), hv]
theorem eqNats_self : ∀ l : List Nat, eqNats l l = true
  | [] => rfl
  | a :: r => by
    unfold eqNats
    rw [eqNats_self r]
    simp
theorem eqNats_cons_ne {a b : Nat} (r s : List Nat) (h : a ≠ b) : eqNats (a :: r) (b :: s) = false := by
  unfold eqNats
  have : Nat.beq a b = false := by
    rcases hb : Nat.beq a b with _ | _
    · rfl
    · exact absurd (Nat.eq_of_beq_eq_true hb) h
  rw [this]; rfl
theorem find_hit {c : Int} (l : List Nat) (x : Nat) (r : List Nat) (hl : ∀ y ∈ l, ((y : Nat) : Int) ≠ c) (hx : ((x : Nat) : Int) = c) :
    List.findIdx? (fun (b : Nat) => (b : Int) == c) (l ++ x :: r) = some l.length := by
  induction l with
  | nil => simp [List.findIdx?_cons, hx]
  | cons a t ih =>
    have ha : ((a : Nat) : Int) ≠ c := hl a (List.mem_cons_self ..)
    have := ih fun y hy => hl y (List.mem_cons_of_mem _ hy)
    simp [List.findIdx?_cons, ha, this]
theorem find_none {c : Int} : ∀ (l : List Nat), (∀ y ∈ l, ((y : Nat) : Int) ≠ c) → List.findIdx? (fun (b : Nat) => (b : Int) == c) l = none
  | [], _ => rfl
  | a :: t, hl => by
    have ha : ((a : Nat) : Int) ≠ c := hl a (List.mem_cons_self ..)
    have := find_none t fun y hy => hl y (List.mem_cons_of_mem _ hy)
    simp [List.findIdx?_cons, ha, this]
theorem u8i {n : Int} (h0 : 0 ≤ n) (h1 : n < 256) : u8Nat (.int .u8 n) = some n.toNat := by
  simp [u8Nat, h0, h1]
theorem mapO_cons {a : AV} {n : Nat} {l : List AV} {r : List Nat} (h : u8Nat a = some n) (ht : mapO u8Nat l = some r) : mapO u8Nat (a :: l) = some (n :: r) := by
  unfold mapO
  rw [h, ht]
theorem mapO_nil : mapO u8Nat [] = some [] := rfl
end Go.Proofs.YtmekaipcoghlfaaGreatDoor
end
