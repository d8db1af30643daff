/-
  Part of the proof of TopDays: lemmas that the others lean on.
-/
import Derived.Test.YtmekaipcoghlfaaGreatDoorDf
import Derived.Test.YtmekaipcoghlfaaGreatDoorTb
set_option linter.all false
set_option linter.unusedVariables false
set_option linter.unusedSimpArgs false
noncomputable section
namespace Go.Proofs.YtmekaipcoghlfaaGreatDoor
open Go Go.Am Go.Proofs
/-! ## Digits -/
/-- The digits of a number, the highest first. -/
def dgs : Nat → Nat → List Nat
  | 0, _ => []
  | k + 1, n => dgs k (n / 10) ++ [n % 10]
theorem digs_dgs : ∀ k n, digs k n = (dgs k n).map (48 + ·)
  | 0, _ => rfl
  | k + 1, n => by rw [digs, dgs, List.map_append, digs_dgs k]; rfl
theorem dgs_length : ∀ k n, (dgs k n).length = k
  | 0, _ => rfl
  | k + 1, n => by rw [dgs, List.length_append, dgs_length k]; rfl
theorem dgs_le : ∀ k n, ∀ d ∈ dgs k n, d ≤ 9
  | 0, _, d, h => by simp [dgs] at h
  | k + 1, n, d, h => by
    rw [dgs, List.mem_append] at h
    rcases h with h | h
    · exact dgs_le k _ d h
    · rw [List.mem_singleton] at h
      omega
/-- The number of digits, behind a number. -/
def valL : Nat → List Nat → Nat
  | v, [] => v
  | v, d :: r => valL (v * 10 + d) r
def valD : List Nat → Nat
  | [] => 0
  | d :: r => valL d r
theorem valL_snoc : ∀ (l : List Nat) (v d : Nat), valL v (l ++ [d]) = valL v l * 10 + d
  | [], _, _ => rfl
  | a :: r, v, d => by rw [List.cons_append, valL, valL, valL_snoc r]
theorem valL_dgs : ∀ k n, n < 10 ^ k → valL 0 (dgs k n) = n
  | 0, n, h => by
    have : n = 0 := by simpa using h
    subst this
    rfl
  | k + 1, n, h => by
    rw [Nat.pow_succ] at h
    rw [dgs, valL_snoc, valL_dgs k (n / 10) (by omega)]
    omega
theorem valD_eq : ∀ l, valD l = valL 0 l
  | [] => rfl
  | d :: r => by rw [valD, valL, Nat.zero_mul, Nat.zero_add]
theorem valL_ge : ∀ (l : List Nat) (v : Nat), v ≤ valL v l
  | [], _ => Nat.le_refl _
  | d :: r, v => Nat.le_trans (by omega) (valL_ge r (v * 10 + d))
theorem dgs_head (n : Nat) : n ≠ 0 → ∃ d r, dgs (nd n) n = d :: r ∧ 1 ≤ d := by
  induction n using Nat.strongRecOn with
  | _ n ih =>
    intro hn
    rw [nd_pos hn, dgs]
    by_cases h : n / 10 = 0
    · rw [h, nd_zero]
      exact ⟨n % 10, [], rfl, by omega⟩
    · obtain ⟨d, r, h1, h2⟩ := ih (n / 10) (by omega) h
      exact ⟨d, r ++ [n % 10], by rw [h1]; rfl, h2⟩
theorem itoaL_eq {n : Nat} (h : n ≠ 0) : itoaL n = (dgs (nd n) n).map (48 + ·) := by
  unfold itoaL
  rw [nd_pos h, show max 1 (nd (n / 10) + 1) = nd (n / 10) + 1 by omega, digs_dgs]
theorem mapO_u8s : ∀ l : List Int, (∀ x ∈ l, 0 ≤ x ∧ x < 256) → mapO u8Nat (l.map fun x => AV.int .u8 x) = some (l.map Int.toNat)
  | [], _ => rfl
  | x :: r, h => mapO_cons (u8i (h x (List.mem_cons_self ..)).1 (h x (List.mem_cons_self ..)).2) (mapO_u8s r fun y hy => h y (List.mem_cons_of_mem _ hy))
/-- What is owed for a byte that is read, a digit. -/
def digOb (s : List Nat) (i c : Nat) (acc : List Prop) : List Prop :=
  (decide (((c : Nat) : Int) > 57) = false) :: (decide (((c : Nat) : Int) < 48) = false) :: (Utf8.decode ⟨(List.map UInt8.ofNat s).toArray⟩ i = (c, 1)) :: acc
theorem digOb_ok {s : List Nat} {i c : Nat} {acc : List Prop} (h1 : s[i]? = some c) (h2 : 48 ≤ c) (h3 : c ≤ 57) (h : AllP acc) : AllP (digOb s i c acc) :=
  ⟨decide_eq_false (by omega), decide_eq_false (by omega), decode_at _ _ _ h1 (by omega), h⟩
theorem nth_drop {s : List Nat} {d : Nat} {r : List Nat} {i : Nat} (h : ∀ k, s[i + k]? = (d :: r)[k]?) : s[i]? = some d ∧ ∀ k, s[i + 1 + k]? = r[k]? := by
  refine ⟨h 0, fun k => ?_⟩
  have := h (k + 1)
  rw [show i + (k + 1) = i + 1 + k by omega] at this
  exact this
/-! ## wide.Read -/
def wrN (d : Nat) : Int := IntKind.wrap .u64 (IntKind.wrap .i32 (((48 + d : Nat) : Int) - 48))
theorem wrN_eq {d : Nat} (h : d ≤ 9) : wrN d = (d : Int) := by
  unfold wrN
  rw [wrapI32 (by omega) (by omega), wrapU (by omega) (by omega)]
  omega
def wrR : List Nat → Nat → List Cmd
  | [], _ => []
  | d :: r, v => .auto 9 :: .nats [48 + d, 1] :: .auto 1 :: .br false :: .auto 2 :: .br false :: .auto 1 :: .ret (.tuple [.int .u64 0, AW (v * 10)]) [] :: .auto 5 :: .ret (.tuple [AW (v * 10 + d), .int .u64 0]) [] :: wrR r (v * 10 + d)
def wrS : List Nat → List Cmd
  | [] => []
  | d :: r => .auto 1 :: .br false :: .auto 2 :: .nats [48 + d, 1] :: .auto 1 :: .br false :: .auto 2 :: .br false :: .auto 14 :: .ret (.tuple [AW d, .int .u64 0]) [] :: wrR r d
def wrO (s : List Nat) : List Nat → Nat → Nat → List Prop → List Prop
  | [], _, _, acc => acc
  | d :: r, i, v, acc => wrO s r (i + 1) (v * 10 + d) (OK PR E1 434 [AW (v * 10), .agg [.int .u64 0, .int .u64 (wrN d)]] [] (.tuple [AW (v * 10 + d), .int .u64 0]) [] :: OK PR E1 48 [AW v, .int .u64 10] [] (.tuple [.int .u64 0, AW (v * 10)]) [] :: digOb s i (48 + d) acc)
def wrOb : List Nat → List Prop
  | [] => []
  | d :: r => wrO ((d :: r).map (48 + ·)) r 1 d (OK PR E1 434 [.agg [.int .u64 0, .int .u64 0], .agg [.int .u64 0, .int .u64 (wrN d)]] [] (.tuple [AW d, .int .u64 0]) [] :: digOb ((d :: r).map (48 + ·)) 0 (48 + d) [eqNats ((d :: r).map (48 + ·)) [] = false])
theorem wrO_ok (s : List Nat) : ∀ (r : List Nat) (i v : Nat) (acc : List Prop), AllP acc → (∀ k, s[i + k]? = (r.map (48 + ·))[k]?) → (∀ d ∈ r, d ≤ 9) → valL v r < 340282366920938463463374607431768211456 → AllP (wrO s r i v acc)
  | [], _, _, _, h, _, _, _ => h
  | d :: r, i, v, acc, h, hs, hd, hb => by
    obtain ⟨h1, h2⟩ := nth_drop hs
    have h3 := hd d (List.mem_cons_self ..)
    have hg := valL_ge r (v * 10 + d)
    rw [valL] at hb
    refine wrO_ok s r (i + 1) (v * 10 + d) _ ?_ h2 (fun d' hd' => hd d' (List.mem_cons_of_mem _ hd')) hb
    exact ⟨(addw (v * 10) d _ (wrN_eq h3) (by omega) (by omega)).e1, (mw10 v (by omega)).e1, digOb_ok h1 (by omega) (by omega) h⟩
theorem wrOb_ok : ∀ (ds : List Nat), (∀ d ∈ ds, d ≤ 9) → valD ds < 340282366920938463463374607431768211456 → AllP (wrOb ds)
  | [], _, _ => trivial
  | d :: r, hd, hb => by
    have h3 := hd d (List.mem_cons_self ..)
    refine wrO_ok ((d :: r).map (48 + ·)) r 1 d _ ?_ (fun k => by rw [Nat.add_comm 1 k]; rfl) (fun d' hd' => hd d' (List.mem_cons_of_mem _ hd')) hb
    exact ⟨(addz d _ (wrN_eq h3) (by omega)).e1, digOb_ok rfl (by omega) (by omega) ⟨rfl, trivial⟩⟩
theorem wr_run : ∀ (ds : List Nat), ds ≠ [] → ds.length ≤ 10 → ∀ h : Heap, doCall E1 K1 349 [.str (ds.map (48 + ·))] h 0 ⟨wrS ds, []⟩ = some (⟨.tuple [AW (valD ds), .bool true], [], []⟩, ⟨[], wrOb ds⟩)
  | [], H, _ => absurd rfl H
  | [a], _, _ => fun h => by kernel_rfl
  | [a, b], _, _ => fun h => by kernel_rfl
  | [a, b, c], _, _ => fun h => by kernel_rfl
  | [a, b, c, d], _, _ => fun h => by kernel_rfl
  | [a, b, c, d, e], _, _ => fun h => by kernel_rfl
  | [a, b, c, d, e, f], _, _ => fun h => by kernel_rfl
  | [a, b, c, d, e, f, g], _, _ => fun h => by kernel_rfl
  | [a, b, c, d, e, f, g, i], _, _ => fun h => by kernel_rfl
  | [a, b, c, d, e, f, g, i, j], _, _ => fun h => by kernel_rfl
  | [a, b, c, d, e, f, g, i, j, k], _, _ => fun h => by kernel_rfl
  | a :: b :: c :: d :: e :: f :: g :: i :: j :: k :: l :: zz, _, H => absurd H (by simp only [List.length_cons]; omega)
theorem wr_ok (ds : List Nat) (hne : ds ≠ []) (hl : ds.length ≤ 10) (hd : ∀ d ∈ ds, d ≤ 9) (hb : valD ds < 340282366920938463463374607431768211456) :
    Sm 349 [.str (ds.map (48 + ·))] (.tuple [AW (valD ds), .bool true]) :=
  .of1 (scr := wrS ds) (rest := []) (rd := []) (obs := wrOb ds) (wr_run ds hne hl) (wrOb_ok ds hd hb)
/-! ## numeral.Signed -/
def sgM : List Nat → Bool → List Cmd
  | [], _ => []
  | d :: r, first => (if first then [] else [.auto 2]) ++ .nats [48 + d, 1] :: .auto 1 :: .br false :: .auto 2 :: .br false :: sgM r false
def sgS (neg : Bool) (ds : List Nat) (n : Nat) : List Cmd :=
  (if neg then [.auto 23] else [.auto 12, .br false, .auto 9]) ++ [.br false, .auto 4, .val (.int .i64 (-1)), .auto 9, .br false, .auto 4, .val (.int .i64 (-1)), .auto 17] ++ sgM ds true ++
  [.auto 6, .br false, .auto 7, .br false, .auto 4, .val (.int .i64 (-1)), .auto 47, .br false, .auto 4, .val (.int .i64 (-1)), .auto 3, .br false, .auto 18, .br false, .auto 2, .br true, .ret (.tuple [AW n, .bool true]) [], .auto 2, .ret (.tuple [DA false n, .bool true]) []] ++
  (if neg then [.auto 14, .br true] else [])
def sgO (s : List Nat) : List Nat → Nat → List Prop → List Prop
  | [], _, acc => acc
  | d :: r, i, acc => sgO s r (i + 1) (digOb s i (48 + d) acc)
def sgT (s : List Nat) (acc : List Prop) : List Prop := (FI 46 s = -1) :: (eqNats [46] s = false) :: (FI 69 s = -1) :: (eqNats [69] s = false) :: acc
def sgOb (neg : Bool) (ds : List Nat) (n : Nat) : List Prop :=
  let s := ds.map (48 + ·)
  (if neg then [((((n / 18446744073709551616 : Nat) : Int)) == 0) = true] else []) ++
  OK PR E1 350 [.agg [.bool false, .int .u64 0, .int .u64 0, .int .u64 ((n / 18446744073709551616 : Nat) : Int), .int .u64 ((n % 18446744073709551616 : Nat) : Int), .int .i64 0, .bool false], .int .i64 1] [] (.tuple [DA false n, .bool true]) [] ::
  OK PR E1 349 [.str s] [] (.tuple [AW n, .bool true]) [] :: ((!(eqNats s [])) = true) :: ((((48 + ds.headD 0 : Nat) : Int) == 48) = false) :: (eqNats s [] = false) ::
  sgT s (((!(!(eqNats s []))) = false) :: sgO s ds 0 (sgT s (if neg then [] else [eqNats [48 + ds.headD 0] [45] = false])))
theorem sgO_ok (s : List Nat) : ∀ (r : List Nat) (i : Nat) (acc : List Prop), AllP acc → (∀ k, s[i + k]? = (r.map (48 + ·))[k]?) → (∀ d ∈ r, d ≤ 9) → AllP (sgO s r i acc)
  | [], _, _, h, _, _ => h
  | d :: r, i, acc, h, hs, hd => by
    obtain ⟨h1, h2⟩ := nth_drop hs
    have h3 := hd d (List.mem_cons_self ..)
    refine sgO_ok s r (i + 1) _ ?_ h2 (fun d' hd' => hd d' (List.mem_cons_of_mem _ hd'))
    exact digOb_ok h1 (by omega) (by omega) h
theorem FI_none {c : Int} {ds : List Nat} (hd : ∀ d ∈ ds, d ≤ 9) (hc : c < 48 ∨ 57 < c) : FI c (ds.map (48 + ·)) = -1 := by
  have e : List.findIdx? (fun (b : Nat) => (b : Int) == c) (ds.map (48 + ·)) = none := find_none _ fun y hy => by
    obtain ⟨d, h1, rfl⟩ := List.mem_map.1 hy
    have := hd d h1
    omega
  simp only [FI, e]
theorem sgT_ok {d : Nat} {r : List Nat} {acc : List Prop} (hd : ∀ x ∈ d :: r, x ≤ 9) (h : AllP acc) : AllP (sgT ((d :: r).map (48 + ·)) acc) := by
  have h3 := hd d (List.mem_cons_self ..)
  exact ⟨FI_none hd (by omega), eqNats_cons_ne _ _ (by show (46 : Nat) ≠ 48 + d; omega), FI_none hd (by omega), eqNats_cons_ne _ _ (by show (69 : Nat) ≠ 48 + d; omega), h⟩
theorem sgOb_ok (neg : Bool) (d : Nat) (r : List Nat) (n : Nat) (hd : ∀ x ∈ d :: r, x ≤ 9) (h1 : 1 ≤ d) (hl : (d :: r).length ≤ 10) (hn : valD (d :: r) = n) (hb : n < 18446744073709551616) : AllP (sgOb neg (d :: r) n) := by
  have h3 := hd d (List.mem_cons_self ..)
  have hr := wr_ok (d :: r) (by simp) hl hd (by rw [hn]; omega)
  rw [hn] at hr
  have hf := fit_ok false n (by omega)
  have tail : AllP (OK PR E1 350 [.agg [.bool false, .int .u64 0, .int .u64 0, .int .u64 ((n / 18446744073709551616 : Nat) : Int), .int .u64 ((n % 18446744073709551616 : Nat) : Int), .int .i64 0, .bool false], .int .i64 1] [] (.tuple [DA false n, .bool true]) [] ::
      OK PR E1 349 [.str ((d :: r).map (48 + ·))] [] (.tuple [AW n, .bool true]) [] :: ((!(eqNats ((d :: r).map (48 + ·)) [])) = true) :: ((((48 + (d :: r).headD 0 : Nat) : Int) == 48) = false) :: (eqNats ((d :: r).map (48 + ·)) [] = false) ::
      sgT ((d :: r).map (48 + ·)) (((!(!(eqNats ((d :: r).map (48 + ·)) []))) = false) :: sgO ((d :: r).map (48 + ·)) (d :: r) 0 (sgT ((d :: r).map (48 + ·)) (if neg then [] else [eqNats [48 + (d :: r).headD 0] [45] = false])))) := by
    refine ⟨hf.e1, hr.e1, rfl, beqF' (by show ((48 + d : Nat) : Int) ≠ 48; omega), rfl, sgT_ok hd ⟨rfl, sgO_ok _ (d :: r) 0 _ (sgT_ok hd ?_) (fun k => by rw [Nat.zero_add]) hd⟩⟩
    cases neg
    · exact ⟨eqNats_cons_ne _ _ (by show 48 + d ≠ 45; omega), trivial⟩
    · exact trivial
  cases neg
  · exact tail
  · exact ⟨beqT' (by omega), tail⟩
theorem sg_runF : ∀ (ds : List Nat) (N : Nat), ds ≠ [] → ds.length ≤ 10 → ∀ h : Heap, doCall E1 K1 173 [.str ((if false then [45] else []) ++ ds.map (48 + ·))] h 0 ⟨sgS false ds N, []⟩ = some (⟨.tuple [DA (if false then !((((N % 18446744073709551616 : Nat) : Int)) == 0) else false) N, .bool true], [], []⟩, ⟨[], sgOb false ds N⟩)
  | [], N, H, _ => absurd rfl H
  | [a], N, _, _ => fun h => by kernel_rfl
  | [a, b], N, _, _ => fun h => by kernel_rfl
  | [a, b, c], N, _, _ => fun h => by kernel_rfl
  | [a, b, c, d], N, _, _ => fun h => by kernel_rfl
  | [a, b, c, d, e], N, _, _ => fun h => by kernel_rfl
  | [a, b, c, d, e, f], N, _, _ => fun h => by kernel_rfl
  | [a, b, c, d, e, f, g], N, _, _ => fun h => by kernel_rfl
  | [a, b, c, d, e, f, g, i], N, _, _ => fun h => by kernel_rfl
  | [a, b, c, d, e, f, g, i, j], N, _, _ => fun h => by kernel_rfl
  | [a, b, c, d, e, f, g, i, j, k], N, _, _ => fun h => by kernel_rfl
  | a :: b :: c :: d :: e :: f :: g :: i :: j :: k :: l :: zz, N, _, H => absurd H (by simp only [List.length_cons]; omega)
theorem sg_runT : ∀ (ds : List Nat) (N : Nat), ds ≠ [] → ds.length ≤ 10 → ∀ h : Heap, doCall E1 K1 173 [.str ((if true then [45] else []) ++ ds.map (48 + ·))] h 0 ⟨sgS true ds N, []⟩ = some (⟨.tuple [DA (if true then !((((N % 18446744073709551616 : Nat) : Int)) == 0) else false) N, .bool true], [], []⟩, ⟨[], sgOb true ds N⟩)
  | [], N, H, _ => absurd rfl H
  | [a], N, _, _ => fun h => by kernel_rfl
  | [a, b], N, _, _ => fun h => by kernel_rfl
  | [a, b, c], N, _, _ => fun h => by kernel_rfl
  | [a, b, c, d], N, _, _ => fun h => by kernel_rfl
  | [a, b, c, d, e], N, _, _ => fun h => by kernel_rfl
  | [a, b, c, d, e, f], N, _, _ => fun h => by kernel_rfl
  | [a, b, c, d, e, f, g], N, _, _ => fun h => by kernel_rfl
  | [a, b, c, d, e, f, g, i], N, _, _ => fun h => by kernel_rfl
  | [a, b, c, d, e, f, g, i, j], N, _, _ => fun h => by kernel_rfl
  | [a, b, c, d, e, f, g, i, j, k], N, _, _ => fun h => by kernel_rfl
  | a :: b :: c :: d :: e :: f :: g :: i :: j :: k :: l :: zz, N, _, H => absurd H (by simp only [List.length_cons]; omega)
theorem sg_run (neg : Bool) (ds : List Nat) (n : Nat) (h1 : ds ≠ []) (h2 : ds.length ≤ 10) : ∀ h : Heap, doCall E1 K1 173 [.str ((if neg then [45] else []) ++ ds.map (48 + ·))] h 0 ⟨sgS neg ds n, []⟩ = some (⟨.tuple [DA (if neg then !((((n % 18446744073709551616 : Nat) : Int)) == 0) else false) n, .bool true], [], []⟩, ⟨[], sgOb neg ds n⟩) := by
  cases neg
  · exact sg_runF ds n h1 h2
  · exact sg_runT ds n h1 h2
theorem sg_ok (neg : Bool) (d : Nat) (r : List Nat) (n : Nat) (hd : ∀ x ∈ d :: r, x ≤ 9) (h1 : 1 ≤ d) (hl : (d :: r).length ≤ 10) (hn : valD (d :: r) = n) (hb : n < 18446744073709551616) :
    Sm 173 [.str ((if neg then [45] else []) ++ (d :: r).map (48 + ·))] (.tuple [DA (if neg then !((((n % 18446744073709551616 : Nat) : Int)) == 0) else false) n, .bool true]) :=
  .of1 (scr := sgS neg (d :: r) n) (rest := []) (rd := []) (obs := sgOb neg (d :: r) n) (sg_run neg (d :: r) n (by simp) hl) (sgOb_ok neg d r n hd h1 hl hn hb)
/-! ## wide.U.Text -/
def txC (a : Nat) : Int := IntKind.wrap .u8 (IntKind.wrap .u64 (48 + ((a % 10 : Nat) : Int)))
theorem txC_eq (a : Nat) : txC a = ((48 + a % 10 : Nat) : Int) := by
  unfold txC
  rw [wrapU (by omega) (by omega), wrapU8 (by omega) (by omega)]
  omega
def txL : Nat → Nat → List Int → List Int
  | 0, _, acc => acc
  | k + 1, a, acc => txL k (a / 10) (txC a :: acc)
def txR : Nat → Nat → Nat → List Nat → List Cmd
  | 0, _, _, L => [.auto 10, .br true, .auto 4, .br false, .auto 3, .nats L]
  | k + 1, c, a, L => .auto c :: .br true :: .auto 4 :: .br true :: .auto 1 :: .ret (.tuple [.agg [.int .u64 0, .int .u64 0], AW (a / 10), .int .u64 ((a % 10 : Nat) : Int), .bool true]) [] :: txR k 10 (a / 10) L
def txS (d n : Nat) : List Cmd := .auto 4 :: .br true :: .auto 4 :: .br false :: txR d 4 n ((txL d n []).map Int.toNat)
def txO : Nat → Nat → List Prop → List Prop
  | 0, a, acc => ((!((((a % 18446744073709551616 : Nat) : Int)) == 0)) = false) :: (((((a / 18446744073709551616 : Nat) : Int)) == 0) = true) :: acc
  | k + 1, a, acc => txO k (a / 10) (OK PR E1 93 [.agg [.int .u64 0, .int .u64 0], AW a, .int .u64 10] [] (.tuple [.agg [.int .u64 0, .int .u64 0], AW (a / 10), .int .u64 ((a % 10 : Nat) : Int), .bool true]) [] ::
      ((!((((a % 18446744073709551616 : Nat) : Int)) == 0)) = true) :: (((((a / 18446744073709551616 : Nat) : Int)) == 0) = true) :: acc)
def txOb (d n : Nat) : List Prop := (mapO u8Nat ((txL d n []).map fun x => AV.int .u8 x) = some ((txL d n []).map Int.toNat)) :: txO d n (((((n % 18446744073709551616 : Nat) : Int) == 0) = false) :: ((((n / 18446744073709551616 : Nat) : Int) == 0) = true) :: [])
theorem txL_mem : ∀ (k a : Nat) (acc : List Int), (∀ x ∈ acc, 0 ≤ x ∧ x < 256) → ∀ x ∈ txL k a acc, 0 ≤ x ∧ x < 256
  | 0, _, _, h => h
  | k + 1, a, acc, h => txL_mem k (a / 10) _ fun x hx => by
    rcases List.mem_cons.1 hx with rfl | hx
    · rw [txC_eq]; omega
    · exact h x hx
theorem txL_digs : ∀ (k a : Nat) (acc : List Int), (txL k a acc).map Int.toNat = digs k a ++ acc.map Int.toNat
  | 0, _, _ => rfl
  | k + 1, a, acc => by
    rw [txL, txL_digs k, digs, List.map_cons, txC_eq, Int.toNat_natCast, List.append_assoc]
    rfl
theorem txO_ok : ∀ (k a : Nat) (acc : List Prop), AllP acc → nd a = k → a < 18446744073709551616 → AllP (txO k a acc)
  | 0, a, acc, h, hk, ha => by
    have h0 : a = 0 := by
      by_cases h : a = 0
      · exact h
      · rw [nd_pos h] at hk
        omega
    subst h0
    refine ⟨?_, beqT' (by omega), h⟩
    rw [beqT' (by omega)]
    rfl
  | k + 1, a, acc, h, hk, ha => by
    have h0 : a ≠ 0 := by
      rintro rfl
      rw [nd_zero] at hk
      omega
    rw [nd_pos h0] at hk
    refine txO_ok k (a / 10) _ ?_ (by omega) (by omega)
    refine ⟨(dvw a (a / 10) (a % 10) rfl rfl (by omega)).e1, ?_, beqT' (by omega), h⟩
    rw [beqF' (by omega)]
    rfl
theorem tx_run : ∀ (d n : Nat), 1 ≤ d → d ≤ 10 → ∀ h : Heap, doCall E1 K1 65 [AW n] h 0 ⟨txS d n, []⟩ = some (⟨.str ((txL d n []).map Int.toNat), [], []⟩, ⟨[], txOb d n⟩)
  | 0, _, H, _ => absurd H (by decide)
  | 1, _, _, _ => fun h => by kernel_rfl
  | 2, _, _, _ => fun h => by kernel_rfl
  | 3, _, _, _ => fun h => by kernel_rfl
  | 4, _, _, _ => fun h => by kernel_rfl
  | 5, _, _, _ => fun h => by kernel_rfl
  | 6, _, _, _ => fun h => by kernel_rfl
  | 7, _, _, _ => fun h => by kernel_rfl
  | 8, _, _, _ => fun h => by kernel_rfl
  | 9, _, _, _ => fun h => by kernel_rfl
  | 10, _, _, _ => fun h => by kernel_rfl
  | zz + 11, _, _, H => absurd H (by omega)
theorem tx_ok (n : Nat) (h0 : n ≠ 0) (hl : nd n ≤ 10) (hb : n < 18446744073709551616) : Sm 65 [AW n] (.str (itoaL n)) := by
  have h1 : 1 ≤ nd n := by rw [nd_pos h0]; omega
  have hi : itoaL n = (txL (nd n) n []).map Int.toNat := by
    rw [txL_digs, itoaL, show max 1 (nd n) = nd n by omega]
    simp
  rw [hi]
  refine .of1 (scr := txS (nd n) n) (rest := []) (rd := []) (obs := txOb (nd n) n) (tx_run (nd n) n h1 hl) ⟨mapO_u8s _ (txL_mem _ _ _ (by simp)), txO_ok (nd n) n _ ?_ rfl hb⟩
  exact ⟨beqF' (by omega), beqT' (by omega), trivial⟩
/-! ## casuistref05.Itoa -/
def riG (c : Int) : Int := Int.tmod (IntKind.wrap .i64 (0 + c)) 10
def riC (c : Int) : Int := IntKind.wrap .i64 (Int.tdiv (IntKind.wrap .i64 (0 + c)) 10)
def riX (c : Int) : Int := IntKind.wrap .u8 (IntKind.wrap .i64 (48 + riG c))
def riU (neg : Bool) (n : Int) : Int := if neg then IntKind.wrap .u64 (IntKind.wrap .i64 (0 - n)) else IntKind.wrap .u64 n
def riA (u : Int) : Int := IntKind.wrap .i64 (Int.tmod u 4294967296)
def riL : Nat → Int → List Int → List Int
  | 0, _, acc => acc
  | k + 1, c, acc => riL k (riC c) (riX c :: acc)
def riI : Nat → Int → Int
  | 0, c => c
  | k + 1, c => riI k (riC c)
def riR : Nat → List Cmd
  | 0 => []
  | k + 1 => .auto 15 :: .br (Nat.blt 0 k) :: riR k
def riS (neg : Bool) (d : Nat) (c : Int) : List Cmd := [.auto 1, .br neg, .auto 10, .br false, .auto 20, .br true] ++ riR d ++ [.auto 11, .br false, .auto (9 + 6 * d), .nats ((riL d c []).map Int.toNat)]
def riO : Nat → Int → List Prop → List Prop
  | 0, c, acc => (decide (c > 0) = false) :: acc
  | k + 1, c, acc => riO k (riC c) ((decide (c > 0) = true) :: acc)
def riOb (neg : Bool) (d : Nat) (n : Int) : List Prop :=
  (mapO u8Nat ((riL d (riA (riU neg n)) []).map fun x => AV.int .u8 x) = some ((riL d (riA (riU neg n)) []).map Int.toNat)) ::
  ((riG (riI (d - 1) (riA (riU neg n))) == 0) = false) :: riO d (riA (riU neg n)) ((decide (IntKind.wrap .i64 (Int.fdiv (riU neg n) (2 ^ 32)) > 0) = false) :: (decide (n < 0) = neg) :: [])
theorem riG_eq {a : Nat} (h : a < 4294967296) : riG (a : Int) = ((a % 10 : Nat) : Int) := by
  unfold riG
  rw [wrapI (by omega) (by omega), tmodI (by omega) (by omega)]
  omega
theorem riC_eq {a : Nat} (h : a < 4294967296) : riC (a : Int) = ((a / 10 : Nat) : Int) := by
  unfold riC
  rw [wrapI (n := 0 + (a : Int)) (by omega) (by omega), Int.tdiv_eq_ediv_of_nonneg (by omega), wrapI (by omega) (by omega)]
  omega
theorem riX_eq {a : Nat} (h : a < 4294967296) : riX (a : Int) = ((48 + a % 10 : Nat) : Int) := by
  unfold riX
  rw [riG_eq h, wrapI (by omega) (by omega), wrapU8 (by omega) (by omega)]
  omega
theorem riU_eq (neg : Bool) (m : Nat) (h : m < 4294967296) : riU neg (if neg then -(m : Int) else (m : Int)) = (m : Int) := by
  cases neg
  · show IntKind.wrap .u64 (m : Int) = (m : Int)
    exact wrapU (by omega) (by omega)
  · show IntKind.wrap .u64 (IntKind.wrap .i64 (0 - -(m : Int))) = _
    rw [wrapI (by omega) (by omega), wrapU (by omega) (by omega)]
    omega
theorem riA_eq {m : Nat} (h : m < 4294967296) : riA (m : Int) = (m : Int) := by
  unfold riA
  rw [tmodI (by omega) (by omega), wrapI (by omega) (by omega)]
  omega
theorem riL_mem : ∀ (k a : Nat) (acc : List Int), a < 4294967296 → (∀ x ∈ acc, 0 ≤ x ∧ x < 256) → ∀ x ∈ riL k (a : Int) acc, 0 ≤ x ∧ x < 256
  | 0, _, _, _, h => h
  | k + 1, a, acc, ha, h => by
    rw [riL, riC_eq ha]
    refine riL_mem k (a / 10) _ (by omega) fun x hx => ?_
    rcases List.mem_cons.1 hx with rfl | hx
    · rw [riX_eq ha]; omega
    · exact h x hx
theorem riL_digs : ∀ (k a : Nat) (acc : List Int), a < 4294967296 → (riL k (a : Int) acc).map Int.toNat = digs k a ++ acc.map Int.toNat
  | 0, _, _, _ => rfl
  | k + 1, a, acc, ha => by
    rw [riL, riC_eq ha, riL_digs k _ _ (by omega), digs, List.map_cons, riX_eq ha, Int.toNat_natCast, List.append_assoc]
    rfl
theorem riO_ok : ∀ (k a : Nat) (acc : List Prop), AllP acc → nd a = k → a < 4294967296 → AllP (riO k (a : Int) acc)
  | 0, a, acc, h, hk, ha => by
    have h0 : a = 0 := by
      by_cases h : a = 0
      · exact h
      · rw [nd_pos h] at hk
        omega
    subst h0
    exact ⟨decide_eq_false (by omega), h⟩
  | k + 1, a, acc, h, hk, ha => by
    have h0 : a ≠ 0 := by
      rintro rfl
      rw [nd_zero] at hk
      omega
    rw [nd_pos h0] at hk
    rw [riO, riC_eq ha]
    refine riO_ok k (a / 10) _ ?_ (by omega) (by omega)
    exact ⟨decide_eq_true (by omega), h⟩
theorem riI_ne : ∀ (k a : Nat), a < 4294967296 → nd a = k + 1 → riG (riI k (a : Int)) ≠ 0
  | 0, a, ha, hk => by
    have h0 : a ≠ 0 := by
      rintro rfl
      rw [nd_zero] at hk
      omega
    rw [nd_pos h0] at hk
    have h1 : a / 10 = 0 := by
      by_cases h : a / 10 = 0
      · exact h
      · rw [nd_pos h] at hk
        omega
    rw [riI, riG_eq ha]
    omega
  | k + 1, a, ha, hk => by
    have h0 : a ≠ 0 := by
      rintro rfl
      rw [nd_zero] at hk
      omega
    rw [nd_pos h0] at hk
    rw [riI, riC_eq ha]
    exact riI_ne k (a / 10) (by omega) (by omega)
theorem ri_runF : ∀ (d : Nat) (n : Int), 1 ≤ d → d ≤ 10 → ∀ h : Heap, doCall E1 K1 21 [.int .i64 n] h 0 ⟨riS false d (riA (riU false n)), []⟩ = some (⟨.str ((if false then [45] else []) ++ (riL d (riA (riU false n)) []).map Int.toNat), [], []⟩, ⟨[], riOb false d n⟩)
  | 0, _, H, _ => absurd H (by decide)
  | 1, _, _, _ => fun h => by kernel_rfl
  | 2, _, _, _ => fun h => by kernel_rfl
  | 3, _, _, _ => fun h => by kernel_rfl
  | 4, _, _, _ => fun h => by kernel_rfl
  | 5, _, _, _ => fun h => by kernel_rfl
  | 6, _, _, _ => fun h => by kernel_rfl
  | 7, _, _, _ => fun h => by kernel_rfl
  | 8, _, _, _ => fun h => by kernel_rfl
  | 9, _, _, _ => fun h => by kernel_rfl
  | 10, _, _, _ => fun h => by kernel_rfl
  | zz + 11, _, _, H => absurd H (by omega)
theorem ri_runT : ∀ (d : Nat) (n : Int), 1 ≤ d → d ≤ 10 → ∀ h : Heap, doCall E1 K1 21 [.int .i64 n] h 0 ⟨riS true d (riA (riU true n)), []⟩ = some (⟨.str ((if true then [45] else []) ++ (riL d (riA (riU true n)) []).map Int.toNat), [], []⟩, ⟨[], riOb true d n⟩)
  | 0, _, H, _ => absurd H (by decide)
  | 1, _, _, _ => fun h => by kernel_rfl
  | 2, _, _, _ => fun h => by kernel_rfl
  | 3, _, _, _ => fun h => by kernel_rfl
  | 4, _, _, _ => fun h => by kernel_rfl
  | 5, _, _, _ => fun h => by kernel_rfl
  | 6, _, _, _ => fun h => by kernel_rfl
  | 7, _, _, _ => fun h => by kernel_rfl
  | 8, _, _, _ => fun h => by kernel_rfl
  | 9, _, _, _ => fun h => by kernel_rfl
  | 10, _, _, _ => fun h => by kernel_rfl
  | zz + 11, _, _, H => absurd H (by omega)
theorem ri_run (d : Nat) (neg : Bool) (n : Int) (h1 : 1 ≤ d) (h2 : d ≤ 10) : ∀ h : Heap, doCall E1 K1 21 [.int .i64 n] h 0 ⟨riS neg d (riA (riU neg n)), []⟩ = some (⟨.str ((if neg then [45] else []) ++ (riL d (riA (riU neg n)) []).map Int.toNat), [], []⟩, ⟨[], riOb neg d n⟩) := by
  cases neg
  · exact ri_runF d n h1 h2
  · exact ri_runT d n h1 h2
theorem ri_ok (neg : Bool) (m : Nat) (h0 : m ≠ 0) (hb : m < 4294967296) : Sm 21 [.int .i64 (if neg then -(m : Int) else (m : Int))] (.str ((if neg then [45] else []) ++ itoaL m)) := by
  have h1 : 1 ≤ nd m := by rw [nd_pos h0]; omega
  have hl : nd m ≤ 10 := nd_lt (by omega)
  have hu := riU_eq neg m hb
  have hA := riA_eq hb
  have hi : itoaL m = (riL (nd m) (riA (riU neg (if neg then -(m : Int) else (m : Int)))) []).map Int.toNat := by
    rw [hu, hA, riL_digs _ _ _ hb, itoaL, show max 1 (nd m) = nd m by omega]
    simp
  rw [hi]
  refine .of1 (scr := riS neg (nd m) (riA (riU neg (if neg then -(m : Int) else (m : Int))))) (rest := []) (rd := []) (obs := riOb neg (nd m) (if neg then -(m : Int) else (m : Int))) (ri_run (nd m) neg _ h1 hl) ?_
  unfold riOb
  rw [hu, hA]
  have hlast := riI_ne (nd m - 1) m hb (by omega)
  have hf : Int.fdiv (m : Int) (2 ^ 32) = (m : Int) / 4294967296 := (Int.fdiv_eq_ediv_of_nonneg _ (by decide)).trans rfl
  refine ⟨mapO_u8s _ (riL_mem _ _ _ hb (by simp)), beqF' hlast, riO_ok (nd m) m _ ?_ rfl hb⟩
  rw [hf, wrapI (by omega) (by omega)]
  refine ⟨decide_eq_false (by omega), ?_, trivial⟩
  cases neg
  · exact decide_eq_false (by show ¬ ((m : Int) < 0); omega)
  · exact decide_eq_true (by show -(m : Int) < 0; omega)
/-! ## kinds.Quote -/
def quC (y : Nat) : Int := IntKind.wrap .u8 ((y : Nat) : Int)
def quM : List Nat → Bool → List Cmd
  | [], _ => []
  | y :: r, first => (if first then [] else [.auto 6]) ++ .nats [y, 1] :: .auto 1 :: .br false :: .br false :: .br false :: .br false :: .br false :: .auto 9 :: .br true :: quM r false
def quL (s : List Nat) : List Int := 34 :: s.map quC ++ [34]
def quS (s : List Nat) : List Cmd := .auto 13 :: quM s true ++ [.auto 24, .nats ((quL s).map Int.toNat)]
def quO (s : List Nat) : List Nat → Nat → List Prop → List Prop
  | [], _, acc => acc
  | y :: r, i, acc => quO s r (i + 1) ((decide (IntKind.wrap .u32 ((y : Nat) : Int) ≤ 127) = true) :: ((((y : Nat) : Int) == 9) = false) :: ((((y : Nat) : Int) == 13) = false) :: ((((y : Nat) : Int) == 10) = false) :: ((((y : Nat) : Int) == 92) = false) :: ((((y : Nat) : Int) == 34) = false) ::
      (Utf8.decode ⟨(List.map UInt8.ofNat s).toArray⟩ i = (y, 1)) :: acc)
def quOb (s : List Nat) : List Prop := (mapO u8Nat ((quL s).map fun x => AV.int .u8 x) = some ((quL s).map Int.toNat)) :: quO s s 0 []
theorem quC_eq {y : Nat} (h : y ≤ 255) : quC y = (y : Int) := wrapU8 (by omega) (by omega)
theorem quL_eq {s : List Nat} (h : ∀ y ∈ s, y ≤ 255) : (quL s).map Int.toNat = [34] ++ s ++ [34] := by
  have : (s.map quC).map Int.toNat = s := by
    rw [List.map_map]
    conv => rhs; rw [← List.map_id s]
    refine List.map_congr_left fun y hy => ?_
    show (quC y).toNat = y
    rw [quC_eq (h y hy), Int.toNat_natCast]
  unfold quL
  simp only [List.map_cons, List.map_append, List.map_nil, this, List.cons_append, List.nil_append] <;> rfl
theorem quO_ok (s : List Nat) : ∀ (r : List Nat) (i : Nat) (acc : List Prop), AllP acc → (∀ k, s[i + k]? = r[k]?) → (∀ y ∈ r, 35 ≤ y ∧ y ≤ 91) → AllP (quO s r i acc)
  | [], _, _, h, _, _ => h
  | y :: r, i, acc, h, hs, hd => by
    obtain ⟨h1, h2⟩ := nth_drop hs
    have h3 := hd y (List.mem_cons_self ..)
    refine quO_ok s r (i + 1) _ ?_ h2 (fun x hx => hd x (List.mem_cons_of_mem _ hx))
    exact ⟨decide_eq_true (by rw [wrapU32 (by omega) (by omega)]; omega), beqF' (by omega), beqF' (by omega), beqF' (by omega), beqF' (by omega), beqF' (by omega), decode_at _ _ _ h1 (by omega), h⟩
theorem qu_run : ∀ (s : List Nat), 10 ≤ s.length → s.length ≤ 16 → ∀ h : Heap, doCall E1 K1 64 [.str s] h 0 ⟨quS s, []⟩ = some (⟨.str ((quL s).map Int.toNat), [], []⟩, ⟨[], quOb s⟩)
  | [], H, _ => absurd H (by simp)
  | [a], H, _ => absurd H (by simp)
  | [a, b], H, _ => absurd H (by simp)
  | [a, b, c], H, _ => absurd H (by simp)
  | [a, b, c, d], H, _ => absurd H (by simp)
  | [a, b, c, d, e], H, _ => absurd H (by simp)
  | [a, b, c, d, e, f], H, _ => absurd H (by simp)
  | [a, b, c, d, e, f, g], H, _ => absurd H (by simp)
  | [a, b, c, d, e, f, g, i], H, _ => absurd H (by simp)
  | [a, b, c, d, e, f, g, i, j], H, _ => absurd H (by simp)
  | [a, b, c, d, e, f, g, i, j, k], _, _ => fun h => by kernel_rfl
  | [a, b, c, d, e, f, g, i, j, k, l], _, _ => fun h => by kernel_rfl
  | [a, b, c, d, e, f, g, i, j, k, l, m], _, _ => fun h => by kernel_rfl
  | [a, b, c, d, e, f, g, i, j, k, l, m, n], _, _ => fun h => by kernel_rfl
  | [a, b, c, d, e, f, g, i, j, k, l, m, n, o], _, _ => fun h => by kernel_rfl
  | [a, b, c, d, e, f, g, i, j, k, l, m, n, o, p], _, _ => fun h => by kernel_rfl
  | [a, b, c, d, e, f, g, i, j, k, l, m, n, o, p, q], _, _ => fun h => by kernel_rfl
  | a :: b :: c :: d :: e :: f :: g :: i :: j :: k :: l :: m :: n :: o :: p :: q :: r :: zz, _, H => absurd H (by simp only [List.length_cons]; omega)
theorem qu_ok (s : List Nat) (h1 : 10 ≤ s.length) (h2 : s.length ≤ 16) (hd : ∀ y ∈ s, 35 ≤ y ∧ y ≤ 91) : Sm 64 [.str s] (.str ([34] ++ s ++ [34])) := by
  rw [← quL_eq fun y hy => by have := hd y hy; omega]
  refine .of1 (scr := quS s) (rest := []) (rd := []) (obs := quOb s) (qu_run s h1 h2) ⟨mapO_u8s _ fun x hx => ?_, quO_ok s s 0 [] trivial (fun k => by rw [Nat.zero_add]) hd⟩
  unfold quL at hx
  simp only [List.cons_append, List.mem_cons, List.mem_append, List.mem_map, List.not_mem_nil, or_false] at hx
  rcases hx with rfl | ⟨y, hy, rfl⟩ | rfl
  · decide
  · have := hd y hy
    rw [quC_eq (by omega)]
    omega
  · decide
/-! ## lexical.ReadDate -/
def rdV : Int → List Nat → Int
  | v, [] => v
  | v, c :: r => rdV (IntKind.wrap .i64 (IntKind.wrap .i64 (10 * v) + IntKind.wrap .i64 (IntKind.wrap .i32 (((c : Nat) : Int) - 48)))) r
def rdM : List Nat → Bool → List Cmd
  | [], _ => []
  | c :: r, first => (if first then [] else [.auto 2]) ++ .nats [c, 1] :: .auto 1 :: .br false :: .auto 2 :: .br false :: rdM r false
def rdO (s : List Nat) : List Nat → Nat → List Prop → List Prop
  | [], _, acc => acc
  | c :: r, i, acc => rdO s r (i + 1) (digOb s i c acc)
def rdT (ys : List Nat) (m0 m1 d0 d1 : Nat) : List Nat := ys ++ [45, m0, m1, 45, d0, d1]
def rdS (neg : Bool) (ys : List Nat) (m0 m1 d0 d1 : Nat) : List Cmd :=
  (if neg then [.auto 24] else [.auto 12, .br false, .auto 10]) ++ [.val (.int .i64 2), .auto 9, .br false, .auto 4, .val (.int .i64 (ys.length : Nat)), .auto 13, .br false, .auto 4, .val (.int .i64 2), .auto 23] ++
  rdM ys true ++ [.auto 14] ++ rdM [m0, m1] true ++ [.auto 14] ++ rdM [d0, d1] true ++ (if neg then [.auto 15] else [.auto 4, .br false, .auto 10]) ++
  [.ret (.str ((if neg then [45] else []) ++ rdT ys m0 m1 d0 d1)) [], .auto 3, .br false]
def rdY (neg : Bool) (ys : List Nat) : Int := if neg then IntKind.wrap .i64 (0 - rdV 0 ys) else rdV 0 ys
def rdDt (neg : Bool) (ys : List Nat) (m0 m1 d0 d1 : Nat) : AV := .agg [.int .i64 (rdY neg ys), .int .i64 (rdV 0 [m0, m1]), .int .i64 (rdV 0 [d0, d1])]
def rdOb (neg : Bool) (ys : List Nat) (m0 m1 d0 d1 : Nat) : List Prop :=
  let t := rdT ys m0 m1 d0 d1
  let s := (if neg then [45] else []) ++ t
  ((!(eqNats s s)) = false) :: OK PR E1 20 [rdDt neg ys m0 m1 d0 d1] [] (.str s) [] :: ((if neg then [] else [(((ys.headD 0 : Nat) : Int) == 45) = false]) ++
  rdO [d0, d1] [d0, d1] 0 (rdO [m0, m1] [m0, m1] 0 (rdO ys ys 0 ((FI 45 [m0, m1, 45, d0, d1] = 2) :: (eqNats [45] [m0, m1, 45, d0, d1] = false) :: (FI 45 t = (ys.length : Nat)) :: (eqNats [45] t = false) ::
    ((((List.filter (fun (b : Nat) => (b : Int) == 45) t).length : Nat) : Int) = 2) :: (if neg then [] else [eqNats [ys.headD 0] [45] = false])))))
theorem rdO_ok (s : List Nat) : ∀ (r : List Nat) (i : Nat) (acc : List Prop), AllP acc → (∀ k, s[i + k]? = r[k]?) → (∀ y ∈ r, 48 ≤ y ∧ y ≤ 57) → AllP (rdO s r i acc)
  | [], _, _, h, _, _ => h
  | c :: r, i, acc, h, hs, hd => by
    obtain ⟨h1, h2⟩ := nth_drop hs
    have h3 := hd c (List.mem_cons_self ..)
    refine rdO_ok s r (i + 1) _ ?_ h2 (fun x hx => hd x (List.mem_cons_of_mem _ hx))
    exact digOb_ok h1 (by omega) (by omega) h
theorem fil_no {a : Nat} {t : List Nat} (h : ((a : Nat) : Int) ≠ 45) : List.filter (fun (b : Nat) => (b : Int) == 45) (a :: t) = List.filter (fun (b : Nat) => (b : Int) == 45) t := by
  rw [List.filter_cons, beqF' h]
  rfl
theorem fil_yes {t : List Nat} : List.filter (fun (b : Nat) => (b : Int) == 45) (45 :: t) = 45 :: List.filter (fun (b : Nat) => (b : Int) == 45) t := rfl
theorem fil_none : ∀ (l : List Nat), (∀ y ∈ l, ((y : Nat) : Int) ≠ 45) → List.filter (fun (b : Nat) => (b : Int) == 45) l = []
  | [], _ => rfl
  | a :: t, h => by
    rw [fil_no (h a (List.mem_cons_self ..)), fil_none t fun y hy => h y (List.mem_cons_of_mem _ hy)]
theorem FI_hit (l r : List Nat) (hl : ∀ y ∈ l, 48 ≤ y ∧ y ≤ 57) : FI 45 (l ++ 45 :: r) = (l.length : Nat) := by
  have e : List.findIdx? (fun (b : Nat) => (b : Int) == 45) (l ++ 45 :: r) = some l.length := find_hit (c := 45) l 45 r (fun y hy => by have := hl y hy; omega) rfl
  simp only [FI, e]
theorem rdOb_ok (neg : Bool) (y0 : Nat) (yr : List Nat) (m0 m1 d0 d1 : Nat) (hy : ∀ y ∈ y0 :: yr, 48 ≤ y ∧ y ≤ 57) (hm0 : 48 ≤ m0 ∧ m0 ≤ 57) (hm1 : 48 ≤ m1 ∧ m1 ≤ 57) (hd0 : 48 ≤ d0 ∧ d0 ≤ 57) (hd1 : 48 ≤ d1 ∧ d1 ≤ 57)
    (hD : Sm 20 [rdDt neg (y0 :: yr) m0 m1 d0 d1] (.str ((if neg then [45] else []) ++ rdT (y0 :: yr) m0 m1 d0 d1))) : AllP (rdOb neg (y0 :: yr) m0 m1 d0 d1) := by
  have h0 := hy y0 (List.mem_cons_self ..)
  have two : ∀ {a b : Nat}, (48 ≤ a ∧ a ≤ 57) → (48 ≤ b ∧ b ≤ 57) → ∀ y ∈ [a, b], 48 ≤ y ∧ y ≤ 57 := by
    intro a b ha hb y hy
    simp only [List.mem_cons, List.not_mem_nil, or_false] at hy
    rcases hy with rfl | rfl
    · exact ha
    · exact hb
  have hf1 : FI 45 [m0, m1, 45, d0, d1] = 2 := FI_hit [m0, m1] [d0, d1] (two hm0 hm1)
  have hf2 : FI 45 (rdT (y0 :: yr) m0 m1 d0 d1) = ((y0 :: yr).length : Nat) := FI_hit (y0 :: yr) [m0, m1, 45, d0, d1] hy
  have hc : (((List.filter (fun (b : Nat) => (b : Int) == 45) (rdT (y0 :: yr) m0 m1 d0 d1)).length : Nat) : Int) = 2 := by
    unfold rdT
    rw [List.filter_append, fil_none (y0 :: yr) (fun y h => by have := hy y h; omega), fil_yes, fil_no (by omega), fil_no (by omega), fil_yes, fil_no (by omega), fil_no (by omega)]
    rfl
  have core : AllP (rdO [d0, d1] [d0, d1] 0 (rdO [m0, m1] [m0, m1] 0 (rdO (y0 :: yr) (y0 :: yr) 0 ((FI 45 [m0, m1, 45, d0, d1] = 2) :: (eqNats [45] [m0, m1, 45, d0, d1] = false) :: (FI 45 (rdT (y0 :: yr) m0 m1 d0 d1) = ((y0 :: yr).length : Nat)) :: (eqNats [45] (rdT (y0 :: yr) m0 m1 d0 d1) = false) ::
    ((((List.filter (fun (b : Nat) => (b : Int) == 45) (rdT (y0 :: yr) m0 m1 d0 d1)).length : Nat) : Int) = 2) :: (if neg then [] else [eqNats [(y0 :: yr).headD 0] [45] = false]))))) := by
    refine rdO_ok _ _ 0 _ (rdO_ok _ _ 0 _ (rdO_ok _ _ 0 _ ⟨hf1, eqNats_cons_ne _ _ (by omega), hf2, eqNats_cons_ne _ _ (by omega), hc, ?_⟩ (fun k => by rw [Nat.zero_add]) hy) (fun k => by rw [Nat.zero_add]) (two hm0 hm1)) (fun k => by rw [Nat.zero_add]) (two hd0 hd1)
    cases neg
    · exact ⟨eqNats_cons_ne _ _ (by show y0 ≠ 45; omega), trivial⟩
    · exact trivial
  refine ⟨by rw [eqNats_self]; rfl, hD.e1, ?_⟩
  cases neg
  · exact ⟨beqF' (by show ((y0 : Nat) : Int) ≠ 45; omega), core⟩
  · exact core
theorem rdV_eq : ∀ (l : List Nat) (v : Nat), (∀ y ∈ l, 48 ≤ y ∧ y ≤ 57) → valL v (l.map (· - 48)) < 1000000000000000000 → rdV (v : Int) l = (valL v (l.map (· - 48)) : Nat)
  | [], _, _, _ => rfl
  | c :: r, v, h, hb => by
    have h3 := h c (List.mem_cons_self ..)
    have hg := valL_ge (r.map (· - 48)) (v * 10 + (c - 48))
    rw [List.map_cons, valL] at hb ⊢
    rw [rdV, wrapI32 (by omega) (by omega), wrapI (n := (c : Int) - 48) (by omega) (by omega), wrapI (n := 10 * (v : Int)) (by omega) (by omega), wrapI (by omega) (by omega), show 10 * (v : Int) + ((c : Int) - 48) = ((v * 10 + (c - 48) : Nat) : Int) by omega]
    exact rdV_eq r _ (fun y hy => h y (List.mem_cons_of_mem _ hy)) hb
theorem rd_runF (m0 m1 d0 d1 : Nat) : ∀ (ys : List Nat), 4 ≤ ys.length → ys.length ≤ 9 → ∀ h : Heap, doCall E1 K1 175 [.str ((if false then [45] else []) ++ rdT ys m0 m1 d0 d1)] h 0 ⟨rdS false ys m0 m1 d0 d1, []⟩ = some (⟨.tuple [rdDt false ys m0 m1 d0 d1, .bool true], [], []⟩, ⟨[], rdOb false ys m0 m1 d0 d1⟩)
  | [], H, _ => absurd H (by simp)
  | [a], H, _ => absurd H (by simp)
  | [a, b], H, _ => absurd H (by simp)
  | [a, b, c], H, _ => absurd H (by simp)
  | [a, b, c, d], _, _ => fun h => by kernel_rfl
  | [a, b, c, d, e], _, _ => fun h => by kernel_rfl
  | [a, b, c, d, e, f], _, _ => fun h => by kernel_rfl
  | [a, b, c, d, e, f, g], _, _ => fun h => by kernel_rfl
  | [a, b, c, d, e, f, g, i], _, _ => fun h => by kernel_rfl
  | [a, b, c, d, e, f, g, i, j], _, _ => fun h => by kernel_rfl
  | a :: b :: c :: d :: e :: f :: g :: i :: j :: k :: zz, _, H => absurd H (by simp only [List.length_cons]; omega)
theorem rd_runT (m0 m1 d0 d1 : Nat) : ∀ (ys : List Nat), 4 ≤ ys.length → ys.length ≤ 9 → ∀ h : Heap, doCall E1 K1 175 [.str ((if true then [45] else []) ++ rdT ys m0 m1 d0 d1)] h 0 ⟨rdS true ys m0 m1 d0 d1, []⟩ = some (⟨.tuple [rdDt true ys m0 m1 d0 d1, .bool true], [], []⟩, ⟨[], rdOb true ys m0 m1 d0 d1⟩)
  | [], H, _ => absurd H (by simp)
  | [a], H, _ => absurd H (by simp)
  | [a, b], H, _ => absurd H (by simp)
  | [a, b, c], H, _ => absurd H (by simp)
  | [a, b, c, d], _, _ => fun h => by kernel_rfl
  | [a, b, c, d, e], _, _ => fun h => by kernel_rfl
  | [a, b, c, d, e, f], _, _ => fun h => by kernel_rfl
  | [a, b, c, d, e, f, g], _, _ => fun h => by kernel_rfl
  | [a, b, c, d, e, f, g, i], _, _ => fun h => by kernel_rfl
  | [a, b, c, d, e, f, g, i, j], _, _ => fun h => by kernel_rfl
  | a :: b :: c :: d :: e :: f :: g :: i :: j :: k :: zz, _, H => absurd H (by simp only [List.length_cons]; omega)
theorem rd_run (neg : Bool) (ys : List Nat) (m0 m1 d0 d1 : Nat) (h1 : 4 ≤ ys.length) (h2 : ys.length ≤ 9) : ∀ h : Heap, doCall E1 K1 175 [.str ((if neg then [45] else []) ++ rdT ys m0 m1 d0 d1)] h 0 ⟨rdS neg ys m0 m1 d0 d1, []⟩ = some (⟨.tuple [rdDt neg ys m0 m1 d0 d1, .bool true], [], []⟩, ⟨[], rdOb neg ys m0 m1 d0 d1⟩) := by
  cases neg
  · exact rd_runF m0 m1 d0 d1 ys h1 h2
  · exact rd_runT m0 m1 d0 d1 ys h1 h2
theorem rd_ok (neg : Bool) (y0 : Nat) (yr : List Nat) (m0 m1 d0 d1 : Nat) (h1 : 4 ≤ (y0 :: yr).length) (h2 : (y0 :: yr).length ≤ 9) (hy : ∀ y ∈ y0 :: yr, 48 ≤ y ∧ y ≤ 57) (hm0 : 48 ≤ m0 ∧ m0 ≤ 57) (hm1 : 48 ≤ m1 ∧ m1 ≤ 57) (hd0 : 48 ≤ d0 ∧ d0 ≤ 57) (hd1 : 48 ≤ d1 ∧ d1 ≤ 57)
    (hD : Sm 20 [rdDt neg (y0 :: yr) m0 m1 d0 d1] (.str ((if neg then [45] else []) ++ rdT (y0 :: yr) m0 m1 d0 d1))) :
    Sm 175 [.str ((if neg then [45] else []) ++ rdT (y0 :: yr) m0 m1 d0 d1)] (.tuple [rdDt neg (y0 :: yr) m0 m1 d0 d1, .bool true]) :=
  .of1 (scr := rdS neg (y0 :: yr) m0 m1 d0 d1) (rest := []) (rd := []) (obs := rdOb neg (y0 :: yr) m0 m1 d0 d1) (rd_run neg (y0 :: yr) m0 m1 d0 d1 h1 h2) (rdOb_ok neg y0 yr m0 m1 d0 d1 hy hm0 hm1 hd0 hd1 hD)
end Go.Proofs.YtmekaipcoghlfaaGreatDoor
end
