/-
  Part of the proof of TopDays: lemmas that the others lean on.
-/
import Derived.Test.YtmekaipcoghlfaaGreatDoorSch
set_option linter.all false
set_option linter.unusedVariables false
set_option linter.unusedSimpArgs false
noncomputable section
namespace Go.Proofs.YtmekaipcoghlfaaGreatDoor
open Go Go.Am Go.Proofs
theorem tt (s : Bool) (n : Nat) (t : List Nat) (o0 : (Nat.ble (List.length [45] + List.length t) 4611686018427387904) = true)
    (o1 : s = true)
    (o2 : Sm 65 [.agg [.int .u64 ((n / 18446744073709551616 : Nat) : Int), .int .u64 ((n % 18446744073709551616 : Nat) : Int)]] (.str t)) :
    Sm 32 [.agg [.bool s, .int .u64 ((n / 18446744073709551616 : Nat) : Int), .int .u64 ((n % 18446744073709551616 : Nat) : Int), .int .i64 0]] (.str ([45] ++ t)) :=
  .of1 (scr := [.auto 2, .ret (.str t) [], .auto 9, .br true, .ob]) (rest := []) (rd := [])
    (obs := [(Nat.ble (List.length [45] + List.length t) 4611686018427387904) = true,
      s = true,
      OK PR E1 65 [.agg [.int .u64 ((n / 18446744073709551616 : Nat) : Int), .int .u64 ((n % 18446744073709551616 : Nat) : Int)]] [] (.str t) []]) (fun h => by kernel_rfl) ⟨o0, o1, o2.e1, trivial⟩
theorem tt1 (s : Bool) (n : Nat) (t : List Nat) (o0 : s = false)
    (o1 : Sm 65 [.agg [.int .u64 ((n / 18446744073709551616 : Nat) : Int), .int .u64 ((n % 18446744073709551616 : Nat) : Int)]] (.str t)) :
    Sm 32 [.agg [.bool s, .int .u64 ((n / 18446744073709551616 : Nat) : Int), .int .u64 ((n % 18446744073709551616 : Nat) : Int), .int .i64 0]] (.str t) :=
  .of1 (scr := [.auto 2, .ret (.str t) [], .auto 9, .br false]) (rest := []) (rd := [])
    (obs := [s = false,
      OK PR E1 65 [.agg [.int .u64 ((n / 18446744073709551616 : Nat) : Int), .int .u64 ((n % 18446744073709551616 : Nat) : Int)]] [] (.str t) []]) (fun h => by kernel_rfl) ⟨o0, o1.e1, trivial⟩
theorem tx0   :
    Sm 65 [.agg [.int .u64 0, .int .u64 0]] (.str [48]) :=
  .of1 (scr := []) (rest := []) (rd := [])
    (obs := []) (fun h => by kernel_rfl) trivial
theorem ri0   :
    Sm 21 [.int .i64 0] (.str [48]) :=
  .of1 (scr := []) (rest := []) (rd := [])
    (obs := []) (fun h => by kernel_rfl) trivial
theorem sg0_1z :
    Sm 173 [.str [48]] (.tuple [.agg [.bool false, .int .u64 0, .int .u64 0, .int .i64 0], .bool true]) :=
  .of1 (scr := []) (rest := []) (rd := [])
    (obs := []) (fun h => by kernel_rfl) trivial
/-- A whole number's numeral. -/
def intL (n : Int) : List Nat := (if n < 0 then [45] else []) ++ itoaL n.natAbs
theorem itoaL_zero : itoaL 0 = [48] := by
  unfold itoaL
  rw [nd_zero]
  rfl
theorem text_ok (n : Nat) (h : n ≤ 2147483648) : Sm 65 [AW n] (.str (itoaL n)) := by
  by_cases h0 : n = 0
  · subst h0
    rw [itoaL_zero]
    exact tx0
  · exact tx_ok n h0 (nd_lt (by omega)) (by omega)
theorem refItoa_ok (n : Int) (h0 : -2147483648 ≤ n) (h1 : n ≤ 2147483648) : Sm 21 [.int .i64 n] (.str (intL n)) := by
  unfold intL
  by_cases hz : n = 0
  · subst hz
    rw [if_neg (by decide), show (0 : Int).natAbs = 0 from rfl, itoaL_zero]
    exact ri0
  by_cases hs : n < 0
  · have h : Sm 21 [.int .i64 (-((n.natAbs : Nat) : Int))] (.str ([45] ++ itoaL n.natAbs)) := ri_ok true n.natAbs (by omega) (by omega)
    rw [show -((n.natAbs : Nat) : Int) = n by omega] at h
    rw [if_pos hs]
    exact h
  · have h : Sm 21 [.int .i64 ((n.natAbs : Nat) : Int)] (.str ([] ++ itoaL n.natAbs)) := ri_ok false n.natAbs (by omega) (by omega)
    rw [show ((n.natAbs : Nat) : Int) = n by omega] at h
    rw [if_neg hs]
    exact h
theorem itoaL_len (n : Nat) (h : n < 10000000000) : (itoaL n).length ≤ 10 := by
  unfold itoaL
  rw [digs_length]
  have := nd_lt (k := 10) (n := n) (by omega)
  omega
theorem numText_ok (n : Int) (h0 : -2147483648 ≤ n) (h1 : n ≤ 2147483648) : Sm 32 [DA (decide (n < 0)) n.natAbs] (.str (intL n)) := by
  have ht := text_ok n.natAbs (by omega)
  have hl := itoaL_len n.natAbs (by omega)
  unfold intL
  by_cases hs : n < 0
  · rw [if_pos hs, decide_eq_true hs]
    exact tt true _ _ (ble _ _ (by simp only [List.length_cons, List.length_nil]; omega)) rfl ht
  · rw [if_neg hs, decide_eq_false hs]
    exact tt1 false _ _ rfl ht
theorem signed_ok (n : Int) (h0 : -2147483648 ≤ n) (h1 : n ≤ 2147483648) : Sm 173 [.str (intL n)] (.tuple [DA (decide (n < 0)) n.natAbs, .bool true]) := by
  unfold intL
  by_cases hz : n = 0
  · subst hz
    rw [if_neg (by decide), show (0 : Int).natAbs = 0 from rfl, itoaL_zero]
    exact sg0_1z
  have hm : n.natAbs ≠ 0 := by omega
  obtain ⟨d, r, e, hd⟩ := dgs_head n.natAbs hm
  have hs := fun neg => sg_ok neg d r n.natAbs (fun x hx => dgs_le (nd n.natAbs) n.natAbs x (by rw [e]; exact hx)) hd (by rw [← e, dgs_length]; exact nd_lt (by omega)) (by rw [← e, valD_eq, valL_dgs _ _ (lt_nd _)]) (by omega)
  rw [← e, ← itoaL_eq hm] at hs
  by_cases h : n < 0
  · have h2 : Sm 173 [.str ([45] ++ itoaL n.natAbs)] (.tuple [DA (!(((((n.natAbs) % 18446744073709551616 : Nat) : Int)) == 0)) n.natAbs, .bool true]) := hs true
    rw [beqF' (by omega)] at h2
    rw [if_pos h, decide_eq_true h]
    exact h2
  · have h2 : Sm 173 [.str ([] ++ itoaL n.natAbs)] (.tuple [DA false n.natAbs, .bool true]) := hs false
    rw [if_neg h, decide_eq_false h]
    exact h2
/-! ## Texts of days -/
theorem pad2L (n : Nat) (h : n ≤ 99) : padL 2 n = [48 + n / 10 % 10, 48 + n % 10] := by
  unfold padL
  rw [show max 2 (nd n) = 2 by have := nd_lt (k := 2) (n := n) (by omega); omega]
  rfl
theorem dateL_eq (y m d : Int) (hm : m.natAbs ≤ 99) (hd : d.natAbs ≤ 99) : dateL y m d = (if y < 0 then [45] else []) ++ rdT (padL 4 y.natAbs) (48 + m.natAbs / 10 % 10) (48 + m.natAbs % 10) (48 + d.natAbs / 10 % 10) (48 + d.natAbs % 10) := by
  unfold dateL rdT
  rw [pad2L _ hm, pad2L _ hd]
  simp only [List.append_assoc, List.cons_append, List.nil_append]
theorem pad4_dgs (n : Nat) : padL 4 n = (dgs (max 4 (nd n)) n).map (48 + ·) := by
  unfold padL
  rw [digs_dgs]
theorem pad4_len (n : Nat) : (padL 4 n).length = max 4 (nd n) := by
  rw [pad4_dgs, List.length_map, dgs_length]
theorem pad4_mem (n : Nat) : ∀ c ∈ padL 4 n, 48 ≤ c ∧ c ≤ 57 := by
  rw [pad4_dgs]
  intro c hc
  obtain ⟨x, hx, rfl⟩ := List.mem_map.1 hc
  have := dgs_le _ _ x hx
  omega
theorem pad4_val (n : Nat) (h : n ≤ 999999999) : rdV 0 (padL 4 n) = (n : Int) := by
  have hm : (padL 4 n).map (· - 48) = dgs (max 4 (nd n)) n := by
    rw [pad4_dgs, List.map_map]
    conv => rhs; rw [← List.map_id (dgs (max 4 (nd n)) n)]
    exact List.map_congr_left fun x _ => by show 48 + x - 48 = x; omega
  have hlt : n < 10 ^ max 4 (nd n) := Nat.lt_of_lt_of_le (lt_nd n) (Nat.pow_le_pow_right (by decide) (by omega))
  have he : valL 0 ((padL 4 n).map (· - 48)) = n := by rw [hm, valL_dgs _ _ hlt]
  have := rdV_eq (padL 4 n) 0 (pad4_mem n) (by rw [he]; omega)
  rw [he] at this
  exact this
theorem two_val (x : Int) (h0 : 0 ≤ x) (h1 : x ≤ 99) : rdV 0 [48 + x.natAbs / 10 % 10, 48 + x.natAbs % 10] = x := by
  have e : valL 0 ([48 + x.natAbs / 10 % 10, 48 + x.natAbs % 10].map (· - 48)) = x.natAbs := by
    show (0 * 10 + (48 + x.natAbs / 10 % 10 - 48)) * 10 + (48 + x.natAbs % 10 - 48) = _
    omega
  have := rdV_eq [48 + x.natAbs / 10 % 10, 48 + x.natAbs % 10] 0 (by intro c hc; simp only [List.mem_cons, List.not_mem_nil, or_false] at hc; omega) (by rw [e]; omega)
  rw [e] at this
  exact this.trans (by omega)
theorem readDate_ok (y m d : Int) (h1 : 1 ≤ m) (h2 : m ≤ 12) (h3 : 1 ≤ d) (h4 : d ≤ Cal.len y m) (h5 : -999999999 ≤ y) (h6 : y ≤ 999999999) : Sm 175 [.str (dateL y m d)] (.tuple [.agg [.int .i64 y, .int .i64 m, .int .i64 d], .bool true]) := by
  have hl := Cal.len_bd y m
  have hD := date_ok y m d h1 h2 h3 h4 h5 h6
  rw [dateL_eq y m d (by omega) (by omega)] at hD ⊢
  have hk : nd y.natAbs ≤ 9 := nd_lt (by omega)
  have hlen := pad4_len y.natAbs
  have hmem := pad4_mem y.natAbs
  have hv := pad4_val y.natAbs (by omega)
  obtain ⟨y0, yr, hL⟩ : ∃ y0 yr, padL 4 y.natAbs = y0 :: yr := by
    rcases hL : padL 4 y.natAbs with _ | ⟨a, r⟩
    · rw [hL, List.length_nil] at hlen
      omega
    · exact ⟨a, r, rfl⟩
  rw [hL] at hD hv hlen hmem ⊢
  have fin : ∀ neg : Bool, (if y < 0 then [45] else ([] : List Nat)) = (if neg then [45] else []) → rdY neg (y0 :: yr) = y → Sm 175 [.str ((if y < 0 then [45] else []) ++ rdT (y0 :: yr) (48 + m.natAbs / 10 % 10) (48 + m.natAbs % 10) (48 + d.natAbs / 10 % 10) (48 + d.natAbs % 10))] (.tuple [.agg [.int .i64 y, .int .i64 m, .int .i64 d], .bool true]) := by
    intro neg e1 e2
    have hY : rdDt neg (y0 :: yr) (48 + m.natAbs / 10 % 10) (48 + m.natAbs % 10) (48 + d.natAbs / 10 % 10) (48 + d.natAbs % 10) = .agg [.int .i64 y, .int .i64 m, .int .i64 d] := by
      unfold rdDt
      rw [e2, two_val m (by omega) (by omega), two_val d (by omega) (by omega)]
    rw [e1] at hD ⊢
    rw [← hY] at hD ⊢
    exact rd_ok neg y0 yr _ _ _ _ (by rw [hlen]; omega) (by rw [hlen]; omega) hmem (by omega) (by omega) (by omega) (by omega) hD
  by_cases hs : y < 0
  · refine fin true (by rw [if_pos hs]; rfl) ?_
    show IntKind.wrap .i64 (0 - rdV 0 (y0 :: yr)) = y
    rw [hv, wrapI (by omega) (by omega)]
    omega
  · refine fin false (by rw [if_neg hs]; rfl) ?_
    show rdV 0 (y0 :: yr) = y
    rw [hv]
    omega
theorem quote_ok (y m d : Int) (h1 : 1 ≤ m) (h2 : m ≤ 12) (h3 : 1 ≤ d) (h4 : d ≤ Cal.len y m) (h5 : -999999999 ≤ y) (h6 : y ≤ 999999999) : Sm 64 [.str (dateL y m d)] (.str ([34] ++ dateL y m d ++ [34])) := by
  have hl := Cal.len_bd y m
  have hk : nd y.natAbs ≤ 9 := nd_lt (by omega)
  have hlen := pad4_len y.natAbs
  have hs : (if y < 0 then [45] else ([] : List Nat)).length ≤ 1 ∧ ∀ c ∈ (if y < 0 then [45] else ([] : List Nat)), c = 45 := by
    split
    · exact ⟨Nat.le_refl _, fun c hc => by simpa using hc⟩
    · exact ⟨Nat.zero_le _, fun c hc => by simp at hc⟩
  have hdl : (dateL y m d).length = (if y < 0 then [45] else ([] : List Nat)).length + (max 4 (nd y.natAbs) + 6) := by
    rw [dateL_eq y m d (by omega) (by omega), List.length_append]
    unfold rdT
    rw [List.length_append, hlen]
    rfl
  refine qu_ok _ (by omega) (by omega) fun c hc => ?_
  rw [dateL_eq y m d (by omega) (by omega), List.mem_append] at hc
  rcases hc with hc | hc
  · have := hs.2 c hc
    omega
  · unfold rdT at hc
    rw [List.mem_append] at hc
    rcases hc with hc | hc
    · have := pad4_mem y.natAbs c hc
      omega
    · simp only [List.mem_cons, List.not_mem_nil, or_false] at hc
      omega
end Go.Proofs.YtmekaipcoghlfaaGreatDoor
end
