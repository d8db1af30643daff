/-
  Part of the proof of TopDays: lemmas that the others lean on.
-/
import Derived.Test.YtmekaipcoghlfaaGreatDoorAb
import Derived.Laws.MakeOwn
import Derived.Laws.Append
import Derived.Laws.IdiomStrings
import Derived.Lib.UnsafeStr
import Derived.Laws.RangeString
import Derived.Lib.Bytealg
import Derived.Test.YtmekaipcoghlfaaGreatDoorAa
set_option linter.all false
set_option linter.unusedVariables false
set_option linter.unusedSimpArgs false
noncomputable section
namespace Go.Am

section
variable {P : Program} {E : Env} (hE : EnvOK P E) {w : World} {g : Gh} {h : Heap}

/-- Cells laid: the new heap, and the step. -/
theorem lay_ok (hr : HR E w g h) {slot elem : Nat} (hs : h.at slot = none) {cells : List AV} {c : Array Value} {fr : Nat × Nat} {pr : Bool} {vs : List Value} (hv : VRs w g h cells vs)
    (hc : ∀ (i : Nat) (v : Value), vs[i]? = some v → c[i]? = some v) (hp : pr = true → FRs w g.F cells vs)
    (hfr : ∀ i, i < c.size → (decide (fr.1 ≤ i) && decide (i < fr.2)) = false) :
    HR E (w.alloc (.cells c elem fr)) (g.lay slot w.heap.size) (h.put slot (.mem cells elem 0 false pr)) ∧
      Stp w g h (w.alloc (.cells c elem fr)) (g.lay slot w.heap.size) (h.put slot (.mem cells elem 0 false pr)) :=
  ⟨hr.laid hs (BR.laid hr hs hv hp hc hfr), .laid hr hs⟩

theorem nofr (c : Array Value) : ∀ i, i < c.size → (decide ((0 : Nat) ≤ i) && decide (i < 0)) = false := by
  intro i _; simp

theorem lay_ptr {slot : Nat} {x : Blk} (hx : (match x with | .mem _ _ g _ _ => g | .iter .. => 0) = 0) {w' : World} :
    VR w' (g.lay slot w.heap.size) (h.put slot x) (.ptr slot 0 0) (.pointer (some ⟨w.heap.size, 0, none⟩)) := by
  refine .ptr (n := 0) ?_ (Nat.le_refl _) rfl fun _ => by simp [Gh.lay]
  rw [gen?_put, if_pos rfl]
  cases x with
  | mem => simp only at hx; rw [hx]
  | iter => rfl

theorem lay_slice {slot elem esz len cap gen : Nat} {cells : List AV} {ro pr full : Bool} {c : Array Value} {fr : Nat × Nat} (hg : gen = 0) (hcap : len ≤ cap) (hfull : full = true → cap = len)
    (hsz : cap * esz ≤ c.size) :
    VR (w.alloc (.cells c elem fr)) (g.lay slot w.heap.size) (h.put slot (.mem cells elem gen ro pr)) (.mslice slot 0 0 esz len full) (.slice (some ⟨w.heap.size, 0, none⟩) len cap) := by
  subst hg
  refine .mslice (n := 0) ?_ (Nat.le_refl _) rfl hcap hfull fun _ => ⟨by simp [Gh.lay], c, elem, fr, ?_, by omega⟩
  · rw [gen?_put, if_pos rfl]
  · simp only [Gh.lay, if_true]; exact laid_new w _

include hE in
theorem allocA_ok (hr : HR E w g h) {e slot : Nat} {ti : TI} (hs : h.at slot = none) (hti : E.ti e = some ti) :
    Ran P E w g h (Instr.alloc e true (.tuple #[])) (.ptr slot 0 0) [(slot, .mem ti.zero e 0 false true)] := by
  obtain ⟨z, hz1, hz2, -⟩ := hE.runZero hti
  have hz : VRs w g h ti.zero z.cells.toList := by rw [hz2]; exact zero_rel z
  obtain ⟨h1, h2⟩ := lay_ok hr hs (elem := e) (c := z.cells) (fr := (0, 0)) (pr := true) hz (fun i v hv => by rw [← Array.getElem?_toList]; exact hv) (fun _ => hz.pure (hE.ti _ _ hti).pure) (nofr _)
  refine ⟨_, _, _, ?_, h1, lay_ptr rfl, h2⟩
  simp [Instr.alloc, hz1, newVar, newRow]

theorem boxA_ok (hr : HR E w g h) {e slot : Nat} {a : AV} {v : Value} (hs : h.at slot = none) (ha : VR w g h a v) (hj : a ≠ .junk) :
    Ran P E w g h (Instr.box e v) (.ptr slot 0 0) [(slot, .mem a.cells e 0 false (isPure.allPure a.cells))] := by
  have hc := ha.cellsOf hj
  obtain ⟨h1, h2⟩ := lay_ok hr hs (elem := e) (c := v.cells) (fr := (0, 0)) (pr := isPure.allPure a.cells) hc (fun i v hv => by rw [← Array.getElem?_toList]; exact hv) (fun hp => hc.pure hp) (nofr _)
  refine ⟨_, _, _, ?_, h1, lay_ptr rfl, h2⟩
  simp [Instr.box, newVar, newRow]

/-- So many copies of some cells. -/
theorem range_zero (z : List Value) (hz : 0 < z.length) : ∀ n, ((List.range (n * z.length)).map fun i => z[i % z.length]!) = (List.replicate n z).flatten
  | 0 => by simp
  | n + 1 => by
    have ih := range_zero z hz n
    rw [Nat.add_mul, Nat.one_mul, List.range_add, List.map_append, ih, List.replicate_succ', List.flatten_append]
    congr 1
    simp only [List.map_map, List.flatten_cons, List.flatten_nil, List.append_nil]
    apply List.ext_getElem?
    intro i
    simp only [List.getElem?_map]
    by_cases hi : i < z.length
    · rw [List.getElem?_range hi]
      simp only [Option.map_some, Function.comp_apply, Nat.add_comm (n * z.length) i, Nat.add_mul_mod_self_right, Nat.mod_eq_of_lt hi]
      rw [List.getElem?_eq_getElem hi, getElem!_pos z i hi]
    · rw [List.getElem?_eq_none (by simpa using hi), List.getElem?_eq_none (by omega)]; rfl

theorem VRs.flatten {as : List AV} {vs : List Value} (ha : VRs w g h as vs) : ∀ n, VRs w g h (List.replicate n as).flatten (List.replicate n vs).flatten
  | 0 => .nil
  | n + 1 => by simpa [List.replicate_succ] using ha.append (VRs.flatten ha n)
theorem FRs.flatten {F : Nat → Prop} {as : List AV} {vs : List Value} (ha : FRs w F as vs) : ∀ n, FRs w F (List.replicate n as).flatten (List.replicate n vs).flatten
  | 0 => .nil
  | n + 1 => by simpa [List.replicate_succ] using ha.append (FRs.flatten ha n)

include hE in
theorem buildSliceA_ok (hr : HR E w g h) {t len slot : Nat} {as : List (Nat × AV)} {vs : Array (Nat × Value)} {o : Out} (hs : h.at slot = none) (hp : PRs w g h as vs.toList)
    (hb : buildSliceA E t len slot as = some o) : Ran P E w g h (Instr.buildSlice t len vs) o.val o.upd := by
  unfold buildSliceA at hb
  rcases hti : E.ti t with _ | ti <;> simp only [hti] at hb
  · cases hb
  obtain ⟨d, hu, hT⟩ := hE.under hti
  cases ti with
  | mk desc size bytes zero cmp =>
  cases desc <;> simp only at hb <;> (try cases hb)
  rename_i e
  simp only at hT
  cases d <;> simp only [TDok] at hT
  subst hT
  rcases hei : E.ti e with _ | ei <;> simp only [hei] at hb
  · cases hb
  split at hb
  · rename_i hsz
    simp only [Bool.and_eq_true] at hsz
    have h1 := Nat.le_of_ble_eq_true hsz.1
    have h2 : 0 < ei.size := Nat.blt_eq ▸ hsz.2
    obtain ⟨z, hz1, hz2, -⟩ := hE.runZero hei
    have hz : VRs w g h ei.zero z.cells.toList := by rw [hz2]; exact zero_rel z
    have hzl : z.cells.size = ei.size := by
      have := hz.length
      rw [(hE.ti _ _ hei).zlen] at this
      simpa using this.symm
    split at hb
    · rename_i cells hf
      simp only [Option.some.injEq] at hb; subst hb
      have hz0 : VRs w g h (List.replicate len ei.zero).flatten ((Array.range (len * ei.size)).map fun i => z.cells[i % z.cells.size]!).toList := by
        have := range_zero z.cells.toList (by simp [hzl, h2]) len
        simp only [Array.length_toList] at this
        rw [Array.toList_map, Array.toList_range, ← hzl]
        have e : (fun i => z.cells[i % z.cells.size]!) = fun i => z.cells.toList[i % z.cells.size]! := by
          funext i
          rw [← Array.getElem!_toList]
        rw [e, this]
        exact hz.flatten len
      obtain ⟨cs', k1, k2, k3⟩ := fillA_ok (place' := fun i => some (i * ei.size, ei.size)) (fun i r hr => hr) hp hz0 hf
      have hsz' : cs'.size = len * ei.size := by rw [k3]; simp
      obtain ⟨m1, m2⟩ := lay_ok hr hs (elem := e) (c := cs') (fr := (0, 0)) (pr := isPure.allPure cells) k2 (fun i v hv => by rw [← Array.getElem?_toList]; exact hv) (fun hq => k2.pure hq) (nofr _)
      refine ⟨_, _, _, ?_, m1, lay_slice rfl (Nat.le_refl _) (fun _ => rfl) (by omega), m2⟩
      unfold Instr.buildSlice
      have hno : ¬ (len * ei.size > 2 ^ 24) := by omega
      simp only [Sem.run_bind, run_underlying hu, Result.andThen_ok, hE.runSize hei, hno, if_false]
      by_cases hl0 : len * ei.size = 0
      · have e0 : ((Array.range (len * ei.size)).map fun i => (#[] : Array Value)[i % (#[] : Array Value).size]!) = ((Array.range (len * ei.size)).map fun i => z.cells[i % z.cells.size]!) := by
          rw [hl0]; simp
        rw [if_pos hl0]
        simp only [Sem.run_bind, Sem.run_pure, Result.andThen_ok, e0, k1]
        simp [newRow]
      · simp only [hl0, if_false, Sem.run_bind, hz1, Result.andThen_ok, Sem.run_pure, k1]
        simp [newRow]
    · cases hb
  · cases hb

theorem made_list (z : Array Value) (n : Nat) (hz : z.size ≠ 0) : (madeCells z (n * z.size)).toList = (List.replicate n z.toList).flatten := by
  have := range_zero z.toList (by simp; omega) n
  simp only [Array.length_toList] at this
  unfold madeCells
  rw [Array.toList_map, Array.toList_range]
  have e : (fun i => z[i % z.size]!) = fun i => z.toList[i % z.size]! := by
    funext i
    rw [← Array.getElem!_toList]
  rw [e, this]

theorem EnvOK.zcells (hE : EnvOK P E) {t : Nat} {i : TI} (h : E.ti t = some i) : ∃ info z, P.info? t = some info ∧ info.size = i.size ∧ info.bytes = i.bytes ∧ info.zero = some z ∧
    z.cells.size = i.size ∧ i.zero = z.cells.toList.map cv0 := by
  obtain ⟨info, z, d, h1, h2, h3, h4, h5, -⟩ := (hE.ti t i h).ex
  refine ⟨info, z, h1, h2, h3, h4, ?_, h5⟩
  have := (hE.ti t i h).zlen
  rw [h5] at this
  simpa using this

include hE in
theorem makeSliceA_ok (hr : HR E w g h) {t slot : Nat} {l c : AV} {vl vc : Value} {o : Out} {tr tr' : Tr} (hs : h.at slot = none) (hl : VR w g h l vl) (hc : VR w g h c vc)
    (hb : makeSliceA E t slot l c tr = some (o, tr')) (ho : tr'.holds) : tr.holds ∧ Ran P E w g h (Instr.makeSlice t vl vc) o.val o.upd := by
  unfold makeSliceA at hb
  rcases hti : E.ti t with _ | ti <;> simp only [hti] at hb
  · exact (fail_inv hb).elim
  obtain ⟨d, hu, hT⟩ := hE.under hti
  cases ti with
  | mk desc size bytes zero cmp =>
  cases desc with
  | slice e =>
    simp only at hb hT
    cases d <;> simp only [TDok] at hT
    subst hT
    cases l with
    | int k l =>
      cases c with
      | int k' c =>
        cases k <;> (try exact (fail_inv hb).elim)
        cases k' <;> (try exact (fail_inv hb).elim)
        simp only at hb
        rcases hei : E.ti e with _ | ei <;> simp only [hei] at hb
        · exact (fail_inv hb).elim
        obtain ⟨u, t1, h1, h2⟩ := bind_inv hb
        obtain ⟨rfl, rfl⟩ := pure_inv h2
        obtain ⟨h3, h4⟩ := check_inv h1 ho
        simp only [Bool.and_eq_true, decide_eq_true_eq] at h3
        obtain rfl := hl.int
        obtain rfl := hc.int
        obtain ⟨info, z, i1, i2, i3, i4, i5, i6⟩ := hE.zcells hei
        refine ⟨h4, ?_⟩
        have hz : VRs w g h ei.zero z.cells.toList := by rw [i6]; exact zero_rel z
        have hcells : VRs w g h (List.replicate c.toNat ei.zero).flatten (madeCells z.cells (c.toNat * info.size)).toList := by
          by_cases h0 : z.cells.size = 0
          · have : info.size = 0 := by omega
            have hzn : ei.zero = [] := by rw [i6]; simpa using h0
            rw [this, hzn]
            have : (List.replicate c.toNat ([] : List AV)).flatten = [] := by simp
            rw [this]
            simp [madeCells]
            exact .nil
          · rw [i2, ← i5, made_list _ _ h0]
            exact hz.flatten _
        have hpure : FRs w g.F (List.replicate c.toNat ei.zero).flatten (madeCells z.cells (c.toNat * info.size)).toList := by
          refine hcells.pure ?_
          have hp := (hE.ti _ _ hei).pure
          generalize c.toNat = n
          clear hcells h1 h3
          induction n with
          | zero => rfl
          | succ n ih =>
            rw [List.replicate_succ, List.flatten_cons]
            clear ih hz
            revert hp
            generalize ei.zero = zs
            intro hp
            have : ∀ (as bs : List AV), isPure.allPure as = true → isPure.allPure bs = true → isPure.allPure (as ++ bs) = true := by
              intro as bs ha hb
              induction as with
              | nil => exact hb
              | cons a as ih => simp only [List.cons_append, isPure.allPure, Bool.and_eq_true] at ha ⊢; exact ⟨ha.1, ih ha.2⟩
            refine this _ _ hp ?_
            induction n with
            | zero => rfl
            | succ n ih => rw [List.replicate_succ, List.flatten_cons]; exact this _ _ hp ih
        obtain ⟨m1, m2⟩ := lay_ok hr hs (elem := e) (c := madeCells z.cells (c.toNat * info.size)) (fr := (0, 0)) (pr := true) hcells
          (fun i v hv => by rw [← Array.getElem?_toList]; exact hv) (fun _ => hpure) (nofr _)
        have hrun := run_make (P := P) w t e info z hu i1 i4 .i64 .i64 l c h3.1.1.1 h3.1.1.2 (by rw [i3, Int.mul_comm]; omega) (by have := h3.2; omega)
        refine ⟨_, _, _, hrun, m1, lay_slice rfl (by omega) (fun hf => ?_) ?_, m2⟩
        · have := of_decide_eq_true hf; rw [this]
        · rw [size_madeCells, i2]; exact Nat.le_refl _
      | _ => cases k <;> exact (fail_inv hb).elim
    | _ => exact (fail_inv hb).elim
  | _ => exact (fail_inv hb).elim

end
end Go.Am
end
noncomputable section
namespace Go.Am

section
variable {P : Program} {E : Env} (hE : EnvOK P E) {w : World} {g : Gh} {h : Heap}

/-! ## What a slice holds -/

theorem str_cells (s : ByteArray) (F : Nat → Prop) : FRs w F ((bytesOf s).map fun (b : Nat) => AV.int .u8 b) (s.data.toList.map fun b => Value.int .u8 b.toNat) := by
  simp only [bytesOf, List.map_map]
  generalize s.data.toList = l
  induction l with
  | nil => exact .nil
  | cons b l ih => exact .cons (.int _ _) ih

theorem take_dropVRs {vs : List Value} {c : Array Value} {off n : Nat} (hc : ∀ (i : Nat) (v : Value), vs[i]? = some v → c[off + i]? = some v) :
    ∀ (j : Nat) (v : Value), (vs.take n)[j]? = some v → c[off + j]? = some v := by
  intro j v hj
  rw [List.getElem?_take] at hj
  split at hj
  · exact hc _ _ hj
  · cases hj

theorem contents_ok (hr : HR E w g h) {x : AV} {v : Value} {cells : List AV} {len size : Nat} {pr : Bool} (hx : VR w g h x v) (hc : contents h x = some (cells, len, pr)) (hs : eszIs size x = true) :
    ∃ vs, VRs w g h cells vs ∧ (pr = true → FRs w g.F cells vs) ∧ vs.length = len * size ∧ (∀ w, (Builtin.lenOf v).run P w = .ok len w) ∧
      (∀ n, n ≤ len → ∀ w', w'.heap = w.heap → (Builtin.firstCells size n v).run P w' = .ok (vs.take (n * size)).toArray w') ∧
      (isSlice x = true → ∃ base cap, v = .slice base len cap) := by
  have mk : ∀ {p off e cap : Nat} {c : Array Value} {fr : Nat × Nat} {vs : List Value}, w.heap[p]? = some (.cells c e fr) → vs.length = len * size →
      (∀ (i : Nat) (v : Value), vs[i]? = some v → c[off + i]? = some v) → ∀ n, n ≤ len → ∀ w', w'.heap = w.heap →
      (Builtin.firstCells size n (.slice (some ⟨p, off, none⟩) len cap)).run P w' = .ok (vs.take (n * size)).toArray w' := by
    intro p off e cap c fr vs hp hl hc n hn w' hw
    have h1 := Nat.mul_le_mul_right size hn
    refine run_firstCells_some w' size n _ len cap (vs.take (n * size)) (by rw [List.length_take]; omega) fun j u hj => ?_
    have := take_dropVRs hc j u hj
    rw [addr_add]
    exact cell_of (by rw [hw]; exact hp) this
  cases x with
  | nilslice =>
    simp only [contents, Option.some.injEq, Prod.mk.injEq] at hc
    obtain ⟨rfl, rfl, rfl⟩ := hc
    obtain rfl := hx.nilslice
    refine ⟨[], .nil, fun _ => .nil, by simp, fun w => by simp [Builtin.lenOf], fun n hn w' _ => ?_, fun _ => ⟨_, _, rfl⟩⟩
    rw [run_firstCells_none]; simp
  | fslice cs esz l full nn =>
    simp only [contents, Option.some.injEq, Prod.mk.injEq] at hc
    obtain ⟨rfl, rfl, rfl⟩ := hc
    simp only [eszIs] at hs
    obtain rfl := Nat.eq_of_beq_eq_true hs
    cases hx with
    | fr hf =>
      cases hf with
      | fempty k1 k2 k3 =>
        rename_i cap base
        refine ⟨[], .nil, fun _ => .nil, by simp, fun w => by simp [Builtin.lenOf], fun n hn w' _ => ?_, fun _ => ⟨_, _, rfl⟩⟩
        obtain rfl : n = 0 := by omega
        rcases base with _ | a
        · rw [run_firstCells_none]; simp
        · simpa using run_firstCells_some (P := P) w' esz 0 a 0 _ [] (by simp) (by simp)
      | fslice hF hp hv hcc hl hcap hfull =>
        exact ⟨_, hv.vrs, fun _ => hv, by rw [← hv.length, hl], fun w => by simp [Builtin.lenOf], mk hp (by rw [← hv.length, hl]) hcc, fun _ => ⟨_, _, rfl⟩⟩
  | mslice b gen off esz l full =>
    simp only [contents] at hc
    rcases hm : h.mem b gen with _ | ⟨bc, elem, ro, bp⟩ <;> simp only [hm] at hc
    · cases hc
    rcases hca : cellsAt bc off (l * esz) with _ | cs <;> simp only [hca] at hc
    · cases hc
    simp only [Option.some.injEq, Prod.mk.injEq] at hc
    obtain ⟨rfl, rfl, hpr⟩ := hc
    simp only [eszIs] at hs
    obtain rfl := Nat.eq_of_beq_eq_true hs
    obtain ⟨cap, c0, e0, fr0, hv, hcap, hfull, -⟩ := hx.mslice_now (mem_gen hm)
    subst hv
    obtain ⟨c, fr, vs, k1, k2, k3, k4, k5, k6, k7⟩ := mem_blk hr hm
    simp only at k1 k2 k3 k4
    obtain ⟨h5, h6⟩ := takeL_some hca
    rw [dropL_eq] at h5 h6
    have hlen : ((vs.drop off).take (l * esz)).length = l * esz := by
      rw [List.length_take, List.length_drop, ← k2.length]
      rw [List.length_drop] at h5
      omega
    refine ⟨(vs.drop off).take (l * esz), by rw [h6]; exact (k2.drop _).take _, fun hp => ?_, hlen, fun w => by simp [Builtin.lenOf], mk k1 hlen ?_, fun _ => ⟨_, _, rfl⟩⟩
    · rw [h6]
      cases l with
      | zero => simp; exact .nil
      | succ l => simp only at hpr; rw [← hpr] at hp; exact ((k3 hp).drop _).take _
    · refine take_dropVRs fun i u hu => ?_
      rw [List.getElem?_drop] at hu
      exact k4 _ _ hu
  | str s =>
    simp only [contents, Option.some.injEq, Prod.mk.injEq] at hc
    obtain ⟨rfl, rfl, rfl⟩ := hc
    simp only [eszIs] at hs
    obtain rfl := Nat.eq_of_beq_eq_true hs
    obtain ⟨b, rfl, rfl⟩ := hx.str
    refine ⟨_, (str_cells b g.F).vrs, fun _ => str_cells b g.F, by rw [bytesOf_length, Nat.mul_one, List.length_map, Array.length_toList]; rfl, fun w => by simp [Builtin.lenOf, bytesOf_length], fun n hn w' _ => ?_, fun hh => by cases hh⟩
    simp only [Builtin.firstCells, Sem.run_pure, Nat.mul_one]
    congr 1
    apply Array.ext'
    rw [Array.toList_map, Lib.extract_data, List.map_take]
    simp
  | _ => simp [contents] at hc

/-! ## append -/

theorem Stp.drew : Stp w g h w.drew g h := { Stp.refl w g h with frame := fun _ _ _ => rfl }

theorem HR.drew (hr : HR E w g h) : HR E w.drew g h where
  blk b x hx := by
    have hs : Stp w g h w.drew g h := { Stp.refl w g h with frame := fun _ _ _ => rfl }
    exact BR.step hr hs hx rfl rfl (fun hro hF => hr.notOwn hF ⟨b, x, hx, hro, rfl⟩)
  inj := hr.inj
  lim := hr.lim
  glob n cells hn := by
    obtain ⟨hFn, c, e, fr, vs, h1, h2, h3⟩ := hr.glob n cells hn
    exact ⟨hFn, c, e, fr, vs, h1, h2.step hr Stp.drew, h3⟩

theorem run_append_in (t u ty e : TypeId) (info : TypeInfo) (hi : P.info? e = some info) (ht : P.underlying t = some (.slice e)) (d : TypeDesc) (hu : P.underlying u = some d)
    (hd : d = .string ∨ ∃ e', d = .slice e') (base : Option Addr) (sLen sCap n : Nat) (x : Value) (new : Array Value) (hn : (Builtin.lenOf x).run P w = .ok n w) (hroom : sLen + n ≤ sCap)
    (hnew : (Builtin.firstCells info.size n x).run P w = .ok new w) :
    (Builtin.append_ #[t, u] ty #[.slice base sLen sCap, x]).run P w =
      ((do if let some a := base then storeCells (a.add (sLen * info.size)) new.toList
           pure (.slice base (sLen + n) sCap) : Sem Value)).run P w := by
  rcases hd with rfl | ⟨e', rfl⟩ <;>
  simp [Builtin.append_, run_underlying ht, run_underlying hu, sizeOf, typeInfo, hi, hn, hroom, hnew] <;> cases base <;> rfl

theorem run_append_out (t u ty e : TypeId) (info : TypeInfo) (z : Value) (hi : P.info? e = some info) (hz : info.zero = some z) (ht : P.underlying t = some (.slice e)) (d : TypeDesc) (hu : P.underlying u = some d)
    (hd : d = .string ∨ ∃ e', d = .slice e') (base : Option Addr) (sLen sCap n : Nat) (x : Value) (old new : Array Value) (hn : (Builtin.lenOf x).run P w = .ok n w) (hroom : sCap < sLen + n)
    (hold : (Builtin.firstCells info.size sLen (.slice base sLen sCap)).run P w.drew = .ok old w.drew)
    (hnew : (Builtin.firstCells info.size n x).run P w.drew = .ok new w.drew) (h63 : ((sLen + n : Nat) : Int) ≤ 9223372036854775807)
    (hfit : Builtin.nextslicecap (sLen + n) sCap * info.bytes ≤ 281474976710656) :
    (Builtin.append_ #[t, u] ty #[.slice base sLen sCap, x]).run P w =
      .ok (.slice (some ⟨w.heap.size, 0, none⟩) (sLen + n) (grownCap w (sLen + n) sCap e))
        (w.drew.alloc (.cells (old ++ new ++ Builtin.zeroCells z.cells (grownCap w (sLen + n) sCap e - (sLen + n))) e)) := by
  have hn' : ¬ (sLen + n ≤ sCap) := by omega
  have h63' : ¬ (9223372036854775807 < ((sLen : Int) + (n : Int))) := by omega
  have h48' : ¬ (281474976710656 < Builtin.nextslicecap (sLen + n) sCap * info.bytes) := by omega
  rcases hd with rfl | ⟨e', rfl⟩ <;>
  simp [Builtin.append_, run_underlying ht, run_underlying hu, sizeOf, typeInfo, zeroValue, hi, hz, hn, hn', h63', h48', Question.forced, hold, hnew, newRow, grownCap]

/-- A block that is laid anew elsewhere: its old references are void. -/
theorem Stp.relaid (_hr : HR E w g h) {b elem gen gen' : Nat} {cells cells' : List AV} {ro pr pr' : Bool} {o : Obj} (hb : h.at b = some (.mem cells elem gen ro pr)) (hgg : gen < gen')
    {elem' : Nat} : Stp w g h (w.alloc o) (g.lay b w.heap.size) (h.put b (.mem cells' elem' gen' false pr')) where
  size := by simp
  frame p hp _ := laid_old w o hp
  shape p c e fr hp := ⟨c, fr, by rw [laid_old w o (Array.getElem?_eq_some_iff.1 hp).1, hp], rfl⟩
  fst _ hp := hp
  fnew _ hp := .inl hp
  own p hp := by
    rcases Own_put (g := g) (fun b y hb _ => by simp [Gh.lay, hb]) hp with h1 | ⟨_, h1⟩
    · exact .inl h1
    · right; rw [h1]; simp [Gh.lay]
  gens b' n hn := by
    by_cases he : b' = b
    · subst he
      simp only [Heap.gen?, hb, Option.some.injEq] at hn
      subst hn
      exact ⟨gen', by rw [gen?_put, if_pos rfl], Nat.le_of_lt hgg, fun he => by omega⟩
    · exact ⟨n, by rw [gen?_put, if_neg he, hn], Nat.le_refl _, fun _ => by simp [Gh.lay, he]⟩
  tape := rfl
  os := rfl
  output := rfl

theorem relay_ok (hr : HR E w g h) {b elem gen gen' elem' : Nat} {cells cells' : List AV} {ro pr pr' : Bool} (hb : h.at b = some (.mem cells elem gen ro pr)) (hgg : gen < gen')
    {c : Array Value} {fr : Nat × Nat} {vs : List Value} (hv : VRs w g h cells' vs)
    (hc : ∀ (i : Nat) (v : Value), vs[i]? = some v → c[i]? = some v) (hp : pr' = true → FRs w g.F cells' vs)
    (hfr : ∀ i, i < c.size → (decide (fr.1 ≤ i) && decide (i < fr.2)) = false) :
    HR E (w.alloc (.cells c elem' fr)) (g.lay b w.heap.size) (h.put b (.mem cells' elem' gen' false pr')) ∧
      Stp w g h (w.alloc (.cells c elem' fr)) (g.lay b w.heap.size) (h.put b (.mem cells' elem' gen' false pr')) := by
  have hs : Stp w g h (w.alloc (.cells c elem' fr)) (g.lay b w.heap.size) (h.put b (.mem cells' elem' gen' false pr')) := .relaid hr hb hgg
  refine ⟨hr.put hs (fun b y hb _ => by simp [Gh.lay, hb]) (fun b y _ hy => laid_old w _ (hr.lt hy))
    (fun b y _ hy hyr hF => hr.notOwn hF ⟨b, y, hy, hyr, rfl⟩) ?_
    (fun _ b y hb hy _ => by have := hr.lt hy; simp [Gh.lay]; omega)
    (fun p hp => by have := hr.lim p hp; simp; omega), hs⟩
  refine ⟨c, fr, vs, ?_, hv.step hr hs, fun h => (hp h).step hr hs, hc, fun _ => ⟨fun hF => ?_, hfr⟩, fun h => by cases h⟩
  · simp only [Gh.lay, if_true]; exact laid_new w _
  · have := hr.lim _ hF
    simp [Gh.lay] at this

theorem app_get {α : Type} {vs us rest : List α} {c : Array α} (hc : c.toList = vs ++ us ++ rest) : ∀ (i : Nat) (v : α), (vs ++ us)[i]? = some v → c[i]? = some v := by
  intro i v hi
  rw [← Array.getElem?_toList, hc, List.getElem?_append_left (List.getElem?_eq_some_iff.1 hi).1, hi]

include hE in
theorem appendA_ok (hr : HR E w g h) {t u ty slot : Nat} {s x : AV} {vs vx : Value} {o : Out} {tr tr' : Tr} (hsl : h.at slot = none) (hs : VR w g h s vs) (hx : VR w g h x vx)
    {ui : TI} (hui : E.ti u = some ui) (hud : (match ui.desc with | .slice _ | .string => true | _ => false) = true)
    (hb : appendA E h t slot s x tr = some (o, tr')) (ho : tr'.holds) : tr.holds ∧ Ran P E w g h (Builtin.append_ #[t, u] ty #[vs, vx]) o.val o.upd := by
  unfold appendA at hb
  rcases hti : E.ti t with _ | ti <;> simp only [hti] at hb
  · exact (fail_inv hb).elim
  obtain ⟨d, hu, hT⟩ := hE.under hti
  cases hd : ti.desc with
  | slice e =>
    simp only [hd] at hb hT
    cases d <;> simp only [TDok] at hT
    subst hT
    rcases hei : E.ti e with _ | ei <;> simp only [hei] at hb
    · exact (fail_inv hb).elim
    rcases hcx : contents h x with _ | ⟨new, n, npure⟩ <;> simp only [hcx] at hb
    · exact (fail_inv hb).elim
    split at hb
    · rename_i hcond
      simp only [Bool.and_eq_true] at hcond
      obtain ⟨hc1, hc2, hc3⟩ := hcond
      obtain ⟨info, z, i1, i2, i3, i4, i5, i6⟩ := hE.zcells hei
      obtain ⟨du, hu2, hT2⟩ := hE.under hui
      have hdu : du = .string ∨ ∃ e', du = .slice e' := by
        cases hdd : ui.desc <;> simp only [hdd] at hud hT2 <;> (try (cases hud)) <;> cases du <;> simp only [TDok] at hT2
        · exact .inl rfl
        · exact .inr ⟨_, rfl⟩
      obtain ⟨us, x1, x2, x3, x4, x5, -⟩ := contents_ok (P := P) hr hx hcx hc1
      obtain ⟨nil, t1, h1, h2⟩ := bind_inv hb
      split at h2
      · rename_i hnil
        subst hnil
        obtain ⟨rfl, rfl⟩ := pure_inv h2
        obtain ⟨h3, h4⟩ := decideB_inv h1 ho
        have hn0 := of_decide_eq_true h3
        subst hn0
        have x6 := x5 0 (Nat.le_refl _) w rfl
        simp only [Nat.zero_mul, List.take_zero] at x6
        have hval : ∃ base sLen sCap, vs = .slice base sLen sCap ∧ sLen ≤ sCap := by
          cases s with
          | nilslice => obtain rfl := hs.nilslice; exact ⟨_, _, _, rfl, Nat.le_refl _⟩
          | fslice => cases hs with | fr hf => cases hf with
            | fempty => exact ⟨_, _, _, rfl, Nat.zero_le _⟩
            | fslice _ _ _ _ _ hcap => exact ⟨_, _, _, rfl, hcap⟩
          | mslice => cases hs with
            | fr hf => cases hf
            | mslice _ _ _ hcap => exact ⟨_, _, _, rfl, hcap⟩
          | _ => simp [isSlice] at hc3
        obtain ⟨base, sLen, sCap, rfl, hle⟩ := hval
        refine ⟨h4, .slice base sLen sCap, w, g, ?_, hr, hs, .refl w g h⟩
        rw [run_append_in t u ty e info i1 hu du hu2 hdu base sLen sCap 0 vx #[] (x4 w) (by omega) (by rw [i2]; exact x6)]
        cases base <;> simp [storeCells]
      · rename_i hnil
        rcases hcs : contents h s with _ | ⟨old, len, opure⟩ <;> simp only [hcs] at h2
        · exact (fail_inv h2).elim
        obtain ⟨u1, t2, h3, h4⟩ := bind_inv h2
        obtain ⟨vs', s1, s2, s3, s4, s5, s6⟩ := contents_ok (P := P) hr hs hcs hc2
        obtain ⟨base, cap, rfl⟩ := s6 hc3
        have xn := x5 n (Nat.le_refl _)
        rw [List.take_of_length_le (by omega)] at xn
        have sn := s5 len (Nat.le_refl _)
        rw [List.take_of_length_le (by omega)] at sn
        -- what is laid if there is no room
        have grow : t2.holds → cap < len + n → ∃ nc c, (Builtin.append_ #[t, u] ty #[.slice base len cap, vx]).run P w = .ok (.slice (some ⟨w.heap.size, 0, none⟩) (len + n) nc) (w.drew.alloc (.cells c e)) ∧
            len + n ≤ nc ∧ c.size = nc * ei.size ∧ (∀ (i : Nat) (v : Value), (vs' ++ us)[i]? = some v → c[i]? = some v) := by
          intro ho2 hcap
          obtain ⟨k1, -⟩ := check_inv h3 ho2
          simp only [Bool.and_eq_true] at k1
          have k2 := Nat.le_of_ble_eq_true k1.2.1
          have k3 := Nat.le_of_ble_eq_true k1.2.2
          have hge := grownCap_ge w (len + n) cap e
          refine ⟨_, _, run_append_out t u ty e info z i1 i4 hu du hu2 hdu base len cap n vx vs'.toArray us.toArray (x4 w) hcap (by rw [i2]; exact sn _ rfl) (by rw [i2]; exact xn _ rfl) (by omega)
            (growslice_fits hcap (by rw [i3]; omega)), hge, ?_, app_get (rest := (Builtin.zeroCells z.cells (grownCap w (len + n) cap e - (len + n))).toList) (by simp)⟩
          simp only [Array.size_append, List.size_toArray, s3, x3, size_zeroCells, i5, ← Nat.add_mul]
          congr 1
          omega
        have hsize : ∀ {nc : Nat} {c : Array Value}, c.size = nc * ei.size → nc * ei.size ≤ c.size := fun h => by omega
        have hnew : VRs w g h (old ++ new) (vs' ++ us) := s1.append x1
        have hpure : (opure && npure) = true → FRs w g.F (old ++ new) (vs' ++ us) := by
          intro hp
          simp only [Bool.and_eq_true] at hp
          exact (s2 hp.1).append (x2 hp.2)
        rcases hrm : roomOf s with _ | _ | ⟨b, gen, off⟩ <;> simp only [hrm] at h4
        · exact (fail_inv h4).elim
        · obtain ⟨rfl, rfl⟩ := pure_inv h4
          obtain ⟨-, k4⟩ := check_inv h3 ho
          have hno : nil = false := by simpa using hnil
          subst hno
          obtain ⟨k5, k6⟩ := decideB_inv h1 k4
          have hn : n ≠ 0 := of_decide_eq_false k5
          have hcap : cap = len := by
            cases s with
            | nilslice => have := hs.nilslice; simp only [Value.slice.injEq] at this; omega
            | fslice cs esz l full nn =>
              cases full with
              | false => simp [roomOf] at hrm
              | true =>
                cases hs with
                | fr hf => cases hf with
                  | fempty hf => exact hf rfl
                  | fslice _ _ _ _ _ _ hf => exact hf rfl
            | mslice b gen off esz l full =>
              cases full with
              | false => simp [roomOf] at hrm
              | true => cases hs with
                | fr hf => cases hf
                | mslice _ _ _ _ hf => exact hf rfl
            | _ => simp [isSlice] at hc3
          obtain ⟨nc, c, r1, r2, r3, r4⟩ := grow ho (by omega)
          obtain ⟨m1, m2⟩ := lay_ok (w := w.drew) hr.drew hsl (elem := e) (c := c) (fr := (0, 0)) (pr := opure && npure) (hnew.step hr .drew) r4 (fun hp => (hpure hp).step hr .drew) (nofr _)
          exact ⟨k6, _, _, _, r1, m1, lay_slice (w := w.drew) rfl r2 (fun hf => by cases hf) (hsize r3), Stp.drew.trans m2⟩
        · rcases hm : h.mem b gen with _ | ⟨bc, elem, ro, bp⟩ <;> simp only [hm] at h4
          · exact (fail_inv h4).elim
          split at h4
          · rename_i hif
            simp only [Bool.and_eq_true, Bool.not_eq_true'] at hif
            obtain ⟨hro, hoff, hel⟩ := hif
            subst hro
            obtain rfl := Nat.eq_of_beq_eq_true hoff
            obtain rfl := Nat.eq_of_beq_eq_true hel
            obtain ⟨rfl, rfl⟩ := pure_inv h4
            obtain ⟨k0, k4⟩ := check_inv h3 ho
            simp only [Bool.and_eq_true] at k0
            have hno : nil = false := by simpa using hnil
            subst hno
            obtain ⟨k5, k6⟩ := decideB_inv h1 k4
            have hn : n ≠ 0 := of_decide_eq_false k5
            have hat := mem_at hm
            obtain ⟨c, fr, bvs, q1, q2, q3, q4, q5, q6, q7⟩ := mem_blk hr hm
            simp only at hat q1 q5
            refine ⟨k6, ?_⟩
            by_cases hcap : cap < len + n
            · obtain ⟨nc, c', r1, r2, r3, r4⟩ := grow ho hcap
              obtain ⟨m1, m2⟩ := relay_ok (w := w.drew) (elem' := elem) hr.drew hat (Nat.lt_succ_self gen) (c := c') (fr := (0, 0)) (pr' := opure && npure) (hnew.step hr .drew) r4 (fun hp => (hpure hp).step hr .drew) (nofr _)
              refine ⟨_, _, _, r1, m1, .mslice (n := gen + 1) ?_ (Nat.le_refl _) rfl r2 (fun hf => by cases hf) fun _ => ⟨by simp [Gh.lay], c', elem, (0, 0), ?_, by omega⟩, Stp.drew.trans m2⟩
              · rw [Heap.puts, Heap.puts, gen?_put, if_pos rfl]
              · simp only [Gh.lay, if_true]; exact laid_new w.drew _
            · -- in place
              cases s with
              | mslice b' gen' off' esz l full =>
                cases full with
                | true => simp [roomOf] at hrm
                | false =>
                  simp only [roomOf, Option.some.injEq, Prod.mk.injEq] at hrm
                  obtain ⟨rfl, rfl, rfl⟩ := hrm
                  simp only [eszIs] at hc2
                  obtain rfl := Nat.eq_of_beq_eq_true hc2
                  obtain ⟨cap', c0, e0, fr0, hv, y1, y2, y3, y4⟩ := hs.mslice_now (mem_gen hm)
                  simp only [Value.slice.injEq] at hv
                  obtain ⟨rfl, rfl, rfl⟩ := hv
                  rw [q1] at y3
                  simp only [Option.some.injEq, Obj.cells.injEq] at y3
                  obtain ⟨rfl, -, rfl⟩ := y3
                  have hmul : (len + n) * ei.size ≤ cap * ei.size := Nat.mul_le_mul_right _ (by omega)
                  rw [Nat.add_mul] at hmul
                  have hone : ∀ v ∈ us, v.oneCell' = true := allCells_one (F := g.F) x1 k0.1
                  obtain ⟨c', r1, r2, r3⟩ := run_storeCells (P := P) (o := len * ei.size) us 0 w c q1 (by omega) (q5 trivial).2 hone
                  have hold : ∀ (i : Nat) (v : Value), vs'[i]? = some v → c[i]? = some v := by
                    intro i v hi
                    have hil := (List.getElem?_eq_some_iff.1 hi).1
                    simp only [contents, hm] at hcs
                    rcases hca : cellsAt bc 0 (len * ei.size) with _ | cs <;> simp only [hca] at hcs
                    · cases hcs
                    have e1 := sn w rfl
                    have e2 := run_firstCells_some (P := P) w ei.size len ⟨g.φ b', 0, none⟩ len cap (bvs.take (len * ei.size)) (by
                      obtain ⟨h5, -⟩ := takeL_some hca
                      rw [dropL_eq, List.length_drop] at h5
                      rw [List.length_take, ← q2.length]; simp only; omega) (fun j u hj => by
                        rw [addr_add, Nat.zero_add]
                        rw [List.getElem?_take] at hj
                        split at hj
                        · exact cell_of q1 (q4 _ _ hj)
                        · cases hj)
                    rw [e1] at e2
                    simp only [Result.ok.injEq, and_true] at e2
                    have e3 := congrArg Array.toList e2
                    simp only at e3
                    rw [e3, List.getElem?_take] at hi
                    split at hi
                    · exact q4 _ _ hi
                    · cases hi
                  refine ⟨.slice (some ⟨g.φ b', 0, none⟩) (len + n) cap, wrote w (g.φ b') c', g, ?_, ?_, ?_, ?_⟩
                  · rw [run_append_in t u ty _ info i1 hu du hu2 hdu _ len cap n vx us.toArray (x4 w) (by omega) (by rw [i2]; exact xn w rfl)]
                    simp only [addr_add, Sem.run_bind, i2, Nat.zero_add, r1, Result.andThen_ok, Sem.run_pure]
                  · simp only [Heap.puts]
                    refine hr.write hat q1 r2 (Nat.le_succ gen') hnew hpure fun i v hi => ?_
                    rw [← Array.getElem?_toList, r3, Nat.add_zero, setsL_get _ _ _ _ (by simp; omega)]
                    by_cases hin : len * ei.size ≤ i
                    · rw [List.getElem?_append_right (by omega), s3] at hi
                      have := (List.getElem?_eq_some_iff.1 hi).1
                      rw [if_pos (by omega)]; exact hi
                    · rw [List.getElem?_append_left (by omega)] at hi
                      rw [if_neg (by omega), Array.getElem?_toList]
                      exact hold _ _ hi
                  · simp only [Heap.puts]
                    refine .mslice (n := gen' + 1) ?_ (Nat.le_refl _) rfl (by omega) (fun hf => by cases hf) fun _ => ⟨rfl, c', _, fr, wrote_same q1, by rw [r2]; omega⟩
                    rw [gen?_put, if_pos rfl]
                  · simp only [Heap.puts]
                    exact .write hr hat q1 r2 (Nat.le_succ gen')
              | fslice _ _ _ full _ => cases full <;> simp [roomOf] at hrm
              | _ => simp [roomOf] at hrm
          · exact (fail_inv h4).elim
    · exact (fail_inv hb).elim
  | _ => simp only [hd] at hb; exact (fail_inv hb).elim

end
end Go.Am
end
noncomputable section
namespace Go.Am

section
variable {P : Program} {E : Env} (hE : EnvOK P E) {w : World} {g : Gh} {h : Heap}

theorem setsL_eq {α : Type} {cells vs : List α} {off : Nat} (h : off + vs.length ≤ cells.length) : setsL cells off vs = cells.take off ++ (vs ++ cells.drop (off + vs.length)) := by
  apply List.ext_getElem?
  intro i
  rw [setsL_get _ _ _ _ h]
  by_cases h1 : i < off
  · rw [if_neg (by omega), List.getElem?_append_left (by rw [List.length_take]; omega), List.getElem?_take, if_pos h1]
  · have hl : (cells.take off).length = off := by rw [List.length_take]; omega
    rw [List.getElem?_append_right (by omega), hl]
    by_cases h2 : i < off + vs.length
    · rw [if_pos (by omega), List.getElem?_append_left (by omega)]
    · rw [if_neg (by omega), List.getElem?_append_right (by omega), List.getElem?_drop]
      congr 1
      omega

include hE in
theorem copyA_ok (hr : HR E w g h) {t ty : Nat} {ts : Array Nat} {d s : AV} {vd vs : Value} {o : Out} {tr tr' : Tr} (ht : ts[0]? = some t) (hd : VR w g h d vd) (hs : VR w g h s vs)
    (hb : copyA E h t d s tr = some (o, tr')) (ho : tr'.holds) : tr.holds ∧ Ran P E w g h (Builtin.copy_ ts ty #[vd, vs]) o.val o.upd := by
  unfold copyA at hb
  rcases hti : E.ti t with _ | ti <;> simp only [hti] at hb
  · exact (fail_inv hb).elim
  obtain ⟨dd, hu, hT⟩ := hE.under hti
  cases hdd : ti.desc with
  | slice e =>
    simp only [hdd] at hb hT
    cases dd <;> simp only [TDok] at hT
    subst hT
    rcases hei : E.ti e with _ | ei <;> simp only [hei] at hb
    · exact (fail_inv hb).elim
    rcases hcx : contents h s with _ | ⟨src, slen, spure⟩ <;> simp only [hcx] at hb
    · exact (fail_inv hb).elim
    split at hb
    · rename_i hcond
      simp only [Bool.and_eq_true] at hcond
      obtain ⟨us, x1, x2, x3, x4, x5, -⟩ := contents_ok (P := P) hr hs hcx hcond.1
      have run : ∀ (base : Option Addr) (dLen dCap : Nat), vd = .slice base dLen dCap → (Builtin.copy_ ts ty #[vd, vs]).run P w =
          ((do if let some a := base then storeCells a (us.take (Nat.min slen dLen * ei.size))
               pure (goInt (Nat.min slen dLen)) : Sem Value)).run P w := by
        intro base dLen dCap hv
        subst hv
        have := x5 (Nat.min slen dLen) (Nat.min_le_left _ _) w rfl
        cases base <;> simp [Builtin.copy_, ht, run_underlying hu, x4 w, hE.runSize hei, this]
      have zero : ∀ (base : Option Addr) (dCap : Nat), vd = .slice base 0 dCap → Ran P E w g h (Builtin.copy_ ts ty #[vd, vs]) (.int .i64 0) [] := by
        intro base dCap hv
        refine ⟨.int .i64 0, w, g, ?_, hr, .fr (.int _ _), .refl w g h⟩
        rw [run base 0 dCap hv]
        have : Nat.min slen 0 = 0 := Nat.min_zero _
        cases base <;> simp [this, storeCells, goInt]
      cases d with
      | nilslice =>
        obtain ⟨rfl, rfl⟩ := pure_inv hb
        exact ⟨ho, zero _ _ hd.nilslice⟩
      | fslice cs esz l full nn =>
        cases l with
        | zero =>
          obtain ⟨rfl, rfl⟩ := pure_inv hb
          refine ⟨ho, ?_⟩
          cases hd with
          | fr hf =>
            cases hf with
            | fempty => exact zero _ _ rfl
            | fslice => exact zero _ _ rfl
        | succ l => exact (fail_inv hb).elim
      | mslice b gen off esz dlen full =>
        simp only at hb
        rcases hm : h.mem b gen with _ | ⟨bc, elem, ro, bp⟩ <;> simp only [hm] at hb
        · exact (fail_inv hb).elim
        split at hb
        · rename_i hif
          simp only [Bool.and_eq_true, Bool.not_eq_true'] at hif
          obtain ⟨hro, hes, hle⟩ := hif
          subst hro
          obtain rfl := Nat.eq_of_beq_eq_true hes
          have hle := Nat.le_of_ble_eq_true hle
          obtain ⟨rfl, rfl⟩ := pure_inv hb
          refine ⟨ho, ?_⟩
          have hat := mem_at hm
          obtain ⟨c, fr, bvs, q1, q2, q3, q4, q5, q6, q7⟩ := mem_blk hr hm
          simp only at hat q1 q2 q3 q5 q7
          obtain ⟨cap, c0, e0, fr0, rfl, y1, y2, y3, y4⟩ := hd.mslice_now (mem_gen hm)
          have hmin : Nat.min slen dlen ≤ slen := Nat.min_le_left _ _
          have hml := Nat.mul_le_mul_right ei.size hmin
          have hone : ∀ v ∈ us.take (Nat.min slen dlen * ei.size), v.oneCell' = true := fun v hv => allCells_one (F := g.F) x1 hcond.2 v (List.mem_of_mem_take hv)
          have hlt : (us.take (Nat.min slen dlen * ei.size)).length = Nat.min slen dlen * ei.size := by rw [List.length_take, x3]; omega
          have hla : (src.take (Nat.min slen dlen * ei.size)).length = Nat.min slen dlen * ei.size := by rw [List.length_take, x1.length, x3]; omega
          obtain ⟨c', r1, r2, r3⟩ := run_storeCells (P := P) (o := off) (us.take (Nat.min slen dlen * ei.size)) 0 w c q1 (by omega) (q5 trivial).2 hone
          have hcells : bc.take off ++ (src.take (Nat.min slen dlen * ei.size) ++ bc.drop (off + Nat.min slen dlen * ei.size)) = setsL bc off (src.take (Nat.min slen dlen * ei.size)) := by
            rw [setsL_eq (by omega), hla]
          rw [hcells]
          have hnew := q2.sets off (x1.take (Nat.min slen dlen * ei.size))
          refine ⟨goInt (Nat.min slen dlen), wrote w (g.φ b) c', g, ?_, ?_, .fr (.int _ _), ?_⟩
          · rw [run _ _ _ rfl]
            simp only [Sem.run_bind, r1, Result.andThen_ok, Sem.run_pure]
          · simp only [Heap.puts]
            refine hr.write hat q1 r2 (Nat.le_refl gen) hnew (fun hp => ?_) fun i v hi => ?_
            · simp only [Bool.and_eq_true] at hp
              exact (q3 hp.1).sets off ((x2 hp.2).take _)
            · rw [← Array.getElem?_toList, r3, Nat.add_zero]
              rw [setsL_get _ _ _ _ (by rw [← q2.length, hlt]; omega)] at hi
              rw [setsL_get _ _ _ _ (by show off + (List.take _ us).length ≤ c.toList.length; rw [hlt, Array.length_toList]; omega)]
              split at hi
              · rename_i hin
                rw [if_pos hin]; exact hi
              · rename_i hin
                rw [if_neg hin, Array.getElem?_toList]; exact q4 _ _ hi
          · simp only [Heap.puts]
            exact .write hr hat q1 r2 (Nat.le_refl gen)
        · exact (fail_inv hb).elim
      | _ => exact (fail_inv hb).elim
    · exact (fail_inv hb).elim
  | _ => simp only [hdd] at hb; exact (fail_inv hb).elim

end
end Go.Am
end
noncomputable section
namespace Go.Am

section
variable {P : Program} {E : Env} (hE : EnvOK P E) {w : World} {g : Gh} {h : Heap}

/-- What an operation gives that touches nothing. -/
def Gives (P : Program) (w : World) (g : Gh) (h : Heap) (s : Sem Value) (r : AV) : Prop := ∃ v, s.run P w = .ok v w ∧ VR w g h r v

theorem Gives.ran (hr : HR E w g h) {s : Sem Value} {r : AV} (hg : Gives P w g h s r) : Ran P E w g h s r [] := by
  obtain ⟨v, h1, h2⟩ := hg
  exact ⟨v, w, g, h1, hr, h2, .refl w g h⟩

/-! ## Bytes -/

theorem u8Nat_inv {a : AV} {n : Nat} {v : Value} (ha : VR w g h a v) (hn : u8Nat a = some n) : v = .int .u8 n ∧ n < 256 := by
  unfold u8Nat at hn
  split at hn
  · rename_i k
    split at hn
    · rename_i hif
      simp only [Bool.and_eq_true, decide_eq_true_eq] at hif
      simp only [Option.some.injEq] at hn
      subst hn
      obtain rfl := ha.int
      refine ⟨?_, by omega⟩
      congr 1
      omega
    · cases hn
  · cases hn

theorem mapO_u8 : ∀ {as : List AV} {vs : List Value} {s : List Nat}, VRs w g h as vs → mapO u8Nat as = some s →
    ∃ l : List UInt8, vs = Lib.byteCells l ∧ l.map UInt8.toNat = s
  | _, _, _, .nil, hm => by
    simp only [mapO, Option.some.injEq] at hm
    subst hm
    exact ⟨[], rfl, rfl⟩
  | _, _, s, .cons (a := a) (as := as) ha hs, hm => by
    simp only [mapO] at hm
    rcases hx : u8Nat a with _ | n <;> rcases hy : mapO u8Nat as with _ | s' <;> simp only [hx, hy] at hm <;> (try cases hm)
    obtain ⟨rfl, hlt⟩ := u8Nat_inv ha hx
    obtain ⟨l, rfl, rfl⟩ := mapO_u8 hs hy
    refine ⟨UInt8.ofNat n :: l, ?_, ?_⟩
    · simp only [Lib.byteCells, List.map_cons, UInt8.toNat_ofNat']
      rw [Nat.mod_eq_of_lt hlt]
    · simp only [List.map_cons, UInt8.toNat_ofNat']
      rw [Nat.mod_eq_of_lt hlt]

theorem bytesOf_mk (l : List UInt8) : bytesOf ⟨l.toArray⟩ = l.map UInt8.toNat := by simp [bytesOf]

theorem run_firstCells_loads {n : Nat} {a : Addr} {len cap : Nat} : Builtin.firstCells 1 n (.slice (some a) len cap) = loadCells a n := by
  simp [Builtin.firstCells]

theorem isU8_ok (hE : EnvOK P E) {e : Nat} (h : isU8 E e = true) : P.underlying e = some (.int .u8) := by
  unfold isU8 at h
  rcases hei : E.ti e with _ | ei <;> simp only [hei] at h
  · cases h
  obtain ⟨d, hu, hT⟩ := hE.under hei
  cases hd : ei.desc with
  | int k =>
    simp only [hd, decide_eq_true_eq] at h hT
    cases d <;> simp only [TDok] at hT
    rw [hu, ← hT, h]
  | _ => simp only [hd] at h; cases h

include hE in
theorem strToBytes_ok (hr : HR E w g h) {src t slot : Nat} {s : List Nat} {v : Value} {o : Out} (hsl : h.at slot = none) {si : TI} (hsi : E.ti src = some si) (hsd : si.desc = .string) (hv : VR w g h (.str s) v)
    (hb : strToBytes E t slot s = some o) : Ran P E w g h (convert src t v) o.val o.upd := by
  unfold strToBytes at hb
  rcases hti : E.ti t with _ | ti <;> simp only [hti] at hb
  · cases hb
  obtain ⟨d, hu, hT⟩ := hE.under hti
  obtain ⟨ds, hus, hTs⟩ := hE.under hsi
  rw [hsd] at hTs
  cases ds <;> simp only [TDok] at hTs
  cases hd : ti.desc with
  | slice e =>
    simp only [hd] at hb hT
    cases d <;> simp only [TDok] at hT
    subst hT
    split at hb
    · rename_i hu8
      simp only [Option.some.injEq] at hb
      subst hb
      obtain ⟨b, rfl, rfl⟩ := hv.str
      have hrun := run_bytes_of_string (P := P) w src t e b hus hu (isU8_ok hE hu8)
      have hrow := str_cells (w := w.drew) b g.F
      have hsz : (bytesRow b (grownCap w b.size 0 e)).size = grownCap w b.size 0 e := by
        have := grownCap_ge w b.size 0 e
        simp only [bytesRow, Array.size_append, Array.size_map, Array.size_replicate]
        have : b.data.size = b.size := rfl
        omega
      obtain ⟨m1, m2⟩ := lay_ok (w := w.drew) hr.drew hsl (elem := e) (c := bytesRow b (grownCap w b.size 0 e)) (fr := ((bytesRow b (grownCap w b.size 0 e)).size, (bytesRow b (grownCap w b.size 0 e)).size + 1))
        (pr := true) hrow.vrs (fun i v hi => by
          rw [← Array.getElem?_toList, bytesRow, Array.toList_append, Array.toList_map]
          rw [List.getElem?_append_left (by simpa using (List.getElem?_eq_some_iff.1 hi).1)]
          exact hi) (fun _ => hrow) (fun i hi => by simp; omega)
      refine ⟨_, _, _, hrun, m1, ?_, Stp.drew.trans m2⟩
      rw [bytesOf_length]
      exact lay_slice (w := w.drew) rfl (grownCap_ge _ _ _ _) (fun hf => by cases hf) (by rw [hsz]; omega)
    · cases hb
  | _ => simp only [hd] at hb; cases hb

theorem liesAt_whole {e : TypeId} {count : Nat} (hc : P.cellsOf e ≠ 0) (hn : 1 ≤ count) : liesAt P P.depth e count 0 e 1 = true := by
  have hd : P.depth = (2 * (P.types.size + Made.depth) + 1) + 1 := rfl
  rw [hd]
  simp only [liesAt, Bool.or_eq_true]
  left
  rw [hd]
  simp [rowAt, hc, hn, sameLayout]

include hE in
theorem convertA_ok (hr : HR E w g h) {src dst : Nat} {x r : AV} {v : Value} {tr tr' : Tr} (hx : VR w g h x v) (hc : convertA E h src dst x tr = some (r, tr')) (ho : tr'.holds) :
    tr.holds ∧ Gives P w g h (convert src dst v) r := by
  unfold convertA at hc
  rcases hsi : E.ti src with _ | si <;> simp only [hsi] at hc
  · exact (fail_inv hc).elim
  rcases hdi : E.ti dst with _ | di <;> simp only [hdi] at hc
  · exact (fail_inv hc).elim
  obtain ⟨ds, hus, hTs⟩ := hE.under hsi
  obtain ⟨dd, hud, hTd⟩ := hE.under hdi
  have sl : (match si.desc with
        | .slice e =>
          match di.desc with
          | .string =>
            if isU8 E e && (isSlice x && eszIs 1 x) then
              match contents h x with
              | none => fail
              | some (cells, _) => do
                let s ← readNats (mapO u8Nat cells)
                pure (.str s)
            else fail
          | _ => fail
        | _ => fail : M AV) tr = some (r, tr') → tr.holds ∧ Gives P w g h (convert src dst v) r := by
    intro hc
    cases hs : si.desc with
    | slice e =>
      cases hd : di.desc with
      | string =>
        simp only [hs, hd] at hc hTs hTd
        cases ds <;> simp only [TDok] at hTs
        cases dd <;> simp only [TDok] at hTd
        subst hTs
        split at hc
        · rename_i hif
          simp only [Bool.and_eq_true] at hif
          have hue := isU8_ok hE hif.1
          rcases hct : contents h x with _ | ⟨cells, len, pr⟩ <;> simp only [hct] at hc
          · exact (fail_inv hc).elim
          obtain ⟨s, t1, h1, h2⟩ := bind_inv hc
          obtain ⟨rfl, rfl⟩ := pure_inv h2
          obtain ⟨h3, h4⟩ := readNats_inv h1 ho
          obtain ⟨vs, k1, k2, k3, k4, k5, k6⟩ := contents_ok (P := P) hr hx hct hif.2.2
          obtain ⟨base, cap, rfl⟩ := k6 hif.2.1
          obtain ⟨l, rfl, rfl⟩ := mapO_u8 k1 h3
          have hll : l.length = len := by rw [Lib.byteCells_length] at k3; omega
          have k7 := k5 len (Nat.le_refl _) w rfl
          rw [List.take_of_length_le (by omega)] at k7
          refine ⟨h4, .string ⟨l.toArray⟩, ?_, .fr (.str (bytesOf_mk l))⟩
          rw [run_convert_bytes_string w src _ _ _ _ _ hus hue hud]
          cases base with
          | none =>
            have : l = [] := by
              rw [run_firstCells_none] at k7
              simp only [Result.ok.injEq, and_true] at k7
              have := congrArg Array.size k7
              simp only [List.size_toArray, Lib.byteCells_length] at this
              exact List.length_eq_zero_iff.1 this.symm
            subst this
            rfl
          | some a =>
            rw [run_firstCells_loads] at k7
            have e1 : (Lib.byteCells l).toArray = ((l.map fun b => (b.toNat : Int)).map (Value.int .u8)).toArray := by simp [Lib.byteCells]
            rw [e1] at k7
            rw [run_bytesToString w a len cap _ k7, foldl_push_byteCells]
            have he0 : ByteArray.empty.data = #[] := rfl
            rw [he0]
            simp
        · exact (fail_inv hc).elim
      | _ => simp only [hs, hd] at hc; exact (fail_inv hc).elim
    | _ => simp only [hs] at hc; exact (fail_inv hc).elim
  cases x with
  | int k n =>
    simp only at hc
    obtain rfl := hx.int
    cases hd : di.desc with
    | int k =>
      simp only [hd] at hc hTd
      obtain ⟨rfl, rfl⟩ := pure_inv hc
      cases dd <;> simp only [TDok] at hTd
      subst hTd
      exact ⟨ho, _, by simp [convert, run_underlying hus, run_underlying hud, Conv.intToInt], .fr (.int _ _)⟩
    | string =>
      simp only [hd] at hc hTd
      obtain ⟨rfl, rfl⟩ := pure_inv hc
      cases dd <;> simp only [TDok] at hTd
      exact ⟨ho, _, by simp [convert, run_underlying hus, run_underlying hud, Conv.intToString], .fr (.str rfl)⟩
    | _ => simp only [hd] at hc; exact (fail_inv hc).elim
  | str s =>
    simp only at hc
    obtain ⟨b, rfl, rfl⟩ := hx.str
    cases hd : di.desc with
    | string =>
      simp only [hd] at hc hTd
      obtain ⟨rfl, rfl⟩ := pure_inv hc
      cases dd <;> simp only [TDok] at hTd
      exact ⟨ho, _, by simp [convert, run_underlying hus, run_underlying hud], .fr (.str rfl)⟩
    | _ => simp only [hd] at hc; exact (fail_inv hc).elim
  | nilptr =>
    simp only at hc
    obtain rfl := hx.nilptr
    cases hs : si.desc <;> cases hd : di.desc <;> simp only [hs, hd] at hc hTs hTd <;> (try exact (fail_inv hc).elim) <;>
      (obtain ⟨rfl, rfl⟩ := pure_inv hc
       cases ds <;> simp only [TDok] at hTs
       cases dd <;> simp only [TDok] at hTd
       exact ⟨ho, _, by simp [convert, run_underlying hus, run_underlying hud, Conv.unsafePointer], .fr .nilptr⟩)
  | ptr b gen off =>
    simp only at hc
    have wh : ∀ p, wholeA E h p b gen off = true → v = .pointer (some ⟨g.φ b, 0, none⟩) ∧ off = 0 ∧ ∃ n, w.shape? (g.φ b) = some (p, n) ∧ 0 < P.cellsOf p ∧ P.cellsOf p ≤ n ∧
        (sizeOf p).run P w = .ok (P.cellsOf p) w := by
      intro p hw
      unfold wholeA at hw
      rcases hpi : E.ti p with _ | pi <;> simp only [hpi] at hw
      · cases hw
      rcases hm : h.mem b gen with _ | ⟨cells, elem, ro, pr⟩ <;> simp only [hm] at hw
      · cases hw
      simp only [Bool.and_eq_true] at hw
      obtain rfl := Nat.eq_of_beq_eq_true hw.1
      obtain rfl := Nat.eq_of_beq_eq_true hw.2.1
      have h1 := Nat.le_of_ble_eq_true hw.2.2.1
      have h2 : 0 < pi.size := Nat.blt_eq ▸ hw.2.2.2
      obtain ⟨c, fr, vs, k1, k2, k3, k4, k5, k6, k7⟩ := mem_blk hr hm
      simp only at k1 k7
      have hce := cellsOf_ti hE hpi
      exact ⟨hx.ptr_now (mem_gen hm), rfl, c.size, by simp [World.shape?, k1], by omega, by omega, by rw [hce]; exact hE.runSize hpi w⟩
    cases hs : si.desc <;> cases hd : di.desc <;> simp only [hs, hd] at hc hTs hTd <;> (try exact (fail_inv hc).elim)
    · split at hc
      · rename_i hw
        obtain ⟨rfl, rfl⟩ := pure_inv hc
        cases ds <;> simp only [TDok] at hTs
        cases dd <;> simp only [TDok] at hTd
        subst hTs
        obtain ⟨rfl, rfl, n, k1, k2, k3, k4⟩ := wh _ hw
        refine ⟨ho, _, ?_, hx⟩
        have k5 : ¬ P.cellsOf _ = 0 := Nat.ne_of_gt k2
        have k6 : ¬ n = 0 := by omega
        simp [convert, run_underlying hus, run_underlying hud, Conv.unsafePointer, Conv.seenAt, viewAt, cellsIn, k1, k4, k5, k6]
      · exact (fail_inv hc).elim
    · split at hc
      · rename_i hw
        obtain ⟨rfl, rfl⟩ := pure_inv hc
        cases ds <;> simp only [TDok] at hTs
        cases dd <;> simp only [TDok] at hTd
        subst hTd
        obtain ⟨rfl, rfl, n, k1, k2, k3, k4⟩ := wh _ hw
        refine ⟨ho, _, ?_, hx⟩
        have k5 : ¬ P.cellsOf _ = 0 := Nat.ne_of_gt k2
        have k6 := liesAt_whole (P := P) k5 (count := n / P.cellsOf _) (Nat.div_pos k3 k2)
        simp [convert, run_underlying hus, run_underlying hud, Conv.unsafePointer, Conv.seenAt, viewAt, cellsIn, variablesAt, k1, k4, k5, k6]
      · exact (fail_inv hc).elim
  | _ => exact sl hc

end
end Go.Am
end
noncomputable section
namespace Go.Am

section
variable {P : Program} {E : Env} (hE : EnvOK P E) {w : World} {g : Gh} {h : Heap}

/-! ## unsafe.String -/

/-- A block that is frozen for good. -/
def Gh.fix (g : Gh) (p : Nat) : Gh := ⟨g.φ, fun q => g.F q ∨ q = p⟩

/-- A world in which one block's mark is another. -/
def marked (w : World) (p : Nat) (fr : Nat × Nat) : World :=
  { w with heap := w.heap.modify p fun | .cells c e _ => .cells c e fr | o => o }

theorem marked_other (w : World) (p : Nat) (fr : Nat × Nat) {q : Nat} (hq : q ≠ p) : (marked w p fr).heap[q]? = w.heap[q]? := by
  simp [marked, Array.getElem?_modify, Ne.symm hq]
theorem marked_same {p e : Nat} {c : Array Value} {fr fr' : Nat × Nat} (hp : w.heap[p]? = some (.cells c e fr)) : (marked w p fr').heap[p]? = some (.cells c e fr') := by
  simp [marked, Array.getElem?_modify, hp]

theorem freeze_marked {p o n e : Nat} {c : Array Value} {fr : Nat × Nat} (hp : w.heap[p]? = some (.cells c e fr)) (hn : n ≠ 0) : ∃ fr', w.freeze ⟨p, o, none⟩ n = marked w p fr' := by
  refine ⟨if fr.1 == fr.2 then (o, o + n) else (min fr.1 o, max fr.2 (o + n)), ?_⟩
  unfold World.freeze marked
  rw [if_neg hn]
  congr 1
  apply Array.ext_getElem?
  intro q
  simp only [Array.getElem?_modify]
  split
  · rename_i hq
    subst hq
    simp [hp]
  · rfl

theorem mark_ok (hr : HR E w g h) {b elem gen : Nat} {cells : List AV} {pr : Bool} {c : Array Value} {fr fr' : Nat × Nat} {vs : List Value} (hb : h.at b = some (.mem cells elem gen false pr))
    (hp : w.heap[g.φ b]? = some (.cells c elem fr)) (hv : VRs w g h cells vs) (hpv : FRs w g.F cells vs) (hc : ∀ (i : Nat) (v : Value), vs[i]? = some v → c[i]? = some v) :
    HR E (marked w (g.φ b) fr') (g.fix (g.φ b)) (h.put b (.mem cells elem gen true true)) ∧ Stp w g h (marked w (g.φ b) fr') (g.fix (g.φ b)) (h.put b (.mem cells elem gen true true)) := by
  have hlt : g.φ b < w.heap.size := (Array.getElem?_eq_some_iff.1 hp).1
  have hsz : (marked w (g.φ b) fr').heap.size = w.heap.size := by simp [marked]
  have hs : Stp w g h (marked w (g.φ b) fr') (g.fix (g.φ b)) (h.put b (.mem cells elem gen true true)) := {
    size := by omega
    frame := fun p _ ho => marked_other w _ _ (fun he => ho ⟨b, _, hb, rfl, he.symm⟩)
    shape := fun p c1 e fr1 h1 => by
      by_cases he : p = g.φ b
      · subst he
        rw [hp] at h1
        simp only [Option.some.injEq, Obj.cells.injEq] at h1
        obtain ⟨rfl, rfl, rfl⟩ := h1
        exact ⟨c, fr', marked_same hp, rfl⟩
      · exact ⟨c1, fr1, by rw [marked_other w _ _ he, h1], rfl⟩
    fst := fun _ hp => .inl hp
    fnew := fun p hp => hp.imp id fun he => .inl ⟨b, _, hb, rfl, he.symm⟩
    own := fun p hp => by
      rcases Own_put (g := g) (fun _ _ _ _ => rfl) hp with h1 | ⟨h1, _⟩
      · exact .inl h1
      · cases h1
    gens := fun b' n hn => by
      by_cases he : b' = b
      · subst he
        simp only [Heap.gen?, hb, Option.some.injEq] at hn
        subst hn
        exact ⟨gen, by rw [gen?_put, if_pos rfl], Nat.le_refl _, fun _ => rfl⟩
      · exact ⟨n, by rw [gen?_put, if_neg he, hn], Nat.le_refl _, fun _ => rfl⟩
    tape := rfl
    os := rfl
    output := rfl }
  have hne : ∀ b' y, b' ≠ b → h.at b' = some y → g.φ b' ≠ g.φ b := by
    intro b' y hne hy he
    cases hyr : y.ro with
    | false => exact hne (hr.inj b' b _ _ hy hb hyr rfl he)
    | true =>
      cases y with
      | iter => cases hyr
      | mem cells2 e2 g2 ro2 pr2 =>
        obtain ⟨-, -, -, -, -, -, -, -, hF⟩ := hr.blk b' _ hy
        have hF2 := hF hyr
        rw [he] at hF2
        exact hr.notOwn hF2 ⟨b, _, hb, rfl, rfl⟩
  refine ⟨hr.put hs (fun _ _ _ _ => rfl) (fun b' y hn hy => marked_other w _ _ (hne b' y hn hy)) (fun b' y hn hy hyr hF => ?_) ?_ (fun hh => by cases hh) (fun p hpF => ?_), hs⟩
  · rcases hF with hF | hF
    · exact hr.notOwn hF ⟨b', y, hy, hyr, rfl⟩
    · exact hne b' y hn hy hF
  · exact ⟨c, fr', vs, marked_same hp, hv.step hr hs, fun _ => hpv.step hr hs, hc, fun hh => (by cases hh), fun _ => .inr rfl⟩
  · rw [hsz]
    rcases hpF with hF | rfl
    · exact hr.lim p hF
    · exact hlt

include hE in
theorem unsafeStringA_ok (hr : HR E w g h) {t it ty : Nat} {p n : AV} {vp vn : Value} {o : Out} {tr tr' : Tr} (hp : VR w g h p vp) (hn : VR w g h n vn) (hb : unsafeStringA E h t p n tr = some (o, tr')) (ho : tr'.holds) :
    tr.holds ∧ Ran P E w g h (Builtin.unsafeString_ #[t, it] ty #[vp, vn]) o.val o.upd := by
  unfold unsafeStringA at hb
  cases n with
  | int k n =>
    cases k <;> (try exact (fail_inv hb).elim)
    obtain rfl := hn.int
    simp only at hb
    obtain ⟨u, t1, h1, h2⟩ := bind_inv hb
    obtain ⟨e, t2, h3, h4⟩ := bind_inv h2
    have key : t2.holds → tr.holds ∧ (0 ≤ n ∧ n ≤ 9223372036854775807) ∧ decide (n = 0) = e := by
      intro ho2
      obtain ⟨k1, k2⟩ := decideB_inv h3 ho2
      obtain ⟨k3, k4⟩ := check_inv h1 k2
      simp only [Bool.and_eq_true, decide_eq_true_eq] at k3
      exact ⟨k4, k3, k1⟩
    split at h4
    · rename_i he
      subst he
      have hemp : FR w g.F (.str []) (.string .empty) := .str rfl
      cases p with
      | nilptr =>
        obtain ⟨rfl, rfl⟩ := pure_inv h4
        obtain ⟨m1, m2, m3⟩ := key ho
        have := of_decide_eq_true m3
        subst this
        obtain rfl := hp.nilptr
        exact ⟨m1, _, w, g, Lib.run_unsafeString_none w t it ty none, hr, .fr hemp, .refl w g h⟩
      | ptr b gen off =>
        obtain ⟨rfl, rfl⟩ := pure_inv h4
        obtain ⟨m1, m2, m3⟩ := key ho
        have := of_decide_eq_true m3
        subst this
        obtain ⟨a, rfl⟩ := hp.ptr_some
        exact ⟨m1, _, w, g, Lib.run_unsafeString_none w t it ty (some a), hr, .fr hemp, .refl w g h⟩
      | _ => exact (fail_inv h4).elim
    · rename_i he
      have he : e = false := by simpa using he
      subst he
      rcases hti : E.ti t with _ | ti <;> simp only [hti] at h4
      · exact (fail_inv h4).elim
      obtain ⟨d, hu, hT⟩ := hE.under hti
      cases hd : ti.desc with
      | ptr bt =>
        simp only [hd] at h4 hT
        cases d <;> simp only [TDok] at hT
        subst hT
        rcases hbi : E.ti bt with _ | bi <;> simp only [hbi] at h4
        · exact (fail_inv h4).elim
        cases p with
        | ptr b gen off =>
          simp only at h4
          rcases hm : h.mem b gen with _ | ⟨cells, elem, ro, pr⟩ <;> simp only [hm] at h4
          · exact (fail_inv h4).elim
          split at h4
          · rename_i hif
            simp only [Bool.and_eq_true, Bool.not_eq_true'] at hif
            obtain ⟨i1, i2, i3, rfl, rfl⟩ := hif
            have i1 := Nat.eq_of_beq_eq_true i1
            obtain rfl := Nat.eq_of_beq_eq_true i2
            obtain rfl := Nat.eq_of_beq_eq_true i3
            obtain ⟨cs, t3, h5, h6⟩ := bind_inv h4
            obtain ⟨s, t4, h7, h8⟩ := bind_inv h6
            obtain ⟨rfl, rfl⟩ := pure_inv h8
            obtain ⟨m1, m2⟩ := readNats_inv h7 ho
            obtain ⟨m3, m4⟩ := readCells_inv h5 m2
            obtain ⟨m5, m6, m7⟩ := key m4
            have hne := of_decide_eq_false m7
            have hat := mem_at hm
            obtain ⟨c, fr, vs, q1, q2, q3, q4, q5, q6, q7⟩ := mem_blk hr hm
            simp only at hat q1 q2 q3 q7
            obtain ⟨r1, rfl⟩ := takeL_some m3
            obtain ⟨l, hl, rfl⟩ := mapO_u8 (q2.take n.toNat) m1
            have hnow := hp.ptr_now (mem_gen hm)
            subst hnow
            have hll : l.length = n.toNat := by
              have := congrArg List.length hl
              rw [List.length_take, ← q2.length, Lib.byteCells_length] at this
              omega
            have hcell : ∀ j x, l[j]? = some x → w.cell? ((⟨g.φ b, 0, none⟩ : Addr).add j) = some (.int .u8 x.toNat) := by
              intro j x hj
              rw [addr_add, Nat.zero_add]
              refine cell_of q1 (q4 _ _ ?_)
              have : (vs.take n.toNat)[j]? = some (Value.int .u8 x.toNat) := by rw [hl]; simp [Lib.byteCells, hj]
              rw [List.getElem?_take] at this
              split at this
              · exact this
              · cases this
            have hrun := Lib.run_unsafeString_row (P := P) w t it ty elem hu (by rw [cellsOf_ti hE hbi, i1]) (g.φ b) c.size (by simp [World.shape?, q1]) l (by rintro rfl; simp at hll; omega) (by omega) (by omega) hcell
            have hln : (l.length : Int) = n := by omega
            rw [hln] at hrun
            obtain ⟨fr', hfz⟩ := freeze_marked (w := w) (p := g.φ b) (o := 0) (n := l.length) q1 (by omega)
            rw [hfz] at hrun
            obtain ⟨z1, z2⟩ := mark_ok (fr' := fr') hr hat q1 q2 (q3 trivial) q4
            exact ⟨m5, _, _, _, hrun, z1, .fr (.str (bytesOf_mk l)), z2⟩
          · exact (fail_inv h4).elim
        | _ => exact (fail_inv h4).elim
      | _ => simp only [hd] at h4; exact (fail_inv h4).elim
  | _ => exact (fail_inv hb).elim

/-! ## Going through a string -/

include hE in
theorem rangeA_ok (hr : HR E w g h) {t slot : Nat} {s : List Nat} {v : Value} (hs : h.at slot = none) {ti : TI} (hti : E.ti t = some ti) (hd : ti.desc = .string) (hv : VR w g h (.str s) v) :
    Ran P E w g h (Instr.range t v) (.ptr slot 0 0) [(slot, .iter s 0)] := by
  obtain ⟨b, rfl, rfl⟩ := hv.str
  obtain ⟨d, hu, hT⟩ := hE.under hti
  rw [hd] at hT
  cases d <;> simp only [TDok] at hT
  refine ⟨_, w.alloc (.stringIter b 0), g.lay slot w.heap.size, ?_, ?_, lay_ptr rfl, .laid hr hs⟩
  · rw [run_range_string (P := P) w t b hu]; rfl
  · refine hr.laid hs ⟨fun hF => ?_, b, rfl, ?_⟩
    · have := hr.lim _ hF
      simp [Gh.lay] at this
    · simp only [Gh.lay, if_true]; exact laid_new w _

theorem ofNat_bytes (s : ByteArray) : (⟨((bytesOf s).map UInt8.ofNat).toArray⟩ : ByteArray) = s := by
  apply ByteArray.ext
  have : (UInt8.ofNat ∘ UInt8.toNat) = id := by funext x; simp
  simp [bytesOf, this]

theorem nextA_ok (hr : HR E w g h) {ty : Nat} {p : AV} {v : Value} {o : Out} {tr tr' : Tr} (hp : VR w g h p v) (hb : nextA h p tr = some (o, tr')) (ho : tr'.holds) :
    tr.holds ∧ Ran P E w g h (Instr.next v true ty) o.val o.upd := by
  unfold nextA at hb
  cases p with
  | ptr b gen off =>
    cases gen <;> cases off <;> simp only at hb <;> (try exact (fail_inv hb).elim)
    rcases hx : h.at b with _ | x <;> simp only [hx] at hb
    · exact (fail_inv hb).elim
    cases x with
    | mem => exact (fail_inv hb).elim
    | iter s pos =>
      simp only at hb
      obtain ⟨more, t1, h1, h2⟩ := bind_inv hb
      have hnow := hp.ptr_now (by simp [Heap.gen?, hx])
      subst hnow
      obtain ⟨k1, s', rfl, k3⟩ := hr.blk b _ hx
      rw [bytesOf_length] at h1
      split at h2
      · rename_i hm
        subst hm
        obtain ⟨d0, t2, h3, h4⟩ := bind_inv h2
        obtain ⟨rfl, rfl⟩ := pure_inv h4
        obtain ⟨rfl, ho1⟩ := readPair_inv h3 ho
        obtain ⟨m1, m2⟩ := decideB_inv h1 ho1
        have hlt : pos < s'.size := by simpa [Nat.blt_eq] using m1
        refine ⟨m2, ?_⟩
        have hlt2 : g.φ b < w.heap.size := (Array.getElem?_eq_some_iff.1 k3).1
        rw [ofNat_bytes]
        generalize hdd : Utf8.decode s' pos = dd
        obtain ⟨c, width⟩ := dd
        let w' : World := { w with heap := w.heap.setIfInBounds (g.φ b) (.stringIter s' (pos + width)) }
        have hother : ∀ q, q ≠ g.φ b → w'.heap[q]? = w.heap[q]? := fun q hq => by
          show (w.heap.setIfInBounds _ _)[q]? = _
          rw [Array.getElem?_setIfInBounds_ne (Ne.symm hq)]
        have hsame : w'.heap[g.φ b]? = some (.stringIter s' (pos + width)) := by
          show (w.heap.setIfInBounds _ _)[g.φ b]? = _
          rw [Array.getElem?_setIfInBounds_self_of_lt hlt2]
        have hsz : w'.heap.size = w.heap.size := by
          show (w.heap.setIfInBounds _ _).size = _
          simp
        have hne : ∀ b' y, b' ≠ b → h.at b' = some y → g.φ b' ≠ g.φ b := by
          intro b' y hne hy he
          cases hyr : y.ro with
          | false => exact hne (hr.inj b' b _ _ hy hx hyr rfl he)
          | true =>
            cases y with
            | iter => cases hyr
            | mem cells2 e2 g2 ro2 pr2 =>
              obtain ⟨-, -, -, -, -, -, -, -, hF⟩ := hr.blk b' _ hy
              have hF2 := hF hyr
              rw [he] at hF2
              exact k1 hF2
        have hs : Stp w g h w' g (h.put b (.iter (bytesOf s') (pos + width))) := {
          size := by omega
          frame := fun p _ hno => hother p (fun he => hno ⟨b, _, hx, rfl, he.symm⟩)
          shape := fun p c1 e fr1 h1 => by
            by_cases he : p = g.φ b
            · subst he
              rw [k3] at h1
              cases h1
            · exact ⟨c1, fr1, by rw [hother p he, h1], rfl⟩
          fst := fun _ hp => hp
          fnew := fun _ hp => .inl hp
          own := fun p hp => by
            rcases Own_put (g := g) (fun _ _ _ _ => rfl) hp with h1 | ⟨_, h1⟩
            · exact .inl h1
            · exact .inl ⟨b, _, hx, rfl, h1.symm⟩
          gens := fun b' n hn => by
            by_cases he : b' = b
            · subst he
              simp only [Heap.gen?, hx, Option.some.injEq] at hn
              subst hn
              exact ⟨0, by rw [gen?_put, if_pos rfl], Nat.le_refl _, fun _ => rfl⟩
            · exact ⟨n, by rw [gen?_put, if_neg he, hn], Nat.le_refl _, fun _ => rfl⟩
          tape := rfl
          os := rfl
          output := rfl }
        refine ⟨.tuple #[.bool true, goInt pos, .int .i32 c], w', g, ?_, ?_, .fr (.tuple (cs := [_, _, _]) (.cons (.bool _) (.cons (.int _ _) (.cons (.int _ _) .nil)))), ?_⟩
        · simp only [Instr.next, getObj, setObj, Sem.run_bind, Sem.run, k3, Result.andThen, hlt, if_true, hdd]
          rfl
        · simp only [Heap.puts]
          refine hr.put hs (fun _ _ _ _ => rfl) (fun b' y hn hy => hother _ (hne b' y hn hy)) (fun b' y hn hy hyr hF => hr.notOwn hF ⟨b', y, hy, hyr, rfl⟩) ⟨k1, s', rfl, hsame⟩
            (fun _ b' y hn hy hyr he => hn (hr.inj b' b _ _ hy hx hyr rfl he.symm)) (fun p hp => by rw [hsz]; exact hr.lim p hp)
        · simp only [Heap.puts]; exact hs
      · rename_i hm
        have hm : more = false := by simpa using hm
        subst hm
        obtain ⟨rfl, rfl⟩ := pure_inv h2
        obtain ⟨m1, m2⟩ := decideB_inv h1 ho
        have hlt : ¬ pos < s'.size := by
          intro hh
          rw [← Nat.blt_eq, m1] at hh
          cases hh
        refine ⟨m2, .tuple #[.bool false], w, g, ?_, hr, .fr (.tuple (cs := [_]) (.cons (.bool _) .nil)), .refl w g h⟩
        simp [Instr.next, getObj, Sem.run, k3, hlt]
  | _ => exact (fail_inv hb).elim

end
end Go.Am
end
noncomputable section
namespace Go.Am

section
variable {P : Program} {E : Env} (hE : EnvOK P E) {w : World} {g : Gh} {h : Heap}

include hE in
theorem zeroOf_ok {t : Nat} {ti : TI} (hti : E.ti t = some ti) : ∃ z, (∀ w, (zeroValue t).run P w = .ok z w) ∧ ∀ (w : World) (g : Gh) (h : Heap), VR w g h (zeroOf ti) z := by
  obtain ⟨z, h1, h2, h3, h4⟩ := hE.runZero hti
  refine ⟨z, h1, fun w g h => ?_⟩
  unfold zeroOf
  cases hd : ti.desc.agg with
  | true =>
    simp only [if_true]
    rw [h3 hd, h2]
    simp only [Value.cells]
    exact .agg (cs := z.cells.toList) (cv0_rels w g h _)
  | false =>
    simp only [Bool.false_eq_true, if_false]
    rw [h2, h4 hd]
    simp only [List.map_cons, List.map_nil, List.head?_cons, Option.getD_some]
    exact cv0_rel w g h z

include hE in
theorem typeAssertA_ok {x r : AV} {v : Value} {xt t : Nat} {ok : Bool} (hx : VR w g h x v) (hr : typeAssertA E x t ok = some r) : Gives P w g h (Instr.typeAssert v xt t ok) r := by
  unfold typeAssertA at hr
  rcases hti : E.ti t with _ | ti <;> simp only [hti] at hr
  · cases hr
  obtain ⟨d, hu, hT⟩ := hE.under hti
  obtain ⟨z, hz, hzr⟩ := zeroOf_ok hE hti
  have hni : ∀ ms, d ≠ .interface ms := by
    rintro ms rfl
    cases hd : ti.desc <;> simp only [hd, TDok] at hT hr
    cases hr
  have hx' := hx.unfz'
  have hr' : (match unfz x with
      | .iface t' v => if t' = t then some (if ok then AV.tuple [v, .bool true] else v)
        else if ok then some (.tuple [zeroOf ti, .bool false]) else none
      | .niliface => if ok then some (.tuple [zeroOf ti, .bool false]) else none
      | _ => none) = some r := by
    cases hd : ti.desc <;> simp only [hd] at hr <;> first | exact hr | cases hr
  clear hr
  cases hx2 : unfz x with
  | iface t' a =>
    rw [hx2] at hx' hr'
    simp only at hr'
    obtain ⟨u, rfl, hu'⟩ := hx'.iface'
    split at hr'
    · rename_i he
      subst he
      simp only [Option.some.injEq] at hr'
      subst hr'
      cases ok with
      | true =>
        refine ⟨.tuple #[u, .bool true], ?_, .tuple (cs := [u, .bool true]) (.cons hu' (.cons (.fr (.bool _)) .nil))⟩
        cases d <;> first | (exact absurd rfl (hni _)) | simp [Instr.typeAssert, run_underlying hu]
      | false =>
        refine ⟨u, ?_, hu'⟩
        cases d <;> first | (exact absurd rfl (hni _)) | simp [Instr.typeAssert, run_underlying hu]
    · rename_i he
      cases ok with
      | true =>
        simp only [if_true, Option.some.injEq] at hr'
        subst hr'
        refine ⟨.tuple #[z, .bool false], ?_, .tuple (cs := [z, .bool false]) (.cons (hzr w g h) (.cons (.fr (.bool _)) .nil))⟩
        cases d <;> first | (exact absurd rfl (hni _)) | simp [Instr.typeAssert, run_underlying hu, he, hz]
      | false => simp at hr'
  | niliface =>
    rw [hx2] at hx' hr'
    simp only at hr'
    obtain rfl := hx'.niliface
    cases ok with
    | true =>
      simp only [if_true, Option.some.injEq] at hr'
      subst hr'
      refine ⟨.tuple #[z, .bool false], ?_, .tuple (cs := [z, .bool false]) (.cons (hzr w g h) (.cons (.fr (.bool _)) .nil))⟩
      cases d <;> first | (exact absurd rfl (hni _)) | simp [Instr.typeAssert, run_underlying hu, hz]
    | false => simp at hr'
  | _ => rw [hx2] at hr'; cases hr'

theorem slice_len {x : AV} {v : Value} {n : Nat} (hx : VR w g h x v) (hl : (match x with | .nilslice => some 0 | .fslice _ _ len _ _ => some len | .mslice _ _ _ _ len _ => some len | _ => none) = some n) :
    ∃ base cap, v = .slice base n cap := by
  cases x with
  | nilslice => simp only [Option.some.injEq] at hl; subst hl; obtain rfl := hx.nilslice; exact ⟨_, _, rfl⟩
  | fslice =>
    simp only [Option.some.injEq] at hl; subst hl
    cases hx with
    | fr hf => cases hf with
      | fempty => exact ⟨_, _, rfl⟩
      | fslice => exact ⟨_, _, rfl⟩
  | mslice =>
    simp only [Option.some.injEq] at hl; subst hl
    obtain ⟨a, cap, rfl⟩ := hx.mslice_some
    exact ⟨_, _, rfl⟩
  | _ => cases hl

include hE in
theorem lenA_ok {t ty : Nat} {ts : Array Nat} {x r : AV} {v : Value} {vs : Array Value} (ht : ts[0]? = some t) (hvs : vs[0]? = some v) (hx : VR w g h x v) (hr : lenA E t x = some r) :
    Gives P w g h (Builtin.len_ ts ty vs) r := by
  unfold lenA at hr
  rcases hti : E.ti t with _ | ti <;> simp only [hti] at hr
  · cases hr
  obtain ⟨d, hu, hT⟩ := hE.under hti
  cases ti with
  | mk desc size bytes zero cmp =>
  simp only at hT
  cases desc with
  | array n e =>
    simp only [Option.some.injEq] at hr
    subst hr
    cases d <;> simp only [TDok] at hT
    obtain ⟨rfl, rfl⟩ := hT
    exact ⟨goInt n, by simp [Builtin.len_, ht, hvs, run_underlying hu], .fr (.int _ _)⟩
  | string =>
    cases x with
    | str s =>
      simp only [Option.some.injEq] at hr
      subst hr
      cases d <;> simp only [TDok] at hT
      obtain ⟨b, rfl, rfl⟩ := hx.str
      exact ⟨goInt b.size, by simp [Builtin.len_, ht, hvs, run_underlying hu], by rw [bytesOf_length]; exact .fr (.int _ _)⟩
    | _ => cases hr
  | slice e =>
    cases d <;> simp only [TDok] at hT
    have key : ∀ n : Nat, (∃ base cap, v = .slice base n cap) → Gives P w g h (Builtin.len_ ts ty vs) (.int .i64 n) := by
      rintro n ⟨base, cap, rfl⟩
      exact ⟨goInt n, by simp [Builtin.len_, ht, hvs, run_underlying hu], .fr (.int _ _)⟩
    cases x with
    | nilslice => simp only [Option.some.injEq] at hr; subst hr; exact key 0 (slice_len hx rfl)
    | fslice => simp only [Option.some.injEq] at hr; subst hr; exact key _ (slice_len hx rfl)
    | mslice => simp only [Option.some.injEq] at hr; subst hr; exact key _ (slice_len hx rfl)
    | _ => cases hr
  | _ => cases hr

include hE in
theorem capA_ok {t ty : Nat} {ts : Array Nat} {x r : AV} {v : Value} {vs : Array Value} (ht : ts[0]? = some t) (hvs : vs[0]? = some v) (hx : VR w g h x v) (hr : capA E t x = some r) :
    Gives P w g h (Builtin.cap_ ts ty vs) r := by
  unfold capA at hr
  rcases hti : E.ti t with _ | ti <;> simp only [hti] at hr
  · cases hr
  obtain ⟨d, hu, hT⟩ := hE.under hti
  cases ti with
  | mk desc size bytes zero cmp =>
  simp only at hT
  cases desc with
  | array n e =>
    simp only [Option.some.injEq] at hr
    subst hr
    cases d <;> simp only [TDok] at hT
    obtain ⟨rfl, rfl⟩ := hT
    exact ⟨goInt n, by simp [Builtin.cap_, ht, hvs, run_underlying hu], .fr (.int _ _)⟩
  | slice e =>
    cases d <;> simp only [TDok] at hT
    have key : ∀ n : Nat, (∃ base len, v = .slice base len n) → Gives P w g h (Builtin.cap_ ts ty vs) (.int .i64 n) := by
      rintro n ⟨base, len, rfl⟩
      exact ⟨goInt n, by simp [Builtin.cap_, ht, hvs, run_underlying hu], .fr (.int _ _)⟩
    cases x with
    | nilslice => simp only [Option.some.injEq] at hr; subst hr; obtain rfl := hx.nilslice; exact key 0 ⟨_, _, rfl⟩
    | fslice cs esz len full nn =>
      cases full with
      | false => cases hr
      | true =>
        simp only [Option.some.injEq] at hr; subst hr
        cases hx with
        | fr hf => cases hf with
          | fempty hf => exact key 0 ⟨_, _, by rw [hf rfl]⟩
          | fslice _ _ _ _ _ _ hf => exact key _ ⟨_, _, by rw [hf rfl]⟩
    | mslice b gen off esz len full =>
      cases full with
      | false => cases hr
      | true =>
        simp only [Option.some.injEq] at hr; subst hr
        cases hx with
        | fr hf => cases hf
        | mslice _ _ _ _ hf => exact key _ ⟨_, _, by rw [hf rfl]⟩
    | _ => cases hr
  | _ => cases hr

theorem minMax_ok {mx : Bool} {ts : Array Nat} {ty : Nat} {as : List AV} {vs : List Value} {r : AV} (hs : VRs w g h as vs) (hr : minMax mx as = some r) :
    Gives P w g h (if mx then Builtin.max_ ts ty vs.toArray else Builtin.min_ ts ty vs.toArray) r := by
  have go : ∀ (as : List AV) (vs : List Value) (k : IntKind) (x : Int) (r : AV), VRs w g h as vs → minMax.go mx k x as = some r →
      Gives P w g h (vs.foldlM (if mx then Builtin.max2 else Builtin.min2) (.int k x)) r := by
    intro as
    induction as with
    | nil =>
      intro vs k x r hs hr
      cases hs
      simp only [minMax.go, Option.some.injEq] at hr
      subst hr
      exact ⟨_, by simp, .fr (.int _ _)⟩
    | cons a as ih =>
      intro vs k x r hs hr
      cases hs with
      | cons ha hs =>
        cases a with
        | int k' y =>
          obtain rfl := ha.int
          simp only [minMax.go] at hr
          obtain ⟨v, h1, h2⟩ := ih _ _ _ _ hs hr
          refine ⟨v, ?_, h2⟩
          rw [List.foldlM_cons, Sem.run_bind]
          cases mx with
          | true => simpa [Builtin.max2] using h1
          | false => simpa [Builtin.min2] using h1
        | _ => simp [minMax.go] at hr
  cases hs with
  | nil => simp [minMax] at hr
  | cons ha hs =>
    rename_i a v as vs
    cases a with
    | int k x =>
      obtain rfl := ha.int
      simp only [minMax] at hr
      obtain ⟨v, h1, h2⟩ := go _ _ _ _ _ hs hr
      refine ⟨v, ?_, h2⟩
      cases mx with
      | true => simpa [Builtin.max_] using h1
      | false => simpa [Builtin.min_] using h1
    | _ => simp [minMax] at hr

end
end Go.Am
end
noncomputable section
namespace Go.Am

section
variable {P : Program} {E : Env} (hE : EnvOK P E) {w : World} {g : Gh} {h : Heap}

theorem toNat_toUInt8 (c : Int) (h0 : 0 ≤ c) (h1 : c < 256) (b : UInt8) : (b == c.toNat.toUInt8) = (((b.toNat : Nat) : Int) == c) := by
  rw [Bool.eq_iff_iff, beq_iff_eq, beq_iff_eq, ← UInt8.toNat_inj]
  have : (c.toNat.toUInt8).toNat = c.toNat := by
    rw [Nat.toUInt8, UInt8.toNat_ofNat']
    exact Nat.mod_eq_of_lt (by omega)
  rw [this]
  omega

theorem filter_count (c : UInt8) (d : Int) (hc : ∀ b : UInt8, (b == c) = (((b.toNat : Nat) : Int) == d)) : ∀ l : List UInt8,
    ((l.map UInt8.toNat).filter (fun (b : Nat) => (b : Int) == d)).length = Lib.countByte l c
  | [] => rfl
  | b :: l => by
    have ih := filter_count c d hc l
    unfold Lib.countByte at ih ⊢
    rw [List.count_cons, List.map_cons, List.filter_cons, hc b]
    split <;> simp_all

theorem findIdx_eq (c : UInt8) (d : Int) (hc : ∀ b : UInt8, (b == c) = (((b.toNat : Nat) : Int) == d)) (l : List UInt8) :
    (l.map UInt8.toNat).findIdx? (fun (b : Nat) => (b : Int) == d) = l.findIdx? (· == c) := by
  rw [List.findIdx?_map]
  congr 1
  funext b
  simp [hc b]

theorem cmp_nats : ∀ a b : List UInt8, Lib.compareBytes a b = if ltNats (a.map UInt8.toNat) (b.map UInt8.toNat) then -1 else if eqNats (a.map UInt8.toNat) (b.map UInt8.toNat) then 0 else 1
  | [], [] => rfl
  | [], _ :: _ => rfl
  | _ :: _, [] => rfl
  | x :: a, y :: b => by
    have ih := cmp_nats a b
    unfold Lib.compareBytes
    simp only [List.map_cons, ltNats, eqNats]
    by_cases hxy : x = y
    · subst hxy
      have hlt : ¬ x < x := UInt8.lt_irrefl x
      simp [hlt, ih]
    · have hne : x.toNat ≠ y.toNat := fun he => hxy (UInt8.toNat_inj.1 he)
      have hb : Nat.beq x.toNat y.toNat = false := by
        cases hbb : Nat.beq x.toNat y.toNat with
        | false => rfl
        | true => exact absurd (Nat.eq_of_beq_eq_true hbb) hne
      by_cases hlt : x < y
      · have h1 : x.toNat < y.toNat := UInt8.lt_iff_toNat_lt.1 hlt
        simp [hlt, hb, h1]
      · have h1 : ¬ x.toNat < y.toNat := fun hh => hlt (UInt8.lt_iff_toNat_lt.2 hh)
        have h2 : y < x := by
          rw [UInt8.lt_iff_toNat_lt]; omega
        simp [hlt, hb, h1, h2]

theorem indexByte_find (c : UInt8) : ∀ l : List UInt8, Lib.indexByte l c = match l.findIdx? (· == c) with | some i => (i : Int) | none => -1
  | [] => rfl
  | b :: l => by
    have ih := indexByte_find c l
    unfold Lib.indexByte
    rw [List.findIdx?_cons]
    cases hb : (b == c) with
    | true => simp
    | false =>
      simp only [Bool.false_eq_true, if_false]
      rw [ih]
      cases hf : l.findIdx? (· == c) with
      | none => simp
      | some i =>
        have : ¬ ((i : Int) = -1) := by omega
        simp [this]

/-- What a call of the library's does. -/
def RanC (P : Program) (E : Env) (w : World) (g : Gh) (h : Heap) (s : Sem Next) (val : AV) (upd : List (Nat × Blk)) : Prop :=
  ∃ v w' g', s.run P w = .ok (.value v) w' ∧ HR E w' g' (h.puts upd) ∧ VR w' g' (h.puts upd) val v ∧ Stp w g h w' g' (h.puts upd)

theorem digits_size : ∀ (n t : Nat) (acc : Array Value), (Extern.BytealgMakeNoZero.digits n t acc).size = acc.size + n
  | 0, _, _ => rfl
  | n + 1, t, acc => by
    rw [Extern.BytealgMakeNoZero.digits, digits_size n]
    simp
    omega

theorem VRs.junks : ∀ (n : Nat) (vs : List Value), vs.length = n → VRs w g h (List.replicate n .junk) vs
  | 0, [], _ => .nil
  | n + 1, v :: vs, hl => by
    rw [List.replicate_succ]
    exact .cons (.junk v) (VRs.junks n vs (by simpa using hl))

theorem three_run (name : String) (k1 k2 k3 : IntKind) (x y c : Int) (hc : c.toNat ≤ 1) (w : World) :
    (Extern.MathBitsCarry.three name #[.int k1 x, .int k2 y, .int k3 c]).run P w = .ok (x.toNat, y.toNat, c.toNat) w := by
  show Sem.run P (do
    let c := (← asInt (.int k3 c)).toNat
    if c > 1 then unsupported (.noEntry ("extern/math/bits." ++ name ++ ": a carry that is neither 0 nor 1"))
    pure ((← asInt (.int k1 x)).toNat, (← asInt (.int k2 y)).toNat, c)) w = _
  simp [asInt, asIntOf]
  omega

include hE in
theorem primA_ok (hr : HR E w g h) {f slot : Nat} {p : Prim} {as : List AV} {vs : List Value} {o : Out} {tr tr' : Tr} (hf : E.prim f = some p) (hs : h.at slot = none) (ha : VRs w g h as vs)
    (hb : primA E p slot as tr = some (o, tr')) (ho : tr'.holds) : tr.holds ∧ RanC P E w g h (callFunc f vs.toArray) o.val o.upd := by
  have give : ∀ {v : Value} {r : AV}, p ≠ .makeNoZero → (primFn p vs.toArray).run P w = .ok v w → VR w g h r v → RanC P E w g h (callFunc f vs.toArray) r [] := by
    intro v r hne h1 h2
    refine ⟨v, w, g, ?_, hr, h2, .refl w g h⟩
    rw [hE.prim f p hf hne]
    simp only [Sem.run_bind, h1, Result.andThen_ok, Sem.run_pure]
  unfold primA at hb
  split at hb
  · rename_i _ x _ y _ c
    rcases ha with _ | ⟨a1, _ | ⟨a2, _ | ⟨a3, ⟨⟩⟩⟩⟩
    obtain rfl := a1.int
    obtain rfl := a2.int
    obtain rfl := a3.int
    obtain ⟨u, t1, h1, h2⟩ := bind_inv hb
    obtain ⟨rfl, rfl⟩ := pure_inv h2
    obtain ⟨h3, h4⟩ := check_inv h1 ho
    have h5 := Nat.le_of_ble_eq_true h3
    have h6 : ¬ c.toNat > 1 := by omega
    refine ⟨h4, give (by simp) (v := Extern.MathBitsCarry.pair _ _) ?_ (.fr (.tuple (cs := [_, _]) (.cons (.int _ _) (.cons (.int _ _) .nil))))⟩
    simp [primFn, three_run "Add64" _ _ _ _ _ _ h5 w, Extern.MathBitsCarry.m64, Extern.MathBitsCarry.pair]
  · rename_i _ x _ y _ c
    rcases ha with _ | ⟨a1, _ | ⟨a2, _ | ⟨a3, ⟨⟩⟩⟩⟩
    obtain rfl := a1.int
    obtain rfl := a2.int
    obtain rfl := a3.int
    obtain ⟨u, t1, h1, h2⟩ := bind_inv hb
    obtain ⟨rfl, rfl⟩ := pure_inv h2
    obtain ⟨h3, h4⟩ := check_inv h1 ho
    have h5 := Nat.le_of_ble_eq_true h3
    have h6 : ¬ c.toNat > 1 := by omega
    refine ⟨h4, give (by simp) (v := Extern.MathBitsCarry.pair ((x.toNat + 18446744073709551616 - y.toNat - c.toNat) % 18446744073709551616) (if x.toNat < y.toNat + c.toNat then 1 else 0)) ?_ ?_⟩
    · simp [primFn, three_run "Sub64" _ _ _ _ _ _ h5 w, Extern.MathBitsCarry.m64, Extern.MathBitsCarry.pair]
    · refine .fr (.tuple (cs := [_, _]) (.cons (.int _ _) (.cons ?_ .nil)))
      split <;> exact .int _ _
  · rename_i s c
    rcases ha with _ | ⟨a1, _ | ⟨a2, ⟨⟩⟩⟩
    obtain ⟨b, rfl, rfl⟩ := a1.str
    obtain rfl := a2.int
    obtain ⟨u, t1, h1, h2⟩ := bind_inv hb
    obtain ⟨n, t2, h5, h6⟩ := bind_inv h2
    obtain ⟨rfl, rfl⟩ := pure_inv h6
    obtain ⟨rfl, ho1⟩ := hintI_inv h5 ho
    obtain ⟨h3, h4⟩ := check_inv h1 ho1
    simp only [byteOk, Bool.and_eq_true, decide_eq_true_eq] at h3
    refine ⟨h4, give (by simp) (Lib.run_countString b c w) ?_⟩
    simp only [bytesOf]
    rw [filter_count _ _ (toNat_toUInt8 c h3.1 h3.2)]
    exact .fr (.int _ _)
  · rename_i s c
    rcases ha with _ | ⟨a1, _ | ⟨a2, ⟨⟩⟩⟩
    obtain ⟨b, rfl, rfl⟩ := a1.str
    obtain rfl := a2.int
    obtain ⟨u, t1, h1, h2⟩ := bind_inv hb
    obtain ⟨n, t2, h5, h6⟩ := bind_inv h2
    obtain ⟨rfl, rfl⟩ := pure_inv h6
    obtain ⟨rfl, ho1⟩ := hintI_inv h5 ho
    obtain ⟨h3, h4⟩ := check_inv h1 ho1
    simp only [byteOk, Bool.and_eq_true, decide_eq_true_eq] at h3
    refine ⟨h4, give (by simp) (Lib.run_indexByteString b c w) ?_⟩
    simp only [bytesOf]
    rw [findIdx_eq _ _ (toNat_toUInt8 c h3.1 h3.2), indexByte_find]
    exact .fr (.int _ _)
  · rename_i a b
    rcases ha with _ | ⟨a1, _ | ⟨a2, ⟨⟩⟩⟩
    obtain ⟨a, rfl, rfl⟩ := a1.str
    obtain ⟨b, rfl, rfl⟩ := a2.str
    obtain ⟨rfl, rfl⟩ := pure_inv hb
    refine ⟨ho, give (by simp) (Lib.run_compareString a b w) ?_⟩
    simp only [bytesOf]
    rw [cmp_nats]
    exact .fr (.int _ _)
  · rcases ha with _ | ⟨a1, ⟨⟩⟩
    obtain ⟨rfl, rfl⟩ := pure_inv hb
    exact ⟨ho, give (by simp) (show Sem.run P (pure _) w = _ from rfl) a1⟩
  · rename_i n
    rcases ha with _ | ⟨a1, ⟨⟩⟩
    obtain rfl := a1.int
    obtain ⟨u, t1, h1, h2⟩ := bind_inv hb
    obtain ⟨rfl, rfl⟩ := pure_inv h2
    obtain ⟨h3, h4⟩ := check_inv h1 ho
    simp only [Bool.and_eq_true, decide_eq_true_eq] at h3
    refine ⟨h4, ?_⟩
    obtain ⟨rs, t, hrs, hu, hcall⟩ := hE.make f hf
    have hge := grownCap_ge w n.toNat 0 E.byteT
    let w2 : World := w.drew.drew
    have hr2 : HR E w2 g h := hr.drew.drew
    have hst : Stp w g h w2 g h := Stp.drew.trans Stp.drew
    generalize hbt : (w.tape (w.drawn + 1) (.extern "internal/bytealg.MakeNoZero.bytes" 0)) = bt
    let c := Extern.BytealgMakeNoZero.digits (grownCap w n.toNat 0 E.byteT) bt #[]
    have hc : c.size = grownCap w n.toNat 0 E.byteT := by simp [c, digits_size]
    have hrun : (callFunc f #[.int .i64 n]).run P w = .ok (.value (.slice (some ⟨w.heap.size, 0, none⟩) n.toNat (grownCap w n.toNat 0 E.byteT))) (w2.alloc (.cells c E.byteT)) := by
      rw [hcall]
      have n1 : ¬ n < 0 := by omega
      have n2 : ¬ 281474976710656 < n := by omega
      have hm : (Extern.BytealgMakeNoZero.makeNoZero #[] rs #[.int .i64 n]).run P w = .ok (.slice (some ⟨w.heap.size, 0, none⟩) n.toNat (grownCap w n.toNat 0 E.byteT)) (w2.alloc (.cells c E.byteT)) := by
        show Sem.run P (do
          let some t := rs[0]? | stuck "bytealg.MakeNoZero: no result type"
          let .slice elem ← underlying t | stuck "bytealg.MakeNoZero: slice type expected"
          if n < 0 || n > 2 ^ 48 then runtimePanic (.error "makeslice: len out of range")
          let cap ← choose (.appendCap n.toNat 0 elem)
          askRoom cap
          let bytes ← choose (.extern "internal/bytealg.MakeNoZero.bytes" 0)
          let a ← newRow elem (Extern.BytealgMakeNoZero.digits cap bytes #[])
          pure (Value.slice (some a) n.toNat cap)) w = _
        simp [hrs, run_underlying hu, n1, n2, Question.forced, newRow, w2, c, grownCap, ← hbt, Question.cut]
      simp only [Sem.run_bind, hm, Result.andThen_ok, Sem.run_pure]
    obtain ⟨m1, m2⟩ := lay_ok (w := w2) hr2 hs (elem := E.byteT) (c := c) (fr := (0, 0)) (pr := false) (vs := c.toList.take n.toNat)
      (VRs.junks n.toNat _ (by rw [List.length_take, Array.length_toList]; omega))
      (fun i v hi => by
        rw [List.getElem?_take] at hi
        split at hi
        · rw [← Array.getElem?_toList]; exact hi
        · cases hi) (fun hp => by cases hp) (nofr _)
    exact ⟨_, _, _, hrun, m1, lay_slice (w := w2) rfl hge (fun hf => by cases hf) (by rw [hc]; omega), hst.trans m2⟩
  · exact (fail_inv hb).elim

end
end Go.Am
end
noncomputable section
namespace Go.Am

/-! ## One operation -/

inductive DR (w : World) (g : Gh) (h : Heap) : List AV → List Deferred → Prop
  | nil : DR w g h [] []
  | cons {f : Nat} {vs : List AV} {cs : List Value} {as : List AV} {ds : List Deferred} (hs : VRs w g h vs cs) (hr : DR w g h as ds) :
      DR w g h (.func f vs :: as) ({ target := .fn (.func f) cs.toArray, args := #[] } :: ds)

theorem DR.step {E : Env} {w w' : World} {g g' : Gh} {h h' : Heap} (hr : HR E w g h) (hs : Stp w g h w' g' h') : ∀ {as : List AV} {ds : List Deferred}, DR w g h as ds → DR w' g' h' as ds
  | _, _, .nil => .nil
  | _, _, .cons a b => .cons (a.step hr hs) (DR.step hr hs b)

theorem DR.append {w : World} {g : Gh} {h : Heap} {bs : List AV} {es : List Deferred} (hb : DR w g h bs es) : ∀ {as : List AV} {ds : List Deferred}, DR w g h as ds → DR w g h (as ++ bs) (ds ++ es)
  | _, _, .nil => hb
  | _, _, .cons a b => .cons a (DR.append hb b)

structure ActR (w : World) (g : Gh) (S : St) (a : Act) : Prop where
  tmps : TR w g S.heap S.tmps a.tmps
  dfr : DR w g S.heap S.defers a.defers

/-- What a call comes to. -/
def Comes' (P : Program) (E : Env) (w : World) (g : Gh) (h : Heap) (r : AV) (h' : Heap) (e : Ending) (w' : World) : Prop :=
  ∃ v g', e = .returned v ∧ HR E w' g' h' ∧ VR w' g' h' r v ∧ Stp w g h w' g' h'

/-- THE JUDGEMENT: called in any world that the heap describes, a function returns, in a world that the other heap describes. -/
def OK (P : Program) (E : Env) (f : Nat) (args : List AV) (h : Heap) (r : AV) (h' : Heap) : Prop :=
  ∀ w g vs, HR E w g h → VRs w g h args vs → Calls P f vs.toArray w (Comes' P E w g h r h')

def CallOK (P : Program) (E : Env) (callF : CallF) : Prop :=
  ∀ f args h t r h' t', callF f args h t = some ((r, h'), t') → t'.holds → OK P E f args h r h'

/-- The same of a call with its locality. -/
def DoCallOK (P : Program) (E : Env) (callF : CallF) : Prop :=
  ∀ f args h base t c t', doCall E callF f args h base t = some (c, t') → t'.holds → ∀ w g vs, HR E w g h → VRs w g h args vs →
    (∀ x ∈ c.upd, base ≤ x.1 → h.at x.1 = none) → Calls P f vs.toArray w (Comes' P E w g h c.val (h.puts c.upd))

section
variable {P : Program} {E : Env} (hE : EnvOK P E) {w : World} {g : Gh} {callF : CallF}

theorem upon_ran {o : Oper} {a : Act} {s : Sem Value} {h : Heap} {val : AV} {upd : List (Nat × Blk)} (he : execOp a.eval o = (do pure (.value (← s)))) (hr : Ran P E w g h s val upd)
    {K : Act → World → Prop} {Q : Exit → Act → World → Prop}
    (hK : ∀ v w' g', HR E w' g' (h.puts upd) → VR w' g' (h.puts upd) val v → Stp w g h w' g' (h.puts upd) → K (a.put o.dst v) w') : o.wp P a w K Q := by
  obtain ⟨v, w', g', h1, h2, h3, h4⟩ := hr
  unfold Oper.wp
  rw [he]
  simp only [Sem.run_bind, h1, Result.andThen_ok, Sem.run_pure, Oper.upon]
  exact hK v w' g' h2 h3 h4

theorem upon_pure {o : Oper} {a : Act} {x : Value} {h : Heap} {val : AV} (he : execOp a.eval o = pure (.value x)) (hr : HR E w g h) (hx : VR w g h val x)
    {K : Act → World → Prop} {Q : Exit → Act → World → Prop}
    (hK : ∀ v w' g', HR E w' g' (h.puts []) → VR w' g' (h.puts []) val v → Stp w g h w' g' (h.puts []) → K (a.put o.dst v) w') : o.wp P a w K Q := by
  unfold Oper.wp
  rw [he]
  simp only [Sem.run_pure, Oper.upon]
  exact hK x w g hr hx (.refl w g h)

theorem plainly_inv {m : M AV} {t t' : Tr} {d : Did} (h : plainly m t = some (d, t')) : ∃ v, m t = some (v, t') ∧ d = ⟨v, [], [], []⟩ := by
  obtain ⟨v, t1, h1, h2⟩ := bind_inv h
  obtain ⟨rfl, rfl⟩ := pure_inv h2
  exact ⟨v, h1, rfl⟩
theorem reading_inv {rd : List Nat} {m : M AV} {t t' : Tr} {d : Did} (h : reading rd m t = some (d, t')) : ∃ v, m t = some (v, t') ∧ d = ⟨v, [], rd, []⟩ := by
  obtain ⟨v, t1, h1, h2⟩ := bind_inv h
  obtain ⟨rfl, rfl⟩ := pure_inv h2
  exact ⟨v, h1, rfl⟩
theorem turning_inv {rd : List Nat} {m : M Out} {t t' : Tr} {d : Did} (h : turning rd m t = some (d, t')) : ∃ o, m t = some (o, t') ∧ d = ⟨o.val, o.upd, rd, []⟩ := by
  obtain ⟨v, t1, h1, h2⟩ := bind_inv h
  obtain ⟨rfl, rfl⟩ := pure_inv h2
  exact ⟨v, h1, rfl⟩

theorem oper_evalO {tmps : Tms} {h : Heap} {a : Act} (ht : TR w g h tmps a.tmps) (x : Option Operand) : OVR w g h (x.map (evalO tmps)) (x.map a.eval) := by
  cases x with
  | none => exact .none
  | some x => exact .some (evalO_rel ht x)

include hE in
/-- A function of the program's is entered. -/
theorem enter_run {f : Nat} {fi : FI} (hf : E.fn f = some fi) (args : Array Value) (w : World) : (callFunc f args).run P w = .ok (.enter f args) w := by
  obtain ⟨fn, h1, h2, -, -, h3⟩ := hE.fn f fi hf
  have h4 : ¬ fn.name = "runtime.NumGoroutine" := by simpa using h3
  unfold callFunc
  simp [h1, h2, h4]

end
end Go.Am
end
noncomputable section
namespace Go.Am

section
variable {P : Program} {E : Env} (hE : EnvOK P E) {w : World} {g : Gh} {callF : CallF} (hD : DoCallOK P E callF)

theorem list1 {α : Type} {l : Array α} {x : α} (h : l.toList = [x]) : l = #[x] := by
  have := congrArg List.toArray h; simpa using this
theorem list2 {α : Type} {l : Array α} {x y : α} (h : l.toList = [x, y]) : l = #[x, y] := by
  have := congrArg List.toArray h; simpa using this

theorem VRs.of1 {h : Heap} {x : AV} {vs : List Value} (hv : VRs w g h [x] vs) : ∃ v, vs = [v] ∧ VR w g h x v := by
  rcases hv with _ | ⟨a, ⟨⟩⟩
  exact ⟨_, rfl, a⟩
theorem VRs.of2 {h : Heap} {x y : AV} {vs : List Value} (hv : VRs w g h [x, y] vs) : ∃ v u, vs = [v, u] ∧ VR w g h x v ∧ VR w g h y u := by
  rcases hv with _ | ⟨a, _ | ⟨b, ⟨⟩⟩⟩
  exact ⟨_, _, rfl, a, b⟩

include hE in
theorem builtinA_ok {h : Heap} {slot : Nat} {b : Builtin} {as : List AV} {ts : Array Nat} {vs : Array Value} {ty : Nat} {cs : Array Bool} {t t' : Tr} {d : Did} (hr : HR E w g h) (hs : h.at slot = none)
    (hv : VRs w g h as vs.toList) (hb : builtinA E h slot b as ts.toList t = some (d, t')) (ho : t'.holds) :
    d.dfr = [] ∧ ∃ s, builtin b ts ty cs vs = (do pure (.value (← s))) ∧ Ran P E w g h s d.val d.upd := by
  generalize hts : ts.toList = tl at hb
  unfold builtinA at hb
  split at hb
  · split at hb
    · rename_i x tt
      obtain ⟨v, h1, rfl⟩ := plainly_inv hb
      obtain ⟨h2, rfl⟩ := lift_inv h1
      obtain ⟨u, hu, hur⟩ := hv.of1
      have hts := list1 hts
      have hu := list1 hu
      subst hts
      subst hu
      exact ⟨rfl, _, rfl, (lenA_ok (ty := ty) (ts := #[tt]) (vs := #[u]) hE rfl rfl hur h2).ran hr⟩
    · exact (fail_inv hb).elim
  · split at hb
    · rename_i x tt
      obtain ⟨v, h1, rfl⟩ := plainly_inv hb
      obtain ⟨h2, rfl⟩ := lift_inv h1
      obtain ⟨u, hu, hur⟩ := hv.of1
      have hts := list1 hts
      have hu := list1 hu
      subst hts
      subst hu
      exact ⟨rfl, _, rfl, (capA_ok (ty := ty) (ts := #[tt]) (vs := #[u]) hE rfl rfl hur h2).ran hr⟩
    · exact (fail_inv hb).elim
  · split at hb
    · rename_i x y tt uu
      obtain ⟨v1, v2, hu, hx, hy⟩ := hv.of2
      have hts := list2 hts
      have hu := list2 hu
      subst hts
      subst hu
      rcases hui : E.ti uu with _ | ui <;> simp only [hui] at hb
      · exact (fail_inv hb).elim
      have key : (match ui.desc with | .slice _ | .string => true | _ => false) = true → turning (refs x ++ refs y) (appendA E h tt slot x y) t = some (d, t') →
          d.dfr = [] ∧ ∃ s, builtin .append #[tt, uu] ty cs #[v1, v2] = (do pure (.value (← s))) ∧ Ran P E w g h s d.val d.upd := by
        intro hud hb
        obtain ⟨o, h1, rfl⟩ := turning_inv hb
        exact ⟨rfl, _, rfl, (appendA_ok (ty := ty) hE hr hs hx hy hui hud h1 ho).2⟩
      cases hud : ui.desc <;> simp only [hud, Bool.false_eq_true, if_false, if_true] at hb <;> first | exact (fail_inv hb).elim | exact key (by rw [hud]) hb
    · exact (fail_inv hb).elim
  · split at hb
    · rename_i x y tt rest
      obtain ⟨v1, v2, hu, hx, hy⟩ := hv.of2
      have hu := list2 hu
      subst hu
      obtain ⟨o, h1, rfl⟩ := turning_inv hb
      have ht0 : ts[0]? = some tt := by rw [← Array.getElem?_toList, hts]; rfl
      exact ⟨rfl, _, rfl, (copyA_ok (ty := ty) hE hr ht0 hx hy h1 ho).2⟩
    · exact (fail_inv hb).elim
  · obtain ⟨v, h1, rfl⟩ := plainly_inv hb
    obtain ⟨h2, rfl⟩ := lift_inv h1
    have := minMax_ok (P := P) (ts := ts) (ty := ty) hv h2
    simp only [if_true, Array.toArray_toList] at this
    exact ⟨rfl, _, rfl, this.ran hr⟩
  · obtain ⟨v, h1, rfl⟩ := plainly_inv hb
    obtain ⟨h2, rfl⟩ := lift_inv h1
    have := minMax_ok (P := P) (ts := ts) (ty := ty) hv h2
    simp only [Bool.false_eq_true, if_false, Array.toArray_toList] at this
    exact ⟨rfl, _, rfl, this.ran hr⟩
  · split at hb
    · rename_i x y tt uu
      obtain ⟨v1, v2, hu, hx, hy⟩ := hv.of2
      have hts := list2 hts
      have hu := list2 hu
      subst hts
      subst hu
      obtain ⟨o, h1, rfl⟩ := turning_inv hb
      exact ⟨rfl, _, rfl, (unsafeStringA_ok (ty := ty) hE hr hx hy h1 ho).2⟩
    · exact (fail_inv hb).elim
  · split at hb
    · obtain ⟨v, h1, rfl⟩ := plainly_inv hb
      obtain ⟨rfl, rfl⟩ := pure_inv h1
      obtain ⟨u, hu, hur⟩ := hv.of1
      have hu := list1 hu
      subst hu
      obtain rfl := hur.nilslice
      exact ⟨rfl, _, rfl, .pointer none, w, g, Lib.run_unsafeSliceData_nil w ts ty 0 0, hr, .fr .nilptr, .refl w g h⟩
    · rename_i bb gen off esz len full
      obtain ⟨v, h1, rfl⟩ := plainly_inv hb
      obtain ⟨u0, t1, h3, h4⟩ := bind_inv h1
      obtain ⟨rfl, rfl⟩ := pure_inv h4
      obtain ⟨h5, -⟩ := check_inv h3 ho
      have h6 : 0 < len := Nat.blt_eq ▸ h5
      obtain ⟨u, hu, hur⟩ := hv.of1
      have hu := list1 hu
      subst hu
      cases hur with
      | fr hf => cases hf
      | mslice q1 q2 q3 q4 q5 q6 =>
        refine ⟨rfl, _, rfl, .pointer (some _), w, g, Lib.run_unsafeSliceData_row w ts ty _ _ _ (by omega), hr, ?_, .refl w g h⟩
        exact .ptr q1 q2 q3 fun he => (q6 he).1
    · exact (fail_inv hb).elim
  · exact (fail_inv hb).elim

include hE hD in
theorem userA_ok {o : Oper} {a : Act} {h : Heap} {f base : Nat} {as : List AV} {vs : List Value} {t t' : Tr} {d : Did} (hr : HR E w g h) (hv : VRs w g h as vs)
    (hb : userA E callF f as h base t = some (d, t')) (ho : t'.holds) (hfresh : ∀ x ∈ d.upd, base ≤ x.1 → h.at x.1 = none)
    (hx : (execOp a.eval o).run P w = (callFunc f vs.toArray).run P w) {K : Act → World → Prop} {Q : Exit → Act → World → Prop}
    (hK : ∀ v w' g', HR E w' g' (h.puts d.upd) → VR w' g' (h.puts d.upd) d.val v → Stp w g h w' g' (h.puts d.upd) → K (a.put o.dst v) w') : d.dfr = [] ∧ (d.dfr = [] → o.wp P a w K Q) := by
  unfold userA at hb
  rcases hf : E.fn f with _ | fi <;> simp only [hf] at hb
  · exact (fail_inv hb).elim
  obtain ⟨c, t1, h1, h2⟩ := bind_inv hb
  obtain ⟨rfl, rfl⟩ := pure_inv h2
  refine ⟨rfl, fun _ => ?_⟩
  have := hD _ _ _ _ _ _ _ h1 ho w g vs hr hv hfresh
  unfold Oper.wp
  rw [hx, enter_run hE hf, Oper.upon_enter]
  refine Calls.mono this ?_
  rintro e w' ⟨v, g', rfl, m1, m2, m3⟩
  exact hK v w' g' m1 m2 m3

end
end Go.Am
end
noncomputable section
namespace Go.Am

section
variable {P : Program} {E : Env} (hE : EnvOK P E) {w : World} {g : Gh} {callF : CallF} (hD : DoCallOK P E callF)

theorem args_rel {tmps : Tms} {h : Heap} {a : Act} (ht : TR w g h tmps a.tmps) (xs : Array Operand) : VRs w g h (xs.toList.map (evalO tmps)) (xs.map a.eval).toList := by
  rw [Array.toList_map]; exact evalO_rels ht _

theorem parts_rel' {tmps : Tms} {h : Heap} {a : Act} (ht : TR w g h tmps a.tmps) (ps : Array (Nat × Operand)) :
    PRs w g h (parts (evalO tmps) ps) (ps.map fun (i, x) => (i, a.eval x)).toList := by
  rw [Array.toList_map]; exact parts_rel ht _

include hE hD in
theorem opA_ok {o : Oper} {slot base : Nat} {S : St} {a : Act} {t t' : Tr} {d : Did} (hb : opA E callF o slot base S t = some (d, t')) (ho : t'.holds) (hr : HR E w g S.heap) (hs : S.heap.at slot = none)
    (ht : TR w g S.heap S.tmps a.tmps) (hfresh : ∀ x ∈ d.upd, base ≤ x.1 → S.heap.at x.1 = none) {K : Act → World → Prop} {Q : Exit → Act → World → Prop}
    (hK : ∀ v w' g' ds, HR E w' g' (S.heap.puts d.upd) → VR w' g' (S.heap.puts d.upd) d.val v → DR w' g' (S.heap.puts d.upd) d.dfr ds → Stp w g S.heap w' g' (S.heap.puts d.upd) →
      K ({ a with defers := ds ++ a.defers }.put o.dst v) w') : o.wp P a w K Q := by
  have hK0 : d.dfr = [] → ∀ v w' g', HR E w' g' (S.heap.puts d.upd) → VR w' g' (S.heap.puts d.upd) d.val v → Stp w g S.heap w' g' (S.heap.puts d.upd) → K (a.put o.dst v) w' := by
    intro hd v w' g' h1 h2 h3
    exact hK v w' g' [] h1 h2 (by rw [hd]; exact .nil) h3
  have pl : ∀ {s : Sem Value} {m : M AV}, plainly m t = some (d, t') → execOp a.eval o = (do pure (.value (← s))) → (∀ r, m t = some (r, t') → Gives P w g S.heap s r) → o.wp P a w K Q := by
    intro s m h1 h2 h3
    obtain ⟨v, h4, rfl⟩ := plainly_inv h1
    exact upon_ran h2 ((h3 v h4).ran hr) (hK0 rfl)
  have rd : ∀ {s : Sem Value} {l : List Nat} {m : M AV}, reading l m t = some (d, t') → execOp a.eval o = (do pure (.value (← s))) → (∀ r, m t = some (r, t') → Gives P w g S.heap s r) → o.wp P a w K Q := by
    intro s l m h1 h2 h3
    obtain ⟨v, h4, rfl⟩ := reading_inv h1
    exact upon_ran h2 ((h3 v h4).ran hr) (hK0 rfl)
  have tu : ∀ {s : Sem Value} {l : List Nat} {m : M Out}, turning l m t = some (d, t') → execOp a.eval o = (do pure (.value (← s))) → (∀ r, m t = some (r, t') → Ran P E w g S.heap s r.val r.upd) → o.wp P a w K Q := by
    intro s l m h1 h2 h3
    obtain ⟨v, h4, rfl⟩ := turning_inv h1
    exact upon_ran h2 (h3 v h4) (hK0 rfl)
  have ev := fun x => evalO_rel ht x
  obtain ⟨dst, op, type, pos, after, guard⟩ := o
  unfold opA at hb
  cases op <;> simp only at hb <;> (try exact (fail_inv hb).elim)
  case move x =>
    obtain ⟨v, h4, rfl⟩ := plainly_inv hb
    obtain ⟨rfl, rfl⟩ := pure_inv h4
    exact upon_pure rfl hr (ev x) (hK0 rfl)
  case assign x =>
    obtain ⟨v, h4, rfl⟩ := plainly_inv hb
    obtain ⟨rfl, rfl⟩ := pure_inv h4
    exact upon_pure rfl hr (ev x) (hK0 rfl)
  case pick c x y =>
    obtain ⟨v, h4, rfl⟩ := plainly_inv hb
    obtain ⟨b, t1, h5, h6⟩ := bind_inv h4
    obtain ⟨rfl, rfl⟩ := pure_inv h6
    obtain ⟨h7, -⟩ := branch_inv h5 ho
    have hc := ev c
    rw [h7] at hc
    have hcb := hc.bool
    have key : ∀ z, (if b then evalO S.tmps x else evalO S.tmps y) = evalO S.tmps z → (if b then a.eval x else a.eval y) = a.eval z → Oper.wp P ⟨dst, .pick c x y, type, pos, after, guard⟩ a w K Q := by
      intro z hz1 hz2
      refine upon_ran (s := pure (if b then a.eval x else a.eval y)) (val := if b then evalO S.tmps x else evalO S.tmps y) (upd := []) ?_ ⟨_, w, g, rfl, hr, ?_, .refl w g S.heap⟩ (hK0 rfl)
      · simp only [execOp, hcb, asBool]; rfl
      · rw [hz1, hz2]; exact ev z
    cases b with
    | true => exact key x rfl rfl
    | false => exact key y rfl rfl
  case alloc e =>
    refine tu hb rfl fun r hrr => ?_
    unfold allocA at hrr
    rcases hti : E.ti e with _ | ti <;> simp only [hti] at hrr
    · exact (fail_inv hrr).elim
    obtain ⟨rfl, rfl⟩ := pure_inv hrr
    exact allocA_ok hE hr hs hti
  case box e x =>
    refine tu hb rfl fun r hrr => ?_
    unfold boxA at hrr
    split at hrr
    · rename_i hnj
      obtain ⟨rfl, rfl⟩ := pure_inv hrr
      exact boxA_ok hr hs (ev x) (by intro hj; rw [hj] at hnj; simp [notJunk] at hnj)
    · exact (fail_inv hrr).elim
  case build tt ps =>
    exact pl hb rfl fun r hrr => buildA_ok hE (parts_rel' ht ps) (lift_inv hrr).1
  case buildSlice tt n ps =>
    exact tu hb rfl fun r hrr => buildSliceA_ok hE hr hs (parts_rel' ht ps) (lift_inv hrr).1
  case load tt x =>
    exact rd hb rfl fun r hrr => (loadA_ok hE hr (ev x) hrr ho).2
  case store tt x y =>
    obtain ⟨v, h4, rfl⟩ := turning_inv hb
    obtain ⟨-, hval, w', g', h5, h6, h7⟩ := storeA_ok (P := P) hE hr (ev x) (ev y) h4 ho
    unfold Oper.wp
    simp only [execOp, Sem.run_bind, h5, Result.andThen_ok, Sem.run_pure, Oper.upon]
    refine hK0 rfl undef w' g' h6 ?_ h7
    simp only [hval]
    exact .fr (undef_rel w' g'.F)
  case nilCheck x =>
    obtain ⟨v, h4, rfl⟩ := plainly_inv hb
    have hx := ev x
    generalize hxe : evalO S.tmps x = xa at hx h4
    have done : v = xa → (match a.eval x with
      | .pointer none | .nilIface | .nilFunc => false
      | .func (.method _) _ _ => false
      | _ => true) = true → Oper.wp P ⟨dst, .nilCheck x, type, pos, after, guard⟩ a w K Q := by
      rintro rfl hm
      refine upon_pure (x := a.eval x) ?_ hr hx (hK0 rfl)
      simp only [execOp]
      split <;> simp_all
    unfold nilCheckA at h4
    split at h4
    · obtain ⟨rfl, rfl⟩ := pure_inv h4
      obtain ⟨ad, hv⟩ := hx.ptr_some
      exact done rfl (by rw [hv])
    · obtain ⟨rfl, rfl⟩ := pure_inv h4
      refine done rfl ?_
      have : ∃ ad, a.eval x = .pointer (some ad) := by
        clear done ev
        generalize a.eval x = u at hx
        cases hx with | fr hf => cases hf; exact ⟨_, rfl⟩
      obtain ⟨ad, hv⟩ := this
      rw [hv]
    · obtain ⟨rfl, rfl⟩ := pure_inv h4
      refine done rfl ?_
      have : ∃ ad, a.eval x = .pointer (some ad) := by
        clear done ev
        generalize a.eval x = u at hx
        cases hx with | fr hf => cases hf; exact ⟨_, rfl⟩
      obtain ⟨ad, hv⟩ := this
      rw [hv]
    · obtain ⟨rfl, rfl⟩ := pure_inv h4
      obtain ⟨cs, hv, -⟩ := hx.func'
      exact done rfl (by rw [hv])
    · exact (fail_inv h4).elim
  case binOp op tt x y pp =>
    exact rd hb rfl fun r hrr => (binOpA_ok hE (ev x) (ev y) hrr ho).2
  case unOp op tt x =>
    exact pl hb rfl fun r hrr => unOpA_ok (ev x) (lift_inv hrr).1
  case convert s dd x =>
    have hx := ev x
    generalize hxe : evalO S.tmps x = xa at hx hb
    have oth : reading (refs xa) (convertA E S.heap s dd xa) t = some (d, t') → Oper.wp P ⟨dst, .convert s dd x, type, pos, after, guard⟩ a w K Q := fun hb => rd hb rfl fun r hrr => (convertA_ok hE hr hx hrr ho).2
    cases xa with
    | str b =>
      simp only [convA] at hb
      split at hb
      · rcases hsi : E.ti s with _ | si <;> simp only [hsi] at hb
        · exact (fail_inv hb).elim
        cases hsd : si.desc <;> simp only [hsd] at hb <;> (try exact (fail_inv hb).elim)
        exact tu hb rfl fun r hrr => strToBytes_ok hE hr hs hsi hsd hx (lift_inv hrr).1
      · exact pl hb rfl fun r hrr => (convertA_ok hE hr hx hrr ho).2
    | _ => exact oth hb
  case makeInterface tt x =>
    refine pl hb rfl fun r hrr => ?_
    unfold ifaceA at hrr
    rcases hti : E.ti tt with _ | ti <;> simp only [hti] at hrr
    · exact (fail_inv hrr).elim
    obtain ⟨dd, hu, hT⟩ := hE.under hti
    have hni : ∀ ms, dd ≠ .interface ms := by
      rintro ms rfl
      cases hd : ti.desc <;> simp only [hd, TDok] at hT hrr
      exact (fail_inv hrr).elim
    have hrr' : (pure (.iface tt (evalO S.tmps x)) : M AV) t = some (r, t') := by
      cases hd : ti.desc <;> simp only [hd] at hrr <;> first | exact hrr | exact (fail_inv hrr).elim
    obtain ⟨rfl, rfl⟩ := pure_inv hrr'
    refine ⟨.iface tt (a.eval x), ?_, .iface (ev x)⟩
    cases dd <;> first | (exact absurd rfl (hni _)) | simp [Instr.makeInterface, run_underlying hu]
  case makeFunc f first captured =>
    refine pl hb rfl fun r hrr => ?_
    unfold makeFuncA at hrr
    cases f <;> (try exact (fail_inv hrr).elim)
    rename_i f
    simp only at hrr
    split at hrr
    · rename_i hz
      have hz := Nat.eq_of_beq_eq_true hz
      obtain rfl : first = #[] := Array.eq_empty_of_size_eq_zero hz
      obtain ⟨rfl, rfl⟩ := pure_inv hrr
      refine ⟨.func (.func f) #[] (captured.map a.eval), (by
        show Sem.run P (Instr.makeFunc (.func f) ((#[] : Array Operand).map a.eval) (captured.map a.eval)) w = _
        rw [List.map_toArray]; rfl), ?_⟩
      have e : captured.map a.eval = (captured.map a.eval).toList.toArray := by rw [Array.toArray_toList]
      rw [e]
      exact VR.func (args_rel ht captured)
    · exact (fail_inv hrr).elim
  case makeSlice tt l c =>
    exact tu hb rfl fun r hrr => (makeSliceA_ok hE hr hs (ev l) (ev c) hrr ho).2
  case slice tt x lo hi mx =>
    exact rd hb rfl fun r hrr => (sliceA_ok hE hr (ev x) (oper_evalO ht lo) (oper_evalO ht hi) (oper_evalO ht mx) hrr ho).2
  case fieldAddr s x f =>
    exact pl hb rfl fun r hrr => fieldAddrA_ok hE (ev x) (lift_inv hrr).1
  case field s x f =>
    exact pl hb rfl fun r hrr => fieldA_ok hE (ev x) (lift_inv hrr).1
  case indexAddr tt x i =>
    exact pl hb rfl fun r hrr => (indexAddrA_ok hE (ev x) (ev i) hrr ho).2
  case index tt x i =>
    exact pl hb rfl fun r hrr => (indexA_ok hE (ev x) (ev i) hrr ho).2
  case range tt x =>
    refine tu hb rfl fun r hrr => ?_
    unfold rangeA at hrr
    rcases hti : E.ti tt with _ | ti <;> simp only [hti] at hrr
    · exact (fail_inv hrr).elim
    cases hd : ti.desc <;> simp only [hd] at hrr <;> (try exact (fail_inv hrr).elim)
    have hx := ev x
    generalize hxe : evalO S.tmps x = xa at hx hrr
    cases xa <;> (try exact (fail_inv hrr).elim)
    obtain ⟨rfl, rfl⟩ := pure_inv hrr
    exact rangeA_ok hE hr hs hti hd hx
  case next it str =>
    split at hb
    · rename_i hstr
      subst hstr
      exact tu hb rfl fun r hrr => (nextA_ok hr (ev it) hrr ho).2
    · exact (fail_inv hb).elim
  case typeAssert x xt tt ok =>
    exact pl hb rfl fun r hrr => typeAssertA_ok hE (ev x) (lift_inv hrr).1
  case extract x i =>
    refine pl hb rfl fun r hrr => ?_
    have h1 := (lift_inv hrr).1
    have hx := ev x
    generalize hxe : evalO S.tmps x = xa at hx h1
    unfold extractA at h1
    split at h1
    · obtain ⟨cs, hv, hcs⟩ := hx.tuple'
      rw [getL_eq] at h1
      obtain ⟨u, hu, hur⟩ := hcs.get h1
      exact ⟨u, by simp [Instr.extract, hv, hu], hur⟩
    · cases h1
  case defer c =>
    unfold deferA at hb
    obtain ⟨callee, args, argTypes⟩ := c
    cases callee <;> simp only at hb <;> (try exact (fail_inv hb).elim)
    rename_i f
    split at hb
    · rename_i hemp
      obtain rfl : args = #[] := by simpa using hemp
      have hx := ev f
      generalize hxe : evalO S.tmps f = xa at hx hb
      cases xa <;> simp only at hb <;> (try exact (fail_inv hb).elim)
      obtain ⟨rfl, rfl⟩ := pure_inv hb
      obtain ⟨cs, hv, hcs⟩ := hx.func'
      unfold Oper.wp
      simp only [execOp, resolve, Deferred.ofValue, hv, Sem.run_bind, Sem.run_pure, Result.andThen_ok, Oper.upon, List.map_toArray, List.map_nil, Array.append_empty]
      exact hK undef w g [_] hr (.fr (undef_rel w g.F)) (.cons hcs .nil) (.refl w g S.heap)
    · exact (fail_inv hb).elim
  case call c =>
    unfold callA at hb
    obtain ⟨callee, args, argTypes⟩ := c
    have hargs := args_rel ht args
    cases callee <;> simp only at hb
    case value f =>
      have hx := ev f
      generalize hxe : evalO S.tmps f = xa at hx hb
      cases xa <;> simp only at hb <;> (try exact (fail_inv hb).elim)
      rename_i f' vs'
      obtain ⟨cs, hv, hcs⟩ := hx.func'
      have hall := hargs.append hcs
      have hexec : (execOp a.eval ⟨dst, .call ⟨.value f, args, argTypes⟩, type, pos, after, guard⟩).run P w = (callFunc f' ((args.map a.eval).toList ++ cs).toArray).run P w := by
        simp only [execOp, resolve, Deferred.ofValue, hv, Sem.run_bind, Sem.run_pure, Result.andThen_ok, invoke]
        have e : (#[] ++ args.map a.eval) ++ cs.toArray = ((args.map a.eval).toList ++ cs).toArray := by
          apply Array.ext'
          simp
        rw [e]
      rcases hp : E.prim f' with _ | p <;> simp only [hp] at hb
      · exact (userA_ok hE hD hr hall hb ho hfresh hexec (fun v w' g' m1 m2 m3 => by
          have hdn : d.dfr = [] := by
            unfold userA at hb
            rcases hf : E.fn f' with _ | fi <;> simp only [hf] at hb
            · exact (fail_inv hb).elim
            obtain ⟨c, t1, h1, h2⟩ := bind_inv hb
            obtain ⟨rfl, rfl⟩ := pure_inv h2
            rfl
          exact hK0 hdn v w' g' m1 m2 m3)).2 (by
            unfold userA at hb
            rcases hf : E.fn f' with _ | fi <;> simp only [hf] at hb
            · exact (fail_inv hb).elim
            obtain ⟨c, t1, h1, h2⟩ := bind_inv hb
            obtain ⟨rfl, rfl⟩ := pure_inv h2
            rfl)
      · obtain ⟨ou, h4, rfl⟩ := turning_inv hb
        obtain ⟨-, v, w', g', m0, m1, m2, m3⟩ := primA_ok hE hr hp hs hall h4 ho
        unfold Oper.wp
        rw [hexec, m0]
        exact hK0 rfl v w' g' m1 m2 m3
    case invoke recv name =>
      have hx := (ev recv).unfz'
      generalize hxe : unfz (evalO S.tmps recv) = xa at hx hb
      cases xa <;> simp only at hb <;> (try exact (fail_inv hb).elim)
      rename_i tt va
      obtain ⟨u, hv, hur⟩ := hx.iface'
      rcases hm : E.meth tt name with _ | f' <;> simp only [hm] at hb
      · exact (fail_inv hb).elim
      have hall : VRs w g S.heap (va :: args.toList.map (evalO S.tmps)) (u :: (args.map a.eval).toList) := .cons hur hargs
      have hmr := hE.meth _ _ _ hm u w
      have hexec : (execOp a.eval ⟨dst, .call ⟨.invoke recv name, args, argTypes⟩, type, pos, after, guard⟩).run P w = (callFunc f' (u :: (args.map a.eval).toList).toArray).run P w := by
        obtain ⟨recvV, hrv⟩ : ∃ x, a.eval recv = x := ⟨_, rfl⟩
        have e0 : (#[Value.iface tt u] ++ args.map a.eval)[0]? = some (.iface tt u) := by
          rw [← Array.getElem?_toList, Array.toList_append]; rfl
        have e1 : (#[Value.iface tt u] ++ args.map a.eval).extract 1 (#[Value.iface tt u] ++ args.map a.eval).size = args.map a.eval := by
          apply Array.ext'
          rw [Array.toList_extract, Array.toList_append, Array.size_append]
          simp only [List.cons_append, List.nil_append, List.extract_eq_take_drop, List.drop_succ_cons, List.drop_zero]
          rw [List.take_of_length_le]
          simp
        simp only [execOp, resolve, hv, Sem.run_bind, Sem.run_pure, Result.andThen_ok, invoke, e0, callMethod, hmr, run_program]
        rw [e1]
        congr 2
        apply Array.ext'
        rw [Array.toList_append]
        rfl
      exact (userA_ok hE hD hr hall hb ho hfresh hexec (fun v w' g' m1 m2 m3 => by
          have hdn : d.dfr = [] := by
            unfold userA at hb
            rcases hf : E.fn f' with _ | fi <;> simp only [hf] at hb
            · exact (fail_inv hb).elim
            obtain ⟨c, t1, h1, h2⟩ := bind_inv hb
            obtain ⟨rfl, rfl⟩ := pure_inv h2
            rfl
          exact hK0 hdn v w' g' m1 m2 m3)).2 (by
            unfold userA at hb
            rcases hf : E.fn f' with _ | fi <;> simp only [hf] at hb
            · exact (fail_inv hb).elim
            obtain ⟨c, t1, h1, h2⟩ := bind_inv hb
            obtain ⟨rfl, rfl⟩ := pure_inv h2
            rfl)
    case builtin b =>
      obtain ⟨hdn, s, m1, m2⟩ := builtinA_ok (ty := type) (cs := args.map fun | .const _ => true | _ => false) hE hr hs hargs hb ho
      refine upon_ran (s := s) ?_ m2 (hK0 hdn)
      rw [← m1]
      rfl

end
end Go.Am
end
