/-
  Part of the proof of TopDays: lemmas that the others lean on.
-/
import Derived.Test.YtmekaipcoghlfaaGreatDoorBase
import Derived.Lib.LaidTab
import Derived.Stop.LaidErr
import Derived.Stop.Joined
import Derived.RowKit3
set_option linter.all false
set_option linter.unusedVariables false
set_option linter.unusedSimpArgs false
noncomputable section
namespace Go.Proofs.YtmekaipcoghlfaaGreatDoor
open Go Go.Am Go.Proofs
/-! ## What a row lists, as the executor's memory -/
/-- All that lies there already is not turned. -/
def g0 (w : World) : Gh := ⟨fun _ => 0, fun p => p < w.heap.size⟩
theorem frs_ints {w : World} {F : Nat → Prop} {k : IntKind} : ∀ zs : List Int, FRs w F (zs.map fun z => AV.int k z) (zs.map fun z => Value.int k z)
  | [] => .nil
  | z :: r => .cons (.int k z) (frs_ints r)
theorem var_heap {P : Program} {w : World} {n : String} {g : Nat} {cs : Array Value} (hg : P.globalNamed n = some g) (h : w.var? P n = some cs) : ∃ e fr, w.heap[g]? = some (.cells cs e fr) := by
  simp only [World.var?, hg, Option.bind_some] at h
  split at h
  · rename_i c e fr hc
    simp only [Option.some.injEq] at h
    subst h
    exact ⟨e, fr, hc⟩
  · cases h
/-- One listed variable's reading. -/
def Reads (w : World) (n : String) (d : DataW Unit) : Prop :=
  ∃ g t cs fuel p, PR.globalNamed n = some g ∧ (PR.globals[g]?).map (·.type) = some t ∧ w.var? PR n = some cs ∧ DataW.trod (fun _ => ()) PR w 0 (fun _ => true) false fuel t cs.toList = some (d, p)
theorem reads_of {w : World} : ∀ {l : List (String × DataW Unit)} {ps : List MemPlace}, DataW.LaidVars PR w l ps → ∀ n d, (n, d) ∈ l → Reads w n d
  | [], _, _, _, _, hm => by cases hm
  | (n', d') :: r, ps, h, n, d, hm => by
    obtain ⟨g, t, cs, fuel, p, q, h1, h2, h3, h4, h5, _⟩ := h
    rcases List.mem_cons.1 hm with e | e
    · cases e
      exact ⟨g, t, cs, fuel, p, h1, h2, h3, h4⟩
    · exact reads_of h5 n d e
/-- What the executor asks of one variable. -/
def GlobOK (w : World) (n : Nat) (cells : List AV) : Prop :=
  (g0 w).F n ∧ ∃ (c : Array Value) (e : TypeId) (fr : Nat × Nat) (vs : List Value), w.heap[n]? = some (Obj.cells c e fr) ∧ FRs w (g0 w).F cells vs ∧ ∀ (i : Nat) (v : Value), vs[i]? = some v → c[i]? = some v
theorem glob_of {w : World} {n : Nat} {c : Array Value} {e : TypeId} {fr : Nat × Nat} {cells : List AV} {vs : List Value} (h : w.heap[n]? = some (.cells c e fr)) (hf : FRs w (g0 w).F cells vs) (hc : c = vs.toArray) : GlobOK w n cells :=
  ⟨(Array.getElem?_eq_some_iff.1 h).1, c, e, fr, vs, h, hf, fun i v hv => by rw [hc]; simpa using hv⟩
theorem glob_tab {w : World} {n : String} {g : Nat} {t e : TypeId} {m : Nat} {k : IntKind} {zs : List Int} (hr : Reads w n (Lib.tabData k zs)) (hg : PR.globalNamed n = some g) (hty : (PR.globals[g]?).map (·.type) = some t)
    (ht : PR.underlying t = some (.array m e)) (he : PR.underlying e = some (.int k)) (hce : PR.cellsOf e = 1) (hct : PR.cellsOf t = m) : GlobOK w g (zs.map fun z => AV.int k z) := by
  obtain ⟨g', t', cs, fuel, p, h1, h2, h3, h4⟩ := hr
  obtain rfl := Option.some.inj (hg.symm.trans h1)
  obtain rfl := Option.some.inj (hty.symm.trans h2)
  have hcs := Lib.cells_of_tab ht he hce hct h4
  obtain ⟨el, fr, hh⟩ := var_heap h1 h3
  exact glob_of hh (frs_ints zs) (by rw [← hcs])
theorem laid_tails {P : Program} {w : World} : ∀ (k : Nat) {l : List (String × DataW Unit)}, laidMet P l w → laidMet P (l.drop k) w
  | 0, _, h => h
  | _ + 1, [], h => h
  | k + 1, _ :: _, h => laid_tails k h.tail
theorem glob_err {w : World} {n nm : String} {text : List UInt8} {r : List (String × DataW Unit)} {g : Nat} {ti te ts : TypeId} {ms : Array (String × TypeId)} {f : Field} {tp : TypeId}
    (h : laidMet PR ((n, .iface nm (.ptr (.agg [.lit (.string text)]))) :: r) w)
    (hg : PR.globalNamed n = some g) (ht : (PR.globals[g]?).map (·.type) = some ti) (hi : PR.underlying ti = some (.interface ms)) (hrow : ∀ u, PR.typeName? 3 u = some nm → u = tp)
    (hp : PR.underlying tp = some (.pointer te)) (he : PR.underlying te = some (.struct #[f])) (hft : f.type = ts) (hfo : f.offset = 0) (hs : PR.underlying ts = some .string) (hc : PR.cellsOf te = 1) (hcs : PR.cellsOf ts = 1) :
    GlobOK w g [.iface tp (.fptr [.str (text.map UInt8.toNat)] 0)] := by
  obtain ⟨a, s, h1, h2, h3, -⟩ := laid_sentinel h hg ht hi hrow hp he hft hfo hs hc hcs
  obtain ⟨el, fr, hh⟩ := var_heap hg h1
  have hcell : ∃ c e fr, w.heap[a.block]? = some (.cells c e fr) ∧ a.spot = none ∧ c[a.off]? = some (.string s) := by
    unfold World.cell? at h2
    split at h2
    · rename_i c e fr hb
      cases hsp : a.spot with
      | none => rw [hsp] at h2; exact ⟨c, e, fr, hb, rfl, by simpa using h2⟩
      | some x => rw [hsp] at h2; simp at h2
    · cases h2
  obtain ⟨c, e, fr', hb, hsp, hcell⟩ := hcell
  have ha : a = ⟨a.block, a.off + 0, none⟩ := by
    obtain ⟨b, o, sp⟩ := a
    simp only at hsp
    subst hsp
    rfl
  have hbytes : bytesOf s = text.map UInt8.toNat := by
    unfold bytesOf
    rw [h3]
  refine glob_of hh (vs := [.iface tp (.pointer (some a))]) (.cons (.iface ?_) .nil) rfl
  rw [ha]
  refine .fptr (vs := [.string s]) ((Array.getElem?_eq_some_iff.1 hb).1) hb (.cons (.str hbytes) .nil) fun i v hv => ?_
  cases i with
  | zero =>
    simp only [List.getElem?_cons_zero, Option.some.injEq] at hv
    subst hv
    exact hcell
  | succ i => simp at hv
/-- A memory that owns nothing yet. -/
theorem hr_of {w : World} (h : ∀ n cells, gl n = some cells → GlobOK w n cells) : HR E0 w (g0 w) [] where
  blk b x hx := by cases hx
  inj b c x y hx := by cases hx
  lim p hp := hp
  glob n cells hn := h n cells hn
theorem kept_of {w w' : World} {g' : Gh} {may : MemPlace → Prop} (h : Stp w (g0 w) [] w' g' []) : w.keptBut w' may := by
  refine ⟨h.os, h.output, fun i hi => ?_⟩
  have e : w'.heap[i]? = w.heap[i]? := h.frame i hi (by
    rintro ⟨b, x, hx, -⟩
    cases hx)
  rw [e]
  exact (World.keptBut_refl w may).2.2 i hi
theorem i32_bd {n : Int} (h : (Lit.int .i32 n).wf = true) : -2147483648 ≤ n ∧ n ≤ 2147483647 := by
  have e1 : IntKind.i32.min = -2147483648 := rfl
  have e2 : IntKind.i32.max = 2147483647 := rfl
  simp [Lit.wf, e1, e2] at h
  omega
end Go.Proofs.YtmekaipcoghlfaaGreatDoor
end
