/-
  Part of the proof of TopDays: lemmas that the others lean on.
-/
import Derived.Test.YtmekaipcoghlfaaGreatDoorAa
import Derived.Laws.Strings
import Derived.Laws.StructEq
import Derived.Lib.Strings
set_option linter.all false
set_option linter.unusedVariables false
set_option linter.unusedSimpArgs false
noncomputable section
namespace Go.Am

/-! ## What the executor's tables say, and that it is so -/

def TDok : TD → TypeDesc → Prop
  | .bool, .bool => True
  | .int k, .int k' => k = k'
  | .string, .string => True
  | .ptr e, .pointer e' => e = e'
  | .upt, .unsafePointer => True
  | .slice e, .slice e' => e = e'
  | .array n e, .array n' e' => n = n' ∧ e = e'
  | .struct fs, .struct fields => fields.toList.map (fun f => (f.type, f.offset)) = fs
  | .iface b, .interface ms => b = ms.isEmpty
  | .func, .func _ _ _ => True
  | .other, d => match d with
    | .interface _ | .struct _ | .array _ _ => False
    | _ => True
  | _, _ => False

structure TIok (P : Program) (t : Nat) (i : TI) : Prop where
  ex : ∃ info z d, P.info? t = some info ∧ info.size = i.size ∧ info.bytes = i.bytes ∧ info.zero = some z ∧ i.zero = z.cells.toList.map cv0 ∧ P.underlying t = some d ∧
    TDok i.desc d ∧ (i.desc.agg = true → z = .agg z.cells) ∧ (i.desc.agg = false → z.cells = #[z]) ∧ (i.cmp = true → info.comparable = true)
  pure : isPure.allPure i.zero = true
  zlen : i.zero.length = i.size
  flds : ∀ fs, i.desc = .struct fs → ∀ x ∈ fs, ∃ inf, P.info? x.1 = some inf

def primFn : Prim → Array Value → Sem Value
  | .noEscape => Extern.AbiNoEscape.same
  | .countString => Extern.BytealgCount.count
  | .indexByteString => Extern.BytealgIndexByte.indexByte
  | .indexString => Extern.BytealgIndex.index
  | .cmpString => Extern.BytealgCompare.compare
  | .add64 => fun args => do
    let (x, y, c) ← Extern.MathBitsCarry.three "Add64" args
    pure (Extern.MathBitsCarry.pair ((x + y + c) % Extern.MathBitsCarry.m64) ((x + y + c) / Extern.MathBitsCarry.m64))
  | .sub64 => fun args => do
    let (x, y, b) ← Extern.MathBitsCarry.three "Sub64" args
    pure (Extern.MathBitsCarry.pair ((x + Extern.MathBitsCarry.m64 - y - b) % Extern.MathBitsCarry.m64) (if x < y + b then 1 else 0))
  | .makeNoZero => fun args => Extern.BytealgMakeNoZero.makeNoZero #[] #[] args
  | .overlaps => fun _ => stuck ""

structure EnvOK (P : Program) (E : Env) : Prop where
  ti : ∀ t i, E.ti t = some i → TIok P t i
  fn : ∀ f i, E.fn f = some i → ∃ fn, P.funcs[f]? = some fn ∧ fn.body = some i.body ∧ fn.ntmps = i.ntmps ∧ fn.results.toList = i.results ∧
    (fn.name == "runtime.NumGoroutine") = false
  prim : ∀ f p, E.prim f = some p → p ≠ .makeNoZero → ∀ args w, (callFunc f args).run P w = (do let v ← primFn p args; pure (Next.value v) : Sem Next).run P w
  make : ∀ f, E.prim f = some .makeNoZero → ∃ rs t, rs[0]? = some t ∧ P.underlying t = some (.slice E.byteT) ∧ ∀ args w,
    (callFunc f args).run P w = (do let v ← Extern.BytealgMakeNoZero.makeNoZero #[] rs args; pure (Next.value v) : Sem Next).run P w
  meth : ∀ t n f, E.meth t n = some f → ∀ v w, (method (P.types.size + Made.depth) t v n).run P w = .ok (f, v) w
  eqAgg : ∀ t ks, E.eqAgg t = some ks → ∀ (xs ys : List Value) (as bs : List AV) (r : Bool) (w : World) (x y : Operand), eqCells ks as bs = some r →
    as.map (fun a => (match a with | .bool b => some (Value.bool b) | .int k n => some (Value.int k n) | _ => none)) = xs.map some →
    bs.map (fun a => (match a with | .bool b => some (Value.bool b) | .int k n => some (Value.int k n) | _ => none)) = ys.map some →
    (do eqGuard .eql t x y (.agg xs.toArray) (.agg ys.toArray); Op.equal t (.agg xs.toArray) (.agg ys.toArray) : Sem Bool).run P w = .ok r w ∧
    (do eqGuard .neq t x y (.agg xs.toArray) (.agg ys.toArray); Op.equal t (.agg xs.toArray) (.agg ys.toArray) : Sem Bool).run P w = .ok r w

section
variable {P : Program} {E : Env} (hE : EnvOK P E) {w : World}
include hE

theorem EnvOK.info {t : Nat} {i : TI} (h : E.ti t = some i) : ∃ info, P.info? t = some info ∧ info.size = i.size ∧ info.bytes = i.bytes := by
  obtain ⟨info, z, d, h1, h2, h3, -⟩ := (hE.ti t i h).ex
  exact ⟨info, h1, h2, h3⟩

theorem EnvOK.runTI {t : Nat} {i : TI} (h : E.ti t = some i) : ∃ info, (∀ w, (typeInfo t).run P w = .ok info w) ∧ info.size = i.size ∧ info.bytes = i.bytes := by
  obtain ⟨info, h1, h2, h3⟩ := hE.info h
  exact ⟨info, fun w => by simp [Go.typeInfo, h1], h2, h3⟩

theorem EnvOK.runSize {t : Nat} {i : TI} (h : E.ti t = some i) (w : World) : (sizeOf t).run P w = .ok i.size w := by
  obtain ⟨info, h1, h2, -⟩ := hE.info h
  simp [Go.sizeOf, Go.typeInfo, h1, h2]

theorem EnvOK.under {t : Nat} {i : TI} (h : E.ti t = some i) : ∃ d, P.underlying t = some d ∧ TDok i.desc d := by
  obtain ⟨info, z, d, -, -, -, -, -, h1, h2, -⟩ := (hE.ti t i h).ex
  exact ⟨d, h1, h2⟩

theorem EnvOK.runAgg {t : Nat} {i : TI} (h : E.ti t = some i) (w : World) : (isAgg t).run P w = .ok i.desc.agg w := by
  obtain ⟨d, h1, h2⟩ := hE.under h
  simp only [Go.isAgg, Sem.run_bind, run_underlying h1, Result.andThen_ok]
  cases hd : i.desc <;> rw [hd] at h2 <;> cases d <;> simp_all [TDok, TD.agg]

theorem EnvOK.runZero {t : Nat} {i : TI} (h : E.ti t = some i) : ∃ z : Value, (∀ w, (zeroValue t).run P w = .ok z w) ∧ i.zero = z.cells.toList.map cv0 ∧
    (i.desc.agg = true → z = .agg z.cells) ∧ (i.desc.agg = false → z.cells = #[z]) := by
  obtain ⟨info, z, d, h1, h2, h3, h4, h5, h6, h7, h8, h9, -⟩ := (hE.ti t i h).ex
  exact ⟨z, fun w => by simp [Go.zeroValue, Go.typeInfo, h1, h4], h5, h8, h9⟩

end

/-- What names no block is frozen. -/
theorem VR.pure {w : World} {g : Gh} {h : Heap} {a : AV} {v : Value} (hv : VR w g h a v) (hp : isPure a = true) : FR w g.F a v := by
  induction hv using VR.rec (motive_2 := fun as vs _ => isPure.allPure as = true → FRs w g.F as vs) with
  | fr hf => exact hf
  | ptr _ _ _ _ => simp [isPure] at hp
  | mslice _ _ _ _ _ _ => simp [isPure] at hp
  | func hs ih => exact .func (ih (by simpa [isPure] using hp))
  | iface ha ih => exact .iface (ih (by simpa [isPure] using hp))
  | agg hs ih => exact .agg (ih (by simpa [isPure] using hp))
  | tuple hs ih => exact .tuple (ih (by simpa [isPure] using hp))
  | junk v => simp [isPure] at hp
  | nil => exact .nil
  | cons ha hs iha ihs hp' =>
    simp only [isPure.allPure, Bool.and_eq_true] at hp'
    exact .cons (iha hp'.1) (ihs hp'.2)

theorem VRs.pure {w : World} {g : Gh} {h : Heap} : ∀ {as : List AV} {vs : List Value}, VRs w g h as vs → isPure.allPure as = true → FRs w g.F as vs
  | _, _, .nil, _ => .nil
  | _, _, .cons ha hs, hp => by
    simp only [isPure.allPure, Bool.and_eq_true] at hp
    exact .cons (ha.pure hp.1) (hs.pure hp.2)

/-! ## Inversions: a shape of the abstract value tells the shape of the value -/

section
variable {w : World} {g : Gh} {h : Heap}

theorem VR.int {k : IntKind} {n : Int} {v : Value} (hv : VR w g h (.int k n) v) : v = .int k n := by
  cases hv with | fr hf => cases hf; rfl
theorem VR.bool {b : Bool} {v : Value} (hv : VR w g h (.bool b) v) : v = .bool b := by
  cases hv with | fr hf => cases hf; rfl
theorem VR.str {s : List Nat} {v : Value} (hv : VR w g h (.str s) v) : ∃ x, v = .string x ∧ bytesOf x = s := by
  cases hv with | fr hf => cases hf with | str hs => exact ⟨_, rfl, hs⟩
theorem VR.nilptr {v : Value} (hv : VR w g h .nilptr v) : v = .pointer none := by
  cases hv with | fr hf => cases hf; rfl
theorem VR.nilslice {v : Value} (hv : VR w g h .nilslice v) : v = .slice none 0 0 := by
  cases hv with | fr hf => cases hf; rfl
theorem VR.niliface {v : Value} (hv : VR w g h .niliface v) : v = .nilIface := by
  cases hv with | fr hf => cases hf; rfl
theorem VR.agg' {as : List AV} {v : Value} (hv : VR w g h (.agg as) v) : ∃ cs, v = .agg cs.toArray ∧ VRs w g h as cs := by
  cases hv with
  | fr hf => cases hf with | agg hs => exact ⟨_, rfl, hs.vrs⟩
  | agg hs => exact ⟨_, rfl, hs⟩
theorem VR.tuple' {as : List AV} {v : Value} (hv : VR w g h (.tuple as) v) : ∃ cs, v = .tuple cs.toArray ∧ VRs w g h as cs := by
  cases hv with
  | fr hf => cases hf with | tuple hs => exact ⟨_, rfl, hs.vrs⟩
  | tuple hs => exact ⟨_, rfl, hs⟩
theorem VR.iface' {t : Nat} {a : AV} {v : Value} (hv : VR w g h (.iface t a) v) : ∃ x, v = .iface t x ∧ VR w g h a x := by
  cases hv with
  | fr hf => cases hf with | iface hs => exact ⟨_, rfl, .fr hs⟩
  | iface hs => exact ⟨_, rfl, hs⟩
theorem VR.func' {f : Nat} {as : List AV} {v : Value} (hv : VR w g h (.func f as) v) : ∃ cs, v = .func (.func f) #[] cs.toArray ∧ VRs w g h as cs := by
  cases hv with
  | fr hf => cases hf with | func hs => exact ⟨_, rfl, hs.vrs⟩
  | func hs => exact ⟨_, rfl, hs⟩
theorem VR.unfz' {a : AV} {v : Value} (hv : VR w g h a v) : VR w g h (unfz a) v := by
  unfold unfz
  split
  · cases hv with | fr hf => cases hf with | fz h _ => exact .fr h
  · exact hv

/-- A value that may lie in a cell does. -/
theorem FR.cell {F : Nat → Prop} {a : AV} {v : Value} (hf : FR w F a v) (hc : isCell a = true) : v.oneCell' = true := by
  cases hf <;> first | rfl | (simp [isCell] at hc; done) | assumption
theorem VR.cell {a : AV} {v : Value} (hv : VR w g h a v) (hc : isCell a = true) : v.oneCell' = true := by
  cases hv with
  | fr hf => exact hf.cell hc
  | ptr => rfl
  | mslice => rfl
  | junk => simp [isCell] at hc
  | agg => simp [isCell] at hc
  | tuple => simp [isCell] at hc
  | func => rfl
  | iface => rfl
end

end Go.Am
end
noncomputable section
namespace Go.Am

def Tr.holds (t : Tr) : Prop := ∀ p ∈ t.ob, p

section
variable {α β : Type}

theorem bind_inv {m : M α} {f : α → M β} {t t'' : Tr} {b : β} (h : (m >>= f) t = some (b, t'')) : ∃ a t', m t = some (a, t') ∧ f a t' = some (b, t'') := by
  change M.bind m f t = _ at h
  unfold M.bind at h
  rcases h1 : m t with _ | ⟨a, t'⟩ <;> rw [h1] at h
  · cases h
  · exact ⟨a, t', rfl, h⟩

theorem pure_inv {a b : α} {t t' : Tr} (h : (pure a : M α) t = some (b, t')) : a = b ∧ t = t' := by
  change some (a, t) = some (b, t') at h
  simpa using h

theorem fail_inv {b : α} {t t' : Tr} (h : (fail : M α) t = some (b, t')) : False := by cases h

theorem lift_inv {o : Option α} {b : α} {t t' : Tr} (h : (lift o) t = some (b, t')) : o = some b ∧ t = t' := by
  cases o with
  | none => cases h
  | some a =>
    change some (a, t) = some (b, t') at h
    simpa using h

theorem check_inv {b : Bool} {t t' : Tr} {u : Unit} (h : check b t = some (u, t')) (ho : t'.holds) : b = true ∧ t.holds := by
  unfold check at h
  split at h
  · split at h
    · simp only [Option.some.injEq, Prod.mk.injEq] at h
      obtain ⟨-, rfl⟩ := h
      exact ⟨rfl, ho⟩
    · cases h
  · simp only [Option.some.injEq, Prod.mk.injEq] at h
    obtain ⟨-, rfl⟩ := h
    exact ⟨ho _ (by simp), fun p hp => ho p (by simp [hp])⟩
  · cases h

theorem decideB_inv {b c : Bool} {t t' : Tr} (h : decideB b t = some (c, t')) (ho : t'.holds) : b = c ∧ t.holds := by
  unfold decideB at h
  split at h
  · simp only [Option.some.injEq, Prod.mk.injEq] at h
    obtain ⟨rfl, rfl⟩ := h
    exact ⟨rfl, ho⟩
  · simp only [Option.some.injEq, Prod.mk.injEq] at h
    obtain ⟨rfl, rfl⟩ := h
    exact ⟨ho _ (by simp), fun p hp => ho p (by simp [hp])⟩
  · cases h

theorem branch_inv {v : AV} {c : Bool} {t t' : Tr} (h : branch v t = some (c, t')) (ho : t'.holds) : v = .bool c ∧ t.holds := by
  unfold branch at h
  split at h
  · obtain ⟨rfl, h2⟩ := decideB_inv h ho
    exact ⟨rfl, h2⟩
  · cases h

theorem readCell_inv {x : Option AV} {c : AV} {t t' : Tr} (h : readCell x t = some (c, t')) (ho : t'.holds) : x = some c ∧ t.holds := by
  unfold readCell at h
  split at h
  · split at h
    · simp only [Option.some.injEq, Prod.mk.injEq] at h
      obtain ⟨rfl, rfl⟩ := h
      exact ⟨rfl, ho⟩
    · cases h
  · simp only [Option.some.injEq, Prod.mk.injEq] at h
    obtain ⟨rfl, rfl⟩ := h
    exact ⟨ho _ (by simp), fun p hp => ho p (by simp [hp])⟩
  · cases h

theorem readCells_inv {x : Option (List AV)} {c : List AV} {t t' : Tr} (h : readCells x t = some (c, t')) (ho : t'.holds) : x = some c ∧ t.holds := by
  unfold readCells at h
  split at h
  · split at h
    · simp only [Option.some.injEq, Prod.mk.injEq] at h
      obtain ⟨rfl, rfl⟩ := h
      exact ⟨rfl, ho⟩
    · cases h
  · simp only [Option.some.injEq, Prod.mk.injEq] at h
    obtain ⟨rfl, rfl⟩ := h
    exact ⟨ho _ (by simp), fun p hp => ho p (by simp [hp])⟩
  · cases h

theorem hintI_inv {x c : Int} {t t' : Tr} (h : hintI x t = some (c, t')) (ho : t'.holds) : x = c ∧ t.holds := by
  unfold hintI at h
  split at h
  · simp only [Option.some.injEq, Prod.mk.injEq] at h
    obtain ⟨rfl, rfl⟩ := h
    exact ⟨rfl, ho⟩
  · simp only [Option.some.injEq, Prod.mk.injEq] at h
    obtain ⟨rfl, rfl⟩ := h
    exact ⟨ho _ (by simp), fun p hp => ho p (by simp [hp])⟩
  · cases h

theorem readPair_inv {x c : Nat × Nat} {t t' : Tr} (h : readPair x t = some (c, t')) (ho : t'.holds) : x = c ∧ t.holds := by
  unfold readPair at h
  split at h
  · simp only [Option.some.injEq, Prod.mk.injEq] at h
    obtain ⟨rfl, rfl⟩ := h
    exact ⟨rfl, ho⟩
  · simp only [Option.some.injEq, Prod.mk.injEq] at h
    obtain ⟨rfl, rfl⟩ := h
    exact ⟨ho _ (by simp), fun p hp => ho p (by simp [hp])⟩
  · cases h

theorem readNats_inv {x : Option (List Nat)} {c : List Nat} {t t' : Tr} (h : readNats x t = some (c, t')) (ho : t'.holds) : x = some c ∧ t.holds := by
  unfold readNats at h
  split at h
  · split at h
    · simp only [Option.some.injEq, Prod.mk.injEq] at h
      obtain ⟨rfl, rfl⟩ := h
      exact ⟨rfl, ho⟩
    · cases h
  · simp only [Option.some.injEq, Prod.mk.injEq] at h
    obtain ⟨rfl, rfl⟩ := h
    exact ⟨ho _ (by simp), fun p hp => ho p (by simp [hp])⟩
  · cases h
end

/-! ## Strings -/

theorem bytesOf_length (s : ByteArray) : (bytesOf s).length = s.size := by
  simp only [bytesOf, List.length_map, Array.length_toList]; rfl

theorem bytesOf_append (a b : ByteArray) : bytesOf (a ++ b) = bytesOf a ++ bytesOf b := by
  simp [bytesOf]

theorem bytesOf_extract (s : ByteArray) (a b : Nat) : bytesOf (s.extract a b) = ((bytesOf s).drop a).take (b - a) := by
  simp only [bytesOf, Lib.extract_data, List.map_take, List.map_drop]

theorem map_toNat_inj : ∀ (a b : List UInt8), a.map UInt8.toNat = b.map UInt8.toNat → a = b
  | [], [], _ => rfl
  | [], _ :: _, h => by simp at h
  | _ :: _, [], h => by simp at h
  | x :: a, y :: b, h => by
    simp only [List.map_cons, List.cons.injEq] at h
    rw [UInt8.toNat_inj.1 h.1, map_toNat_inj a b h.2]

theorem eq_bytes (a b : ByteArray) : (a.toList == b.toList) = eqNats (bytesOf a) (bytesOf b) := by
  rw [Bool.eq_iff_iff, eqNats_iff, beq_iff_eq, ByteArray.toList_eq, ByteArray.toList_eq]
  exact ⟨fun h => by simp [bytesOf, h], fun h => map_toNat_inj _ _ h⟩

theorem lt_list : ∀ (a b : List UInt8), Op.bytesLess a b = ltNats (a.map UInt8.toNat) (b.map UInt8.toNat)
  | a, [] => by cases a <;> simp [Op.bytesLess, ltNats]
  | [], _ :: _ => by simp [Op.bytesLess, ltNats]
  | x :: a, y :: b => by
    simp only [Op.bytesLess, List.map_cons, ltNats, lt_list a b]
    congr 1
    · rw [Bool.eq_iff_iff]; simp [UInt8.lt_iff_toNat_lt, Nat.blt_eq]
    · congr 1
      rw [Bool.eq_iff_iff]; simp [← UInt8.toNat_inj]

theorem lt_bytes (a b : ByteArray) : Op.bytesLess a.toList b.toList = ltNats (bytesOf a) (bytesOf b) := by
  rw [lt_list, ByteArray.toList_eq, ByteArray.toList_eq]; rfl

theorem bytesOf_get (s : ByteArray) (i : Nat) : (bytesOf s)[i]? = (s[i]?).map UInt8.toNat := by
  by_cases hi : i < s.size
  · rw [ByteArray.getElem?_lt' s i hi]
    simp only [bytesOf, List.getElem?_map, Option.map_some]
    have h2 : i < s.data.toList.length := by simpa using hi
    rw [List.getElem?_eq_getElem h2]
    rfl
  · rw [ByteArray.getElem?_ge' s i hi]
    simp only [Option.map_none]
    exact List.getElem?_eq_none (by rw [bytesOf_length]; omega)

section
variable {P : Program} {E : Env} {w : World} {g : Gh} {h : Heap}

theorem eqGuard_other {op : BinOp} {t : Nat} {x y : Operand} {a b : Value} (hn : (match a, b with | .nilIface, .nilIface => false | .agg _, .agg _ => false | _, _ => true) = true) :
    eqGuard op t x y a b = pure () := by
  unfold eqGuard
  cases op <;> simp only [] <;> (try rfl) <;> (cases a <;> first | rfl | (cases b <;> first | rfl | simp at hn))

theorem intOp_ok {op : BinOp} {t : Nat} {k : IntKind} {m n : Int} {tr tr' : Tr} {r : AV} (hr : intOp op k m n tr = some (r, tr')) (ho : tr'.holds) :
    tr.holds ∧ ∃ v, ((match op with
      | .add | .sub | .mul => Op.intArith op k m n
      | .quo | .rem => Op.intDiv op k m n
      | .and | .or | .xor | .andNot => Op.intBits op k m n
      | _ => Op.intCmp op m n : Sem Value)).run P w = .ok v w ∧ VR w g h r v ∧ t = t := by
  unfold intOp at hr
  cases op <;> simp only at hr
  case add => obtain ⟨rfl, rfl⟩ := pure_inv hr; exact ⟨ho, _, rfl, .fr (.int _ _), rfl⟩
  case sub => obtain ⟨rfl, rfl⟩ := pure_inv hr; exact ⟨ho, _, rfl, .fr (.int _ _), rfl⟩
  case mul => obtain ⟨rfl, rfl⟩ := pure_inv hr; exact ⟨ho, _, rfl, .fr (.int _ _), rfl⟩
  case quo =>
    obtain ⟨u, t', h1, h2⟩ := bind_inv hr
    obtain ⟨rfl, rfl⟩ := pure_inv h2
    obtain ⟨h3, h4⟩ := check_inv h1 ho
    exact ⟨h4, _, by simp [Op.intDiv, of_decide_eq_true h3], .fr (.int _ _), rfl⟩
  case rem =>
    obtain ⟨u, t', h1, h2⟩ := bind_inv hr
    obtain ⟨rfl, rfl⟩ := pure_inv h2
    obtain ⟨h3, h4⟩ := check_inv h1 ho
    exact ⟨h4, _, by simp [Op.intDiv, of_decide_eq_true h3], .fr (.int _ _), rfl⟩
  case and => obtain ⟨h1, rfl⟩ := lift_inv hr; simp only [bitsOp, Option.some.injEq] at h1; subst h1; exact ⟨ho, _, rfl, .fr (.int _ _), rfl⟩
  case or => obtain ⟨h1, rfl⟩ := lift_inv hr; simp only [bitsOp, Option.some.injEq] at h1; subst h1; exact ⟨ho, _, rfl, .fr (.int _ _), rfl⟩
  case xor => obtain ⟨h1, rfl⟩ := lift_inv hr; simp only [bitsOp, Option.some.injEq] at h1; subst h1; exact ⟨ho, _, rfl, .fr (.int _ _), rfl⟩
  case andNot => obtain ⟨h1, rfl⟩ := lift_inv hr; simp only [bitsOp, Option.some.injEq] at h1; subst h1; exact ⟨ho, _, rfl, .fr (.int _ _), rfl⟩
  case eql => obtain ⟨rfl, rfl⟩ := pure_inv hr; exact ⟨ho, _, rfl, .fr (.bool _), rfl⟩
  case neq => obtain ⟨rfl, rfl⟩ := pure_inv hr; exact ⟨ho, _, rfl, .fr (.bool _), rfl⟩
  case lss => obtain ⟨rfl, rfl⟩ := pure_inv hr; exact ⟨ho, _, rfl, .fr (.bool _), rfl⟩
  case leq => obtain ⟨rfl, rfl⟩ := pure_inv hr; exact ⟨ho, _, rfl, .fr (.bool _), rfl⟩
  case gtr => obtain ⟨rfl, rfl⟩ := pure_inv hr; exact ⟨ho, _, rfl, .fr (.bool _), rfl⟩
  case geq => obtain ⟨rfl, rfl⟩ := pure_inv hr; exact ⟨ho, _, rfl, .fr (.bool _), rfl⟩
  all_goals exact (fail_inv hr).elim

theorem strOp_ok {op : BinOp} {x y : ByteArray} {tr tr' : Tr} {r : AV} (hr : strOp op (bytesOf x) (bytesOf y) tr = some (r, tr')) (ho : tr'.holds) :
    tr.holds ∧ ∃ v, (Op.stringOp op x y).run P w = .ok v w ∧ VR w g h r v := by
  unfold strOp at hr
  cases op <;> simp only at hr
  case add =>
    obtain ⟨u, t', h1, h2⟩ := bind_inv hr
    obtain ⟨rfl, rfl⟩ := pure_inv h2
    obtain ⟨h3, h4⟩ := check_inv h1 ho
    have h5 : x.size + y.size ≤ 4611686018427387904 := by simpa [bytesOf_length] using Nat.le_of_ble_eq_true h3
    refine ⟨h4, .string (x ++ y), ?_, .fr (.str (bytesOf_append x y))⟩
    have : ¬ (((x.size + y.size : Nat) : Int) > IntKind.i64.max) := by
      have : IntKind.i64.max = 9223372036854775807 := by decide
      omega
    simp only [Op.stringOp, if_neg this, Sem.run_pure]
  case eql => obtain ⟨rfl, rfl⟩ := pure_inv hr; exact ⟨ho, _, rfl, by rw [eq_bytes]; exact .fr (.bool _)⟩
  case neq => obtain ⟨rfl, rfl⟩ := pure_inv hr; exact ⟨ho, _, rfl, by rw [eq_bytes]; exact .fr (.bool _)⟩
  case lss => obtain ⟨rfl, rfl⟩ := pure_inv hr; exact ⟨ho, _, rfl, by rw [lt_bytes]; exact .fr (.bool _)⟩
  case leq => obtain ⟨rfl, rfl⟩ := pure_inv hr; exact ⟨ho, _, rfl, by rw [lt_bytes, eq_bytes]; exact .fr (.bool _)⟩
  case gtr => obtain ⟨rfl, rfl⟩ := pure_inv hr; exact ⟨ho, _, rfl, by rw [lt_bytes, eq_bytes]; exact .fr (.bool _)⟩
  case geq => obtain ⟨rfl, rfl⟩ := pure_inv hr; exact ⟨ho, _, rfl, by rw [lt_bytes]; exact .fr (.bool _)⟩
  all_goals exact (fail_inv hr).elim

theorem shiftOp_ok {op : BinOp} {k j : IntKind} {m n : Int} {r : AV} (hr : shiftOp op k m n = some r) :
    ∃ v, (Op.shift op k m j n).run P w = .ok v w ∧ VR w g h r v := by
  unfold shiftOp at hr
  by_cases hn : n < 0
  · simp [hn] at hr
  · simp only [hn, if_false] at hr
    cases op <;> simp only [Option.some.injEq] at hr <;> (try cases hr)
    · exact ⟨_, by simp [Op.shift, hn], .fr (.int _ _)⟩
    · exact ⟨_, by simp [Op.shift, hn], .fr (.int _ _)⟩

end
end Go.Am
end
noncomputable section
namespace Go.Am

section
variable {P : Program} {E : Env} (hE : EnvOK P E) {w : World} {g : Gh} {h : Heap}

theorem holdsA_gen {b gen : Nat} (hh : holdsA h b gen = true) : h.gen? b = some gen := by
  unfold holdsA at hh
  unfold Heap.gen?
  split at hh
  · rename_i c e g' ro pr hb
    rw [hb]
    simp only [Option.some.injEq]
    exact Nat.eq_of_beq_eq_true hh
  · cases hh

theorem VR.ptr_now {b gen off : Nat} {v : Value} (hv : VR w g h (.ptr b gen off) v) (hg : h.gen? b = some gen) : v = .pointer (some ⟨g.φ b, off, none⟩) := by
  cases hv with
  | fr hf => cases hf
  | ptr hb _ _ ha =>
    rw [hg] at hb
    rw [ha (by simpa using hb)]

theorem VR.ptr_some {b gen off : Nat} {v : Value} (hv : VR w g h (.ptr b gen off) v) : ∃ a, v = .pointer (some a) := by
  cases hv with
  | fr hf => cases hf
  | ptr => exact ⟨_, rfl⟩

theorem VR.mslice_now {b gen off esz len : Nat} {full : Bool} {v : Value} (hv : VR w g h (.mslice b gen off esz len full) v) (hg : h.gen? b = some gen) :
    ∃ cap c e fr, v = .slice (some ⟨g.φ b, off, none⟩) len cap ∧ len ≤ cap ∧ (full = true → cap = len) ∧
        w.heap[g.φ b]? = some (.cells c e fr) ∧ off + cap * esz ≤ c.size := by
  cases hv with
  | fr hf => cases hf
  | mslice hb _ _ hcap hfull ha =>
    rw [hg] at hb
    obtain ⟨rfl, c, e, fr, h1, h2⟩ := ha (by simpa using hb)
    exact ⟨_, c, e, fr, rfl, hcap, hfull, h1, h2⟩

theorem VR.mslice_some {b gen off esz len : Nat} {full : Bool} {v : Value} (hv : VR w g h (.mslice b gen off esz len full) v) : ∃ a cap, v = .slice (some a) len cap := by
  cases hv with
  | fr hf => cases hf
  | mslice => exact ⟨_, _, rfl⟩

theorem eqGuard_run {op : BinOp} {t : Nat} {x y : Operand} {a b : Value} (hn : (match a, b with | .nilIface, .nilIface => false | .agg _, .agg _ => false | _, _ => true) = true) (w : World) :
    (eqGuard op t x y a b).run P w = .ok () w := by
  rw [eqGuard_other hn]; rfl

theorem under_of {t : Nat} {i : TI} (hE : EnvOK P E) (ht : E.ti t = some i) {D : TD} (hD : i.desc = D) : ∃ d, P.underlying t = some d ∧ TDok D d := by
  obtain ⟨d, h1, h2⟩ := hE.under ht
  exact ⟨d, h1, hD ▸ h2⟩

theorem eqCells_shape : ∀ {ks : List (Option IntKind)} {as bs : List AV} {r : Bool} {xs ys : List Value}, eqCells ks as bs = some r → VRs w g h as xs → VRs w g h bs ys →
    as.map (fun a => (match a with | .bool b => some (Value.bool b) | .int k n => some (Value.int k n) | _ => none)) = xs.map some ∧
    bs.map (fun a => (match a with | .bool b => some (Value.bool b) | .int k n => some (Value.int k n) | _ => none)) = ys.map some := by
  intro ks as bs
  fun_induction eqCells ks as bs with
  | case1 => intro r xs ys _ hx hy; cases hx; cases hy; exact ⟨rfl, rfl⟩
  | case2 ks a as b bs r' he ih =>
    intro r xs ys _ hx hy
    cases hx with
    | cons hx1 hx2 =>
      cases hy with
      | cons hy1 hy2 =>
        obtain ⟨h1, h2⟩ := ih he hx2 hy2
        rw [hx1.bool, hy1.bool]
        simp [h1, h2]
  | case3 => intro r xs ys h; cases h
  | case4 k ks i a as j b bs hk r' he ih =>
    intro r xs ys _ hx hy
    cases hx with
    | cons hx1 hx2 =>
      cases hy with
      | cons hy1 hy2 =>
        obtain ⟨h1, h2⟩ := ih he hx2 hy2
        rw [hx1.int, hy1.int]
        simp [h1, h2]
  | case5 => intro r xs ys h; cases h
  | case6 => intro r xs ys h; cases h
  | case7 => intro r xs ys h; cases h

include hE in
theorem eqOp_ok {op : BinOp} (hop : op = .eql ∨ op = .neq) {t : Nat} {x y : Operand} {a b : AV} {va vb : Value} {r : Bool} (ha : VR w g h a va) (hb : VR w g h b vb)
    (he : eqOp E h t x y a b = some r) (hc : ∀ (o : Operand), isConst o = true → ∃ v, o = .const v) :
    (do eqGuard op t x y va vb; Op.equal t va vb : Sem Bool).run P w = .ok r w ∧
      (binOp .eql t va vb = (do pure (.bool (← Op.equal t va vb))) ∧ binOp .neq t va vb = (do pure (.bool (!(← Op.equal t va vb))))) := by
  unfold eqOp at he
  split at he
  · cases he
  rename_i ti hti
  have ha' := ha.unfz'
  have hb' := hb.unfz'
  split at he
  -- bool
  · rename_i hd e1 e2
    rw [e1] at ha'; rw [e2] at hb'
    obtain rfl := ha'.bool
    obtain rfl := hb'.bool
    obtain ⟨d, hu, hT⟩ := under_of hE hti hd
    cases d <;> simp only [TDok] at hT
    refine ⟨?_, rfl, rfl⟩
    rw [Sem.run_bind, eqGuard_run rfl, Result.andThen_ok]
    show (Op.equalIn (9999 + 1) t _ _).run P w = _
    unfold Op.equalIn
    simp only [Sem.run_bind, run_underlying hu, Result.andThen_ok]
    simpa using he
  -- nil, nil interface
  · rename_i hd e1 e2
    rw [e1] at ha'; rw [e2] at hb'
    obtain rfl := ha'.niliface
    obtain rfl := hb'.niliface
    obtain ⟨d, hu, hT⟩ := under_of hE hti hd
    cases d <;> simp only [TDok] at hT
    split at he
    · rename_i hcst
      refine ⟨?_, rfl, rfl⟩
      have hg : (eqGuard op t x y .nilIface .nilIface).run P w = .ok () w := by
        simp only [Bool.or_eq_true] at hcst
        rcases hcst with h1 | h1
        · obtain ⟨v, rfl⟩ := hc _ h1
          rcases hop with rfl | rfl <;> rfl
        · obtain ⟨v, rfl⟩ := hc _ h1
          rcases hop with rfl | rfl <;> cases x <;> rfl
      rw [Sem.run_bind, hg, Result.andThen_ok]
      show (Op.equalIn (9999 + 1) t _ _).run P w = _
      unfold Op.equalIn
      simp only [Sem.run_bind, run_underlying hu, Result.andThen_ok]
      simpa using he
    · cases he
  · rename_i hd e1 e2
    rw [e1] at ha'; rw [e2] at hb'
    obtain ⟨v, rfl, -⟩ := ha'.iface'
    obtain rfl := hb'.niliface
    obtain ⟨d, hu, hT⟩ := under_of hE hti hd
    cases d <;> simp only [TDok] at hT
    refine ⟨?_, rfl, rfl⟩
    rw [Sem.run_bind, eqGuard_run rfl, Result.andThen_ok]
    show (Op.equalIn (9999 + 1) t _ _).run P w = _
    unfold Op.equalIn
    simp only [Sem.run_bind, run_underlying hu, Result.andThen_ok]
    simpa using he
  · rename_i hd e1 e2
    rw [e1] at ha'; rw [e2] at hb'
    obtain ⟨v, rfl, -⟩ := hb'.iface'
    obtain rfl := ha'.niliface
    obtain ⟨d, hu, hT⟩ := under_of hE hti hd
    cases d <;> simp only [TDok] at hT
    refine ⟨?_, rfl, rfl⟩
    rw [Sem.run_bind, eqGuard_run rfl, Result.andThen_ok]
    show (Op.equalIn (9999 + 1) t _ _).run P w = _
    unfold Op.equalIn
    simp only [Sem.run_bind, run_underlying hu, Result.andThen_ok]
    simpa using he
  -- two ints behind interfaces
  · rename_i hd e1 e2
    rw [e1] at ha'; rw [e2] at hb'
    obtain ⟨v, rfl, hv⟩ := ha'.iface'
    obtain ⟨u, rfl, hu'⟩ := hb'.iface'
    obtain rfl := hv.int
    obtain rfl := hu'.int
    obtain ⟨d, hu, hT⟩ := under_of hE hti hd
    cases d <;> simp only [TDok] at hT
    refine ⟨?_, rfl, rfl⟩
    rw [Sem.run_bind, eqGuard_run rfl, Result.andThen_ok]
    show (Op.equalIn (9999 + 1) t _ _).run P w = _
    unfold Op.equalIn
    simp only [Sem.run_bind, run_underlying hu, Result.andThen_ok]
    split at he
    · rename_i ht12
      have ht := Nat.eq_of_beq_eq_true ht12
      subst ht
      split at he
      · rename_i _ k' sz bt z ht1
        split at he
        · rename_i hkj
          subst hkj
          obtain ⟨info, z', d', i1, i2, i3, i4, i5, i6, i7, i8, i9, i10⟩ := (hE.ti _ _ ht1).ex
          have hcmp := i10 rfl
          cases d' <;> simp only [TDok] at i7
          subst i7
          simp only [ne_eq, not_true, if_false, Sem.run_bind, Go.typeInfo, run_program, Result.andThen_ok, i1, Sem.run_pure, hcmp, Bool.not_true, Bool.false_eq_true]
          show (Op.equalIn (9998 + 1) _ _ _).run P w = _
          unfold Op.equalIn
          simp only [Sem.run_bind, run_underlying i6, Result.andThen_ok, if_true]
          simpa using he
        · cases he
      · cases he
    · rename_i ht12
      have hne := Nat.ne_of_beq_eq_false (Bool.eq_false_iff.2 ht12)
      simp only [ne_eq, hne, not_false_iff, if_true]
      simpa using he
  -- slices
  · rename_i hd e1 e2
    rw [e1] at ha'; rw [e2] at hb'
    obtain rfl := ha'.nilslice
    obtain rfl := hb'.nilslice
    obtain ⟨d, hu, hT⟩ := under_of hE hti hd
    cases d <;> simp only [TDok] at hT
    refine ⟨?_, rfl, rfl⟩
    rw [Sem.run_bind, eqGuard_run rfl, Result.andThen_ok]
    show (Op.equalIn (9999 + 1) t _ _).run P w = _
    unfold Op.equalIn
    simp only [Sem.run_bind, run_underlying hu, Result.andThen_ok]
    simpa using he
  · rename_i cells esz len full nn hd e1 e2
    rw [e1] at ha'; rw [e2] at hb'
    obtain rfl := hb'.nilslice
    obtain ⟨d, hu, hT⟩ := under_of hE hti hd
    cases d <;> simp only [TDok] at hT
    split at he
    · rename_i hnn
      have hs : ∃ a n c, va = .slice (some a) n c := by
        cases ha' with
        | fr hf =>
          cases hf with
          | fempty h1 h2 h3 =>
            rename_i cap base
            cases base with
            | none => simp at hnn; exact absurd rfl (h2 hnn)
            | some a => exact ⟨a, _, _, rfl⟩
          | fslice => exact ⟨_, _, _, rfl⟩
      obtain ⟨a, n, c, rfl⟩ := hs
      refine ⟨?_, rfl, rfl⟩
      rw [Sem.run_bind, eqGuard_run rfl, Result.andThen_ok]
      show (Op.equalIn (9999 + 1) t _ _).run P w = _
      unfold Op.equalIn
      simp only [Sem.run_bind, run_underlying hu, Result.andThen_ok]
      simpa using he
    · cases he
  · rename_i p gen off esz len full hd e1 e2
    rw [e1] at ha'; rw [e2] at hb'
    obtain rfl := hb'.nilslice
    obtain ⟨d, hu, hT⟩ := under_of hE hti hd
    cases d <;> simp only [TDok] at hT
    split at he
    · rename_i hh
      obtain ⟨cap, c, e, fr, rfl, -⟩ := ha'.mslice_now (holdsA_gen hh)
      refine ⟨?_, rfl, rfl⟩
      rw [Sem.run_bind, eqGuard_run rfl, Result.andThen_ok]
      show (Op.equalIn (9999 + 1) t _ _).run P w = _
      unfold Op.equalIn
      simp only [Sem.run_bind, run_underlying hu, Result.andThen_ok]
      simpa using he
    · cases he
  -- pointers
  · rename_i e hd e1 e2
    rw [e1] at ha'; rw [e2] at hb'
    obtain rfl := ha'.nilptr
    obtain rfl := hb'.nilptr
    obtain ⟨d, hu, hT⟩ := under_of hE hti hd
    cases d <;> simp only [TDok] at hT
    refine ⟨?_, rfl, rfl⟩
    rw [Sem.run_bind, eqGuard_run rfl, Result.andThen_ok]
    show (Op.equalIn (9999 + 1) t _ _).run P w = _
    unfold Op.equalIn
    simp only [Sem.run_bind, run_underlying hu, Result.andThen_ok]
    simpa using he
  · rename_i e p gen off hd e1 e2
    rw [e1] at ha'; rw [e2] at hb'
    obtain rfl := hb'.nilptr
    obtain ⟨d, hu, hT⟩ := under_of hE hti hd
    cases d <;> simp only [TDok] at hT
    split at he
    · rename_i hh
      obtain rfl := ha'.ptr_now (holdsA_gen hh)
      refine ⟨?_, rfl, rfl⟩
      rw [Sem.run_bind, eqGuard_run rfl, Result.andThen_ok]
      show (Op.equalIn (9999 + 1) t _ _).run P w = _
      unfold Op.equalIn
      simp only [Sem.run_bind, run_underlying hu, Result.andThen_ok]
      simpa using he
    · cases he
  · rename_i e cells off hd e1 e2
    rw [e1] at ha'; rw [e2] at hb'
    obtain rfl := hb'.nilptr
    obtain ⟨d, hu, hT⟩ := under_of hE hti hd
    cases d <;> simp only [TDok] at hT
    cases ha' with
    | fr hf =>
      cases hf with
      | fptr =>
        refine ⟨?_, rfl, rfl⟩
        rw [Sem.run_bind, eqGuard_run rfl, Result.andThen_ok]
        show (Op.equalIn (9999 + 1) t _ _).run P w = _
        unfold Op.equalIn
        simp only [Sem.run_bind, run_underlying hu, Result.andThen_ok]
        simpa using he
  · rename_i e p gen o q gen' o' hd e1 e2
    rw [e1] at ha'; rw [e2] at hb'
    obtain ⟨d, hu, hT⟩ := under_of hE hti hd
    cases d <;> simp only [TDok] at hT
    subst hT
    split at he
    · rename_i ei hei
      split at he
      · rename_i hh
        simp only [Bool.and_eq_true] at hh
        obtain ⟨⟨⟨h1, h2⟩, h3⟩, h4⟩ := hh
        have h1 := Nat.eq_of_beq_eq_true h1
        have h2 := Nat.eq_of_beq_eq_true h2
        subst h1; subst h2
        obtain rfl := ha'.ptr_now (holdsA_gen h3)
        obtain rfl := hb'.ptr_now (holdsA_gen h3)
        refine ⟨?_, rfl, rfl⟩
        rw [Sem.run_bind, eqGuard_run rfl, Result.andThen_ok]
        show (Op.equalIn (9999 + 1) t _ _).run P w = _
        unfold Op.equalIn
        have hz : ei.size ≠ 0 := by have := Nat.blt_eq ▸ h4; omega
        simp only [Sem.run_bind, run_underlying hu, Result.andThen_ok, hE.runSize hei, hz, ne_eq, not_false_iff, if_true, Go.sameAddr, beq_self_eq_true, Sem.run_pure]
        simp only [Option.some.injEq] at he
        rw [← he]
        congr 1
        rw [Bool.eq_iff_iff]
        simp
      · cases he
    · cases he
  -- structs, arrays
  · rename_i xs ys e1 e2
    rw [e1] at ha'; rw [e2] at hb'
    split at he
    · rename_i heq
      obtain ⟨cs, rfl, hcs⟩ := ha'.agg'
      obtain ⟨ds, rfl, hds⟩ := hb'.agg'
      obtain ⟨s1, s2⟩ := eqCells_shape he hcs hds
      obtain ⟨r1, r2⟩ := hE.eqAgg t _ heq cs ds xs ys r w x y he s1 s2
      refine ⟨?_, rfl, rfl⟩
      rcases hop with rfl | rfl
      · exact r1
      · exact r2
    · cases he
  · cases he

end
end Go.Am
end
noncomputable section
namespace Go.Am

section
variable {P : Program} {E : Env} (hE : EnvOK P E) {w : World} {g : Gh} {h : Heap}

theorem isConst_const (o : Operand) (ho : isConst o = true) : ∃ v, o = .const v := by
  cases o <;> first | exact ⟨_, rfl⟩ | (simp [isConst] at ho)

include hE in
theorem binOpA_ok {op : BinOp} {t : Nat} {x y : Operand} {a b r : AV} {va vb : Value} {tr tr' : Tr} (ha : VR w g h a va) (hb : VR w g h b vb)
    (hr : binOpA E h op t x y a b tr = some (r, tr')) (ho : tr'.holds) :
    tr.holds ∧ ∃ v, (do eqGuard op t x y va vb; binOp op t va vb : Sem Value).run P w = .ok v w ∧ VR w g h r v := by
  unfold binOpA at hr
  split at hr
  · rename_i k m k' n
    obtain rfl := ha.int
    obtain rfl := hb.int
    rw [Sem.run_bind, eqGuard_run rfl, Result.andThen_ok]
    split at hr
    · obtain ⟨h1, rfl⟩ := lift_inv hr
      obtain ⟨v, h2, h3⟩ := shiftOp_ok (P := P) (w := w) (g := g) (h := h) (j := k') h1
      exact ⟨ho, v, h2, h3⟩
    · obtain ⟨h1, rfl⟩ := lift_inv hr
      obtain ⟨v, h2, h3⟩ := shiftOp_ok (P := P) (w := w) (g := g) (h := h) (j := k') h1
      exact ⟨ho, v, h2, h3⟩
    · rename_i n1 n2
      split at hr
      · rename_i hk
        subst hk
        obtain ⟨h1, v, h2, h3, -⟩ := intOp_ok (P := P) (w := w) (g := g) (h := h) (t := t) hr ho
        refine ⟨h1, v, ?_, h3⟩
        rw [← h2]
        cases op <;> first | rfl | (exact absurd rfl n1) | (exact absurd rfl n2) | simp [binOp]
      · exact (fail_inv hr).elim
  · obtain ⟨s, rfl, rfl⟩ := ha.str
    obtain ⟨u, rfl, rfl⟩ := hb.str
    rw [Sem.run_bind, eqGuard_run rfl, Result.andThen_ok]
    obtain ⟨h1, v, h2, h3⟩ := strOp_ok (P := P) (w := w) (g := g) (h := h) hr ho
    refine ⟨h1, v, ?_, h3⟩
    rw [← h2]
    cases op <;> rfl
  · split at hr
    · obtain ⟨q, t', h1, h2⟩ := bind_inv hr
      obtain ⟨rfl, rfl⟩ := pure_inv h2
      obtain ⟨h3, rfl⟩ := lift_inv h1
      obtain ⟨h4, h5, h6⟩ := eqOp_ok hE (op := .eql) (.inl rfl) ha hb h3 isConst_const
      refine ⟨ho, .bool q, ?_, .fr (.bool q)⟩
      rw [h5]
      rw [Sem.run_bind] at h4 ⊢
      cases hg : (eqGuard .eql t x y va vb).run P w with
      | ok a w1 =>
        rw [hg, Result.andThen_ok] at h4
        rw [Result.andThen_ok, Sem.run_bind, h4, Result.andThen_ok]; rfl
      | halt e w1 => rw [hg] at h4; cases h4
    · obtain ⟨q, t', h1, h2⟩ := bind_inv hr
      obtain ⟨rfl, rfl⟩ := pure_inv h2
      obtain ⟨h3, rfl⟩ := lift_inv h1
      obtain ⟨h4, h5, h6⟩ := eqOp_ok hE (op := .neq) (.inr rfl) ha hb h3 isConst_const
      refine ⟨ho, .bool (!q), ?_, .fr (.bool _)⟩
      rw [h6]
      rw [Sem.run_bind] at h4 ⊢
      cases hg : (eqGuard .neq t x y va vb).run P w with
      | ok a w1 =>
        rw [hg, Result.andThen_ok] at h4
        rw [Result.andThen_ok, Sem.run_bind, h4, Result.andThen_ok]; rfl
      | halt e w1 => rw [hg] at h4; cases h4
    · exact (fail_inv hr).elim

theorem unOpA_ok {op : UnOp} {a r : AV} {va : Value} (ha : VR w g h a va) (hr : unOpA op a = some r) :
    ∃ v, (Op.unary op va).run P w = .ok v w ∧ VR w g h r v := by
  unfold unOpA at hr
  split at hr
  · obtain rfl := ha.int
    simp only [Option.some.injEq] at hr; subst hr
    exact ⟨_, rfl, .fr (.int _ _)⟩
  · obtain rfl := ha.int
    simp only [bitsOp, Option.some.injEq] at hr; subst hr
    exact ⟨_, rfl, .fr (.int _ _)⟩
  · obtain rfl := ha.bool
    simp only [Option.some.injEq] at hr; subst hr
    exact ⟨_, rfl, .fr (.bool _)⟩
  · cases hr

/-! ## Parts filled in -/

theorem VR.cellsOf {a : AV} {v : Value} (ha : VR w g h a v) (hj : a ≠ .junk) : VRs w g h a.cells v.cells.toList := by
  have one : ∀ {a : AV} {v : Value}, VR w g h a v → (∀ cs, v ≠ .agg cs) → (∀ cs, a ≠ .agg cs) → VRs w g h a.cells v.cells.toList := by
    intro a v ha hv hn
    have e1 : a.cells = [a] := by cases a <;> first | rfl | exact absurd rfl (hn _)
    have e2 : v.cells = #[v] := by cases v <;> first | rfl | exact absurd rfl (hv _)
    rw [e1, e2]
    exact .cons ha .nil
  cases a with
  | agg as =>
    obtain ⟨cs, rfl, hs⟩ := ha.agg'
    exact hs
  | junk => exact absurd rfl hj
  | fz b =>
    refine one ha ?_ (by simp)
    cases ha with
    | fr hf => cases hf with | fz _ hc => rintro cs rfl; cases hc
  | ptr b gn o =>
    refine one ha ?_ (by simp)
    obtain ⟨a, rfl⟩ := ha.ptr_some
    simp
  | mslice b gn o e l f =>
    refine one ha ?_ (by simp)
    obtain ⟨a, c, rfl⟩ := ha.mslice_some
    simp
  | iface t b => refine one ha ?_ (by simp); obtain ⟨x, rfl, -⟩ := ha.iface'; simp
  | func f vs => refine one ha ?_ (by simp); obtain ⟨x, rfl, -⟩ := ha.func'; simp
  | tuple vs => refine one ha ?_ (by simp); obtain ⟨x, rfl, -⟩ := ha.tuple'; simp
  | _ => refine one ha ?_ (by simp); cases ha with | fr hf => cases hf <;> simp

/-- The model's way to write cells, cell by cell. -/
theorem foldl_zipIdx (off : Nat) : ∀ (vs : List Value) (k : Nat) (cs : Array Value),
    ((vs.zipIdx k).foldl (fun (cs : Array Value) (x : Value × Nat) => cs.setIfInBounds (off + x.2) x.1) cs).toList = setsL cs.toList (off + k) vs
  | [], k, cs => by simp [setsL]
  | v :: vs, k, cs => by
    simp only [List.zipIdx_cons, List.foldl_cons, setsL]
    rw [foldl_zipIdx off vs (k + 1)]
    simp [setL_eq, Nat.add_assoc]

theorem VRs.sets {as : List AV} {vs : List Value} : ∀ {bs : List AV} {us : List Value} (off : Nat), VRs w g h as vs → VRs w g h bs us →
    VRs w g h (setsL as off bs) (setsL vs off us)
  | _, _, _, ha, .nil => ha
  | _, _, off, ha, .cons hb hs => by
    simp only [setsL]
    exact VRs.sets (off + 1) (by rw [setL_eq, setL_eq]; exact ha.set hb off) hs

theorem FRs.sets {F : Nat → Prop} {as : List AV} {vs : List Value} : ∀ {bs : List AV} {us : List Value} (off : Nat), FRs w F as vs → FRs w F bs us →
    FRs w F (setsL as off bs) (setsL vs off us)
  | _, _, _, ha, .nil => ha
  | _, _, off, ha, .cons hb hs => by
    simp only [setsL]
    exact FRs.sets (off + 1) (by rw [setL_eq, setL_eq]; exact ha.set hb off) hs

inductive PRs (w : World) (g : Gh) (h : Heap) : List (Nat × AV) → List (Nat × Value) → Prop
  | nil : PRs w g h [] []
  | cons {i : Nat} {a : AV} {v : Value} {as : List (Nat × AV)} {vs : List (Nat × Value)} (ha : VR w g h a v) (hs : PRs w g h as vs) : PRs w g h ((i, a) :: as) ((i, v) :: vs)

theorem foldl_zipIdx_size (off : Nat) : ∀ (vs : List Value) (k : Nat) (cs : Array Value),
    ((vs.zipIdx k).foldl (fun (cs : Array Value) (x : Value × Nat) => cs.setIfInBounds (off + x.2) x.1) cs).size = cs.size
  | [], k, cs => by simp
  | v :: vs, k, cs => by
    simp only [List.zipIdx_cons, List.foldl_cons]
    rw [foldl_zipIdx_size off vs (k + 1)]
    simp

theorem fillA_ok {place place' : Nat → Option (Nat × Nat)} (hp : ∀ i r, place i = some r → place' i = some r) :
    ∀ {as : List (Nat × AV)} {vs : List (Nat × Value)} {cells r : List AV} {cs : Array Value}, PRs w g h as vs → VRs w g h cells cs.toList → fillA place cells as = some r →
      ∃ cs', Instr.fill place' cs vs = some cs' ∧ VRs w g h r cs'.toList ∧ cs'.size = cs.size
  | _, _, cells, r, cs, .nil, hc, hf => by
    simp only [fillA, Option.some.injEq] at hf; subst hf
    exact ⟨cs, rfl, hc, rfl⟩
  | _, _, cells, r, cs, .cons (i := i) (a := a) (v := v) ha hs, hc, hf => by
    simp only [fillA] at hf
    split at hf
    · cases hf
    · rename_i off size hpi
      split at hf
      · rename_i hh
        simp only [Bool.and_eq_true] at hh
        have h1 := Nat.eq_of_beq_eq_true hh.2.1
        have h2 := Nat.le_of_ble_eq_true hh.2.2
        have hj : a ≠ .junk := by rintro rfl; simp [notJunk] at hh
        have hcl := ha.cellsOf hj
        have hl := hcl.length
        have hcsl := hc.length
        simp only [Array.length_toList] at hl hcsl
        obtain ⟨cs', h3, h4, h5⟩ := fillA_ok hp hs (cs := v.cells.zipIdx.foldl (fun cs (c, j) => cs.setIfInBounds (off + j) c) cs) (by
          rw [← Array.foldl_toList, Array.toList_zipIdx, foldl_zipIdx off v.cells.toList 0 cs]
          exact hc.sets off hcl) hf
        refine ⟨cs', ?_, h4, ?_⟩
        · simp only [Instr.fill, hp _ _ hpi]
          rw [if_neg]
          · exact h3
          · simp only [ne_eq, Bool.or_eq_true, decide_eq_true_eq, not_or, Decidable.not_not]
            omega
        · rw [h5, ← Array.foldl_toList, Array.toList_zipIdx, foldl_zipIdx_size]
      · cases hf

theorem parts_rel {tmps : Tms} {a : Act} (ht : TR w g h tmps a.tmps) : ∀ ps : List (Nat × Operand),
    PRs w g h (ps.map fun (i, x) => (i, evalO tmps x)) (ps.map fun (i, x) => (i, a.eval x))
  | [] => .nil
  | (_, x) :: ps => .cons (evalO_rel ht x) (parts_rel ht ps)

/-- The zero value's cells. -/
theorem zero_rel (z : Value) : VRs w g h (z.cells.toList.map cv0) z.cells.toList := cv0_rels w g h _

theorem cellsOf_ti (hE : EnvOK P E) {t : Nat} {i : TI} (h : E.ti t = some i) : P.cellsOf t = i.size := by
  obtain ⟨info, h1, h2, -⟩ := hE.info h
  simp [Program.cellsOf, h1, h2]

theorem run_places (w : World) : ∀ (fs : List Field), (∀ x ∈ fs, ∃ i, P.info? x.type = some i) →
    (fs.mapM (fun f => do pure (f.offset, ← Go.sizeOf f.type) : Field → Sem (Nat × Nat))).run P w = .ok (fs.map fun f => (f.offset, P.cellsOf f.type)) w
  | [], _ => rfl
  | f :: fs, hs => by
    obtain ⟨i, hi⟩ := hs f (by simp)
    rw [List.mapM_cons]
    have h1 : (Go.sizeOf f.type).run P w = .ok (P.cellsOf f.type) w := by
      simp [Go.sizeOf, Go.typeInfo, hi, Program.cellsOf]
    simp only [Sem.run_bind, h1, Result.andThen_ok, Sem.run_pure, run_places w fs (fun x hx => hs x (by simp [hx])), List.map_cons]

include hE in
theorem buildA_ok {t : Nat} {as : List (Nat × AV)} {vs : Array (Nat × Value)} {r : AV} (hs : PRs w g h as vs.toList) (hb : buildA E t as = some r) :
    ∃ v, (Instr.build t vs).run P w = .ok v w ∧ VR w g h r v := by
  unfold buildA at hb
  split at hb
  · cases hb
  rename_i ti hti
  obtain ⟨z, hz1, hz2, -⟩ := hE.runZero hti
  have hz : VRs w g h ti.zero z.cells.toList := by rw [hz2]; exact zero_rel z
  split at hb
  · rename_i fs hd
    obtain ⟨d, hu, hT⟩ := under_of hE hti hd
    cases d <;> simp only [TDok] at hT
    rename_i fields
    have hinf : ∀ x ∈ fields.toList, ∃ i, P.info? x.type = some i := by
      intro x hx
      have := (hE.ti t ti hti).flds fs hd (x.type, x.offset) (by rw [← hT]; exact List.mem_map.2 ⟨x, hx, rfl⟩)
      exact this
    split at hb
    · rename_i cells hf
      simp only [Option.some.injEq] at hb; subst hb
      obtain ⟨cs', h1, h2, -⟩ := fillA_ok (place' := fun i => ((fields.toList.map fun f => (f.offset, P.cellsOf f.type)).toArray)[i]?) (by
        intro i r hr
        rw [getL_eq, ← hT, List.getElem?_map] at hr
        simp only [List.getElem?_toArray, List.getElem?_map]
        cases hx : fields.toList[i]? with
        | none => simp [hx] at hr
        | some f =>
          simp only [hx, Option.map_some] at hr ⊢
          split at hr
          · rename_i fi hfi
            rw [cellsOf_ti hE hfi]
            exact hr
          · cases hr) hs hz hf
      refine ⟨.agg cs', ?_, .agg (cs := cs'.toList) h2⟩
      unfold Instr.build
      simp only [Sem.run_bind, hz1, run_underlying hu, Result.andThen_ok]
      rw [Array.mapM_eq_mapM_toList]
      simp only [Sem.run_map, run_places w _ hinf, Result.andThen_ok, h1]
      rfl
    · cases hb
  · rename_i n e hd
    obtain ⟨d, hu, hT⟩ := under_of hE hti hd
    cases d <;> simp only [TDok] at hT
    obtain ⟨rfl, rfl⟩ := hT
    split at hb
    · rename_i ei hei
      split at hb
      · rename_i cells hf
        simp only [Option.some.injEq] at hb; subst hb
        obtain ⟨cs', h1, h2, -⟩ := fillA_ok (place' := fun i => some (i * ei.size, ei.size)) (fun i r hr => hr) hs hz hf
        refine ⟨.agg cs', ?_, .agg (cs := cs'.toList) h2⟩
        unfold Instr.build
        simp only [Sem.run_bind, hz1, run_underlying hu, Result.andThen_ok, hE.runSize hei, h1]
        rfl
      · cases hb
    · cases hb
  · cases hb

/-! ## Places -/

theorem addr_add (p o n : Nat) : (⟨p, o, none⟩ : Addr).add n = ⟨p, o + n, none⟩ := by
  unfold Addr.add
  split
  · rename_i hn; subst hn; rfl
  · rfl

theorem add_spot {a : Addr} (hs : a.spot = none) (n : Nat) : (a.add n).spot = none := by
  unfold Addr.add
  split <;> simp [hs]

theorem moveBy_ok {n : Nat} {x r : AV} {v : Value} (hx : VR w g h x v) (hm : moveBy n x = some r) :
    ∃ a : Addr, v = .pointer (some a) ∧ VR w g h r (.pointer (some (a.add n))) := by
  unfold moveBy at hm
  split at hm
  · rename_i b gen off
    simp only [Option.some.injEq] at hm; subst hm
    cases hx with
    | fr hf => cases hf
    | ptr hb hg hs ha =>
      refine ⟨_, rfl, .ptr hb hg (add_spot hs n) fun he => ?_⟩
      rw [ha he, addr_add]
  · rename_i cells off
    simp only [Option.some.injEq] at hm; subst hm
    cases hx with
    | fr hf =>
      cases hf with
      | fptr hF hp hv hc =>
        refine ⟨_, rfl, ?_⟩
        rw [addr_add, Nat.add_assoc]
        exact .fr (.fptr hF hp hv hc)
  · rename_i n' off
    simp only [Option.some.injEq] at hm; subst hm
    cases hx with
    | fr hf =>
      cases hf
      refine ⟨_, rfl, ?_⟩
      rw [addr_add]
      exact .fr (.gptr _ _)
  · cases hm

include hE in
theorem fieldAddrA_ok {s f : Nat} {x r : AV} {v : Value} (hx : VR w g h x v) (hr : fieldAddrA E s x f = some r) :
    ∃ v', (Instr.fieldAt s v f).run P w = .ok v' w ∧ VR w g h r v' := by
  unfold fieldAddrA at hr
  split at hr
  · rename_i fs sz bt z cm hti
    obtain ⟨d, hu, hT⟩ := hE.under hti
    cases d <;> simp only [TDok] at hT
    rename_i fields
    split at hr
    · rename_i ft off hf
      split at hr
      · rename_i fi hfi
        split at hr
        · cases hr
        · rename_i hz
          obtain ⟨a, rfl, ha⟩ := moveBy_ok hx hr
          rw [getL_eq, ← hT, List.getElem?_map] at hf
          cases hg : fields.toList[f]? with
          | none => simp [hg] at hf
          | some fl =>
            simp only [hg, Option.map_some, Option.some.injEq, Prod.mk.injEq] at hf
            obtain ⟨rfl, rfl⟩ := hf
            have hg' : fields[f]? = some fl := by rw [← Array.getElem?_toList]; exact hg
            refine ⟨_, ?_, ha⟩
            unfold Instr.fieldAt
            simp only [Sem.run_bind, run_underlying hu, Result.andThen_ok, hg', Instr.sureAddr, Sem.run_pure, fieldPlace, hE.runSize hfi, hz, if_false]
      · cases hr
    · cases hr
  · cases hr

/-- A part of a struct's or an array's cells. -/
theorem partA_ok (hE : EnvOK P E) {t off : Nat} {cells : List AV} {cs : List Value} {r : AV} (hc : VRs w g h cells cs) (hr : partA E t cells off = some r) :
    ∃ v, (part t cs.toArray off).run P w = .ok v w ∧ VR w g h r v := by
  unfold partA at hr
  split at hr
  · rename_i ti hti
    unfold Go.part
    split at hr
    · rename_i hagg
      cases hca : cellsAt cells off ti.size with
      | none => simp [hca] at hr
      | some l =>
        simp only [hca, Option.map_some, Option.some.injEq] at hr; subst hr
        obtain ⟨h1, h2⟩ := takeL_some hca
        rw [dropL_eq] at h1 h2
        refine ⟨.agg (cs.toArray.extract off (off + ti.size)), ?_, ?_⟩
        · simp only [Sem.run_bind, hE.runAgg hti, Result.andThen_ok, hagg, if_true, hE.runSize hti, Sem.run_pure]
        · rw [h2]
          have : (cs.toArray.extract off (off + ti.size)) = ((cs.drop off).take ti.size).toArray := by
            simp [List.extract_toArray, List.extract_eq_take_drop]
          rw [this]
          exact .agg ((hc.drop off).take ti.size)
    · rename_i hagg
      rw [getL_eq, dropL_eq, List.getElem?_drop, Nat.add_zero] at hr
      obtain ⟨v, hv, hvr⟩ := hc.get hr
      refine ⟨v, ?_, hvr⟩
      have hagg' : ti.desc.agg = false := by simpa using hagg
      have hv' : cs.toArray[off]? = some v := by simpa using hv
      simp only [Sem.run_bind, hE.runAgg hti, Result.andThen_ok, hagg', Bool.false_eq_true, if_false, hv', Sem.run_pure]
  · cases hr

include hE in
theorem fieldA_ok {s f : Nat} {x r : AV} {v : Value} (hx : VR w g h x v) (hr : fieldA E s x f = some r) :
    ∃ v', (Instr.field s v f).run P w = .ok v' w ∧ VR w g h r v' := by
  unfold fieldA at hr
  split at hr
  · rename_i fs sz bt z cm cells hti
    obtain ⟨d, hu, hT⟩ := hE.under hti
    cases d <;> simp only [TDok] at hT
    rename_i fields
    obtain ⟨cs, rfl, hcs⟩ := hx.agg'
    split at hr
    · rename_i ft off hf
      obtain ⟨v', h1, h2⟩ := partA_ok hE hcs hr
      rw [getL_eq, ← hT, List.getElem?_map] at hf
      cases hg : fields.toList[f]? with
      | none => simp [hg] at hf
      | some fl =>
        simp only [hg, Option.map_some, Option.some.injEq, Prod.mk.injEq] at hf
        obtain ⟨rfl, rfl⟩ := hf
        have hg' : fields[f]? = some fl := by rw [← Array.getElem?_toList]; exact hg
        refine ⟨v', ?_, h2⟩
        unfold Instr.field
        simp only [Sem.run_bind, run_underlying hu, Result.andThen_ok, hg', asAgg, Sem.run_pure, h1]
    · cases hr
  · cases hr

theorem inRange_iff {i : Int} {n : Nat} : inRange i n = true ↔ 0 ≤ i ∧ i < n := by simp [inRange]

theorem dropVRs_sub {vs : List Value} {c : Array Value} {off k n : Nat} (hc : ∀ (i : Nat) (v : Value), vs[i]? = some v → c[off + i]? = some v) :
    ∀ (i : Nat) (v : Value), ((vs.drop k).take n)[i]? = some v → c[off + k + i]? = some v := by
  intro i v hv
  rw [List.getElem?_take] at hv
  split at hv
  · rw [List.getElem?_drop] at hv
    rw [Nat.add_assoc]
    exact hc _ _ hv
  · cases hv

include hE in
theorem indexAddrA_ok {t : Nat} {x i r : AV} {v vi : Value} {tr tr' : Tr} (hx : VR w g h x v) (hi : VR w g h i vi) (hr : indexAddrA E t x i tr = some (r, tr')) (ho : tr'.holds) :
    tr.holds ∧ ∃ v', (Instr.indexAt t v vi).run P w = .ok v' w ∧ VR w g h r v' := by
  unfold indexAddrA at hr
  split at hr
  · rename_i k n
    obtain rfl := hi.int
    rcases hti : E.ti t with _ | ti <;> simp only [hti] at hr
    · exact (fail_inv hr).elim
    obtain ⟨d, hu, hT⟩ := hE.under hti
    cases hd : ti.desc with
    | slice e =>
      simp only [hd] at hr hT
      cases d <;> simp only [TDok] at hT
      subst hT
      rcases hei : E.ti e with _ | ei <;> simp only [hei] at hr
      · exact (fail_inv hr).elim
      cases x with
      | fslice cells esz len full nn =>
        simp only at hr
        split at hr
        · rename_i hsz
          subst hsz
          obtain ⟨u, t', h1, h2⟩ := bind_inv hr
          obtain ⟨rfl, rfl⟩ := pure_inv h2
          obtain ⟨h4, h5⟩ := check_inv h1 ho
          have h6 := inRange_iff.1 h4
          cases hx with
          | fr hf =>
            cases hf with
            | fempty => simp at h6; omega
            | fslice hF hp hv hc hl hcap hfull =>
              refine ⟨h5, _, ?_, .fr (.fptr hF hp hv hc)⟩
              unfold Instr.indexAt
              simp only [Sem.run_bind, asIntOf, Sem.run_pure, Result.andThen_ok, run_underlying hu, h6, and_self, if_true, hE.runSize hei, addr_add]
        · exact (fail_inv hr).elim
      | mslice b gen off esz len full =>
        simp only at hr
        split at hr
        · rename_i hsz
          subst hsz
          obtain ⟨u, t', h1, h2⟩ := bind_inv hr
          obtain ⟨rfl, rfl⟩ := pure_inv h2
          obtain ⟨h4, h5⟩ := check_inv h1 ho
          have h6 := inRange_iff.1 h4
          cases hx with
          | fr hf => cases hf
          | mslice hb hg hs hcap hfull ha =>
            rename_i a
            refine ⟨h5, .pointer (some (a.add (n.toNat * ei.size))), ?_, .ptr hb hg (add_spot hs _) fun he => ?_⟩
            · unfold Instr.indexAt
              simp only [Sem.run_bind, asIntOf, Sem.run_pure, Result.andThen_ok, run_underlying hu, h6, and_self, if_true, hE.runSize hei]
            · rw [(ha he).1, addr_add]
        · exact (fail_inv hr).elim
      | _ => exact (fail_inv hr).elim
    | array len e =>
      simp only [hd] at hr hT
      cases d <;> simp only [TDok] at hT
      obtain ⟨rfl, rfl⟩ := hT
      rcases hei : E.ti e with _ | ei <;> simp only [hei] at hr
      · exact (fail_inv hr).elim
      obtain ⟨u, t', h1, h2⟩ := bind_inv hr
      obtain ⟨h3, rfl⟩ := lift_inv h2
      obtain ⟨h4, h5⟩ := check_inv h1 ho
      obtain ⟨a, rfl, ha⟩ := moveBy_ok hx h3
      refine ⟨h5, _, ?_, ha⟩
      have h6 := inRange_iff.1 h4
      unfold Instr.indexAt
      simp only [Sem.run_bind, asIntOf, Sem.run_pure, Result.andThen_ok, run_underlying hu, Instr.sureAddr, h6, and_self, if_true, hE.runSize hei]
    | _ => simp only [hd] at hr; exact (fail_inv hr).elim
  · exact (fail_inv hr).elim

include hE in
theorem indexA_ok {t : Nat} {x i r : AV} {v vi : Value} {tr tr' : Tr} (hx : VR w g h x v) (hi : VR w g h i vi) (hr : indexA E t x i tr = some (r, tr')) (ho : tr'.holds) :
    tr.holds ∧ ∃ v', (Instr.index t v vi).run P w = .ok v' w ∧ VR w g h r v' := by
  unfold indexA at hr
  split at hr
  · rename_i k n
    obtain rfl := hi.int
    rcases hti : E.ti t with _ | ti <;> simp only [hti] at hr
    · exact (fail_inv hr).elim
    obtain ⟨d, hu, hT⟩ := hE.under hti
    cases hd : ti.desc with
    | string =>
      simp only [hd] at hr hT
      cases d <;> simp only [TDok] at hT
      cases x with
      | str bs =>
        simp only at hr
        obtain ⟨s, rfl, rfl⟩ := hx.str
        obtain ⟨u, t', h1, h2⟩ := bind_inv hr
        obtain ⟨rfl, rfl⟩ := pure_inv h2
        obtain ⟨h4, h5⟩ := check_inv h1 ho
        have h6 := inRange_iff.1 h4
        rw [bytesOf_length] at h6
        have h7 : n.toNat < s.size := by omega
        refine ⟨h5, .int .u8 (s[n.toNat]'h7).toNat, ?_, ?_⟩
        · unfold Instr.index
          simp only [Sem.run_bind, asIntOf, Sem.run_pure, Result.andThen_ok, run_underlying hu, h6.1, if_true, ByteArray.getElem?_lt' s _ h7]
        · rw [getL_eq, bytesOf_get, ByteArray.getElem?_lt' s _ h7]
          exact .fr (.int _ _)
      | _ => exact (fail_inv hr).elim
    | array len e =>
      simp only [hd] at hr hT
      cases d <;> simp only [TDok] at hT
      obtain ⟨rfl, rfl⟩ := hT
      cases x with
      | agg cells =>
        simp only at hr
        obtain ⟨cs, rfl, hcs⟩ := hx.agg'
        rcases hei : E.ti e with _ | ei <;> simp only [hei] at hr
        · exact (fail_inv hr).elim
        obtain ⟨u, t', h1, h2⟩ := bind_inv hr
        obtain ⟨h3, h3'⟩ := readCell_inv h2 ho
        obtain ⟨h4, h5⟩ := check_inv h1 h3'
        have h6 := inRange_iff.1 h4
        obtain ⟨v', h7, h8⟩ := partA_ok hE hcs h3
        refine ⟨h5, v', ?_, h8⟩
        unfold Instr.index
        simp only [Sem.run_bind, asIntOf, Sem.run_pure, Result.andThen_ok, run_underlying hu, h6, and_self, if_true, hE.runSize hei, h7]
      | _ => exact (fail_inv hr).elim
    | _ => simp only [hd] at hr; exact (fail_inv hr).elim
  · exact (fail_inv hr).elim

end
end Go.Am
end
noncomputable section
namespace Go.Am

section
variable {P : Program} {E : Env} (hE : EnvOK P E) {w : World} {g : Gh} {h : Heap}

inductive OVR (w : World) (g : Gh) (h : Heap) : Option AV → Option Value → Prop
  | none : OVR w g h none none
  | some {a : AV} {v : Value} (ha : VR w g h a v) : OVR w g h (some a) (some v)

theorem opt_rel {tmps : Tms} {a : Act} (ht : TR w g h tmps a.tmps) (x : Option Operand) : OVR w g h (x.map (evalO tmps)) (x.map a.eval) := by
  cases x with
  | none => exact .none
  | some x => exact .some (evalO_rel ht x)

theorem sliceBound_run {k : IntKind} {i : Int} {y : Nat} {code : BoundsCode} (h0 : 0 ≤ i) (h1 : i ≤ y) (w : World) : (Instr.sliceBound (.int k i) y code).run P w = .ok i.toNat w := by
  simp [Instr.sliceBound, asIntOf, h0, h1]

theorem bounds_ok {lo hi mx : Option AV} {lo' hi' mx' : Option Value} {len cap : Nat} {isS : Bool} {b : Int × Int × Int} (hlo : OVR w g h lo lo') (hhi : OVR w g h hi hi') (hmx : OVR w g h mx mx')
    (hb : boundsA lo hi mx len = some b) (h0 : 0 ≤ b.1) (h1 : b.1 ≤ b.2.1) (h2 : b.2.1 ≤ b.2.2) (h3 : b.2.2 ≤ (len : Nat)) (h4 : len ≤ cap) :
    (Instr.sliceBounds isS len cap lo' hi' mx').run P w = .ok (b.1.toNat, b.2.1.toNat, if mx.isSome then b.2.2.toNat else cap) w := by
  unfold boundsA at hb
  split at hb
  · rename_i l hh m e1 e2 e3
    split at hb
    · cases hb
    · rename_i hno
      simp only [Option.some.injEq] at hb; subst hb
      simp only at h0 h1 h2 h3 ⊢
      have key : ∀ {x : Option AV} {x' : Option Value} {d : Nat} {n : Int}, OVR w g h x x' → boundA x d = some n → (x' = none ∧ x = none ∧ n = d) ∨ ∃ k, x' = some (.int k n) ∧ x.isSome = true := by
        intro x x' d n hx hbx
        cases hx with
        | none => simp only [boundA, Option.some.injEq] at hbx; exact .inl ⟨rfl, rfl, hbx.symm⟩
        | some ha =>
          rename_i a v
          cases a <;> simp only [boundA] at hbx <;> (try cases hbx)
          rw [ha.int]
          exact .inr ⟨_, rfl, rfl⟩
      rcases key hmx e3 with ⟨rfl, rfl, rfl⟩ | ⟨km, rfl, hsm⟩
      · rcases key hhi e2 with ⟨rfl, rfl, rfl⟩ | ⟨kh, rfl, hsh⟩
        · rcases key hlo e1 with ⟨rfl, rfl, rfl⟩ | ⟨kl, rfl, hsl⟩
          · simp [Instr.sliceBounds]
          · simp [Instr.sliceBounds, sliceBound_run (P := P) (k := kl) h0 h1]
        · rcases key hlo e1 with ⟨rfl, rfl, rfl⟩ | ⟨kl, rfl, hsl⟩
          · have q1 := fun code => sliceBound_run (P := P) (k := kh) (code := code) (show 0 ≤ hh by omega) (show hh ≤ (cap : Nat) by omega) w
            simp [Instr.sliceBounds, q1]
          · have q1 := fun code => sliceBound_run (P := P) (k := kh) (code := code) (show 0 ≤ hh by omega) (show hh ≤ (cap : Nat) by omega) w
            have q2 := fun code => sliceBound_run (P := P) (k := kl) (code := code) (y := hh.toNat) h0 (by omega) w
            simp [Instr.sliceBounds, q1, q2]
      · have q0 := fun code => sliceBound_run (P := P) (k := km) (code := code) (show 0 ≤ m by omega) (show m ≤ (cap : Nat) by omega) w
        rcases key hhi e2 with ⟨rfl, rfl, rfl⟩ | ⟨kh, rfl, hsh⟩
        · simp [hsm] at hno
        · have q1 := fun code => sliceBound_run (P := P) (k := kh) (code := code) (y := m.toNat) (show 0 ≤ hh by omega) (by omega) w
          rcases key hlo e1 with ⟨rfl, rfl, rfl⟩ | ⟨kl, rfl, hsl⟩
          · simp [Instr.sliceBounds, q0, q1, hsm]
          · have q2 := fun code => sliceBound_run (P := P) (k := kl) (code := code) (y := hh.toNat) h0 (by omega) w
            simp [Instr.sliceBounds, q0, q1, q2, hsm]
  · cases hb

theorem ite_map_ne {c : Prop} [Decidable c] (a : Addr) (f : Addr → Addr) : (if c then some a else (some a).map f) ≠ none := by
  by_cases hc : c <;> simp [hc]
theorem ite_map_none {c : Prop} [Decidable c] {base : Option Addr} {f : Addr → Addr} (hn : (if c then base else base.map f) = none) : base = none := by
  by_cases hc : c
  · simpa [hc] using hn
  · simpa [hc] using hn

theorem toNat_mul_le {a b n : Nat} (hab : a ≤ b) : a * n ≤ b * n := Nat.mul_le_mul_right n hab

theorem mem_at {b gen : Nat} {r : List AV × Nat × Bool × Bool} (hm : h.mem b gen = some r) : h.at b = some (.mem r.1 r.2.1 gen r.2.2.1 r.2.2.2) := by
  unfold Heap.mem at hm
  split at hm
  · rename_i hb
    split at hm
    · rename_i hg
      subst hg
      simp only [Option.some.injEq] at hm; subst hm
      exact hb
    · cases hm
  · cases hm

theorem mem_gen {b gen : Nat} {r : List AV × Nat × Bool × Bool} (hm : h.mem b gen = some r) : h.gen? b = some gen := by
  simp [Heap.gen?, mem_at hm]

theorem mem_blk (hr : HR E w g h) {b gen : Nat} {r : List AV × Nat × Bool × Bool} (hm : h.mem b gen = some r) :
    ∃ (c : Array Value) (fr : Nat × Nat) (vs : List Value), w.heap[g.φ b]? = some (Obj.cells c r.2.1 fr) ∧ VRs w g h r.1 vs ∧ (r.2.2.2 = true → FRs w g.F r.1 vs) ∧
      (∀ (i : Nat) (v : Value), vs[i]? = some v → c[i]? = some v) ∧
      (r.2.2.1 = false → ¬ g.F (g.φ b) ∧ ∀ i, i < c.size → (decide (fr.1 ≤ i) && decide (i < fr.2)) = false) ∧ (r.2.2.1 = true → g.F (g.φ b)) ∧ r.1.length ≤ c.size := by
  obtain ⟨c, fr, vs, h1, h2, h3, h4, h5, h6⟩ := hr.blk b _ (mem_at hm)
  refine ⟨c, fr, vs, h1, h2, h3, h4, h5, h6, ?_⟩
  rw [h2.length]
  rcases Nat.lt_or_ge c.size vs.length with hlt | hge
  · have := h4 c.size _ (List.getElem?_eq_getElem hlt)
    rw [Array.getElem?_eq_none (Nat.le_refl _)] at this
    cases this
  · exact hge

include hE in
theorem sliceA_ok (hheap : HR E w g h) {t : Nat} {x r : AV} {v : Value} {lo hi mx : Option AV} {lo' hi' mx' : Option Value} {tr tr' : Tr} (hx : VR w g h x v) (hlo : OVR w g h lo lo')
    (hhi : OVR w g h hi hi') (hmx : OVR w g h mx mx') (hr : sliceA E h t x lo hi mx tr = some (r, tr')) (ho : tr'.holds) :
    tr.holds ∧ ∃ v', (Instr.sliceAt t v lo' hi' mx').run P w = .ok v' w ∧ VR w g h r v' := by
  unfold sliceA at hr
  rcases hti : E.ti t with _ | ti <;> simp only [hti] at hr
  · exact (fail_inv hr).elim
  obtain ⟨d, hu, hT⟩ := hE.under hti
  cases hd : ti.desc with
  | string =>
    simp only [hd] at hr hT
    cases d <;> simp only [TDok] at hT
    cases x with
    | str bs =>
      cases mx with
      | some _ => exact (fail_inv hr).elim
      | none =>
        simp only at hr
        cases hmx
        obtain ⟨s, rfl, rfl⟩ := hx.str
        obtain ⟨b, t1, h1, h2⟩ := bind_inv hr
        obtain ⟨hbd, rfl⟩ := lift_inv h1
        obtain ⟨u, t2, h3, h4⟩ := bind_inv h2
        obtain ⟨rfl, rfl⟩ := pure_inv h4
        obtain ⟨h5, h6⟩ := check_inv h3 ho
        simp only [Bool.and_eq_true, decide_eq_true_eq] at h5
        have hm : b.2.2 = ((bytesOf s).length : Nat) := by
          unfold boundsA at hbd
          split at hbd
          · rename_i e3
            simp only [boundA, Option.some.injEq] at e3
            simp only [Option.isSome_none, Bool.false_and, Bool.false_eq_true, if_false, Option.some.injEq] at hbd
            rw [← hbd, ← e3]
          · cases hbd
        have hb := bounds_ok (P := P) (w := w) (isS := false) (cap := (bytesOf s).length) hlo hhi .none hbd h5.1.1 h5.1.2 h5.2 (by rw [hm]; exact Int.le_refl _) (Nat.le_refl _)
        refine ⟨h6, .string (s.extract b.1.toNat b.2.1.toNat), ?_, .fr (.str ?_)⟩
        · unfold Instr.sliceAt
          simp only [Sem.run_bind, run_underlying hu, Result.andThen_ok]
          unfold Instr.slice
          rw [bytesOf_length] at hb
          simp only [Sem.run_bind, run_underlying hu, Result.andThen_ok, Option.isSome_none, Bool.false_eq_true, if_false, Sem.run_pure, hb]
        · rw [bytesOf_extract, dropL_eq]
    | _ => cases mx <;> exact (fail_inv hr).elim
  | slice et =>
    simp only [hd] at hr hT
    cases d <;> simp only [TDok] at hT
    subst hT
    rcases hei : E.ti et with _ | ei <;> simp only [hei] at hr
    · exact (fail_inv hr).elim
    have hsl : ∀ {a : Option Addr} {len cap : Nat} {b : Int × Int × Int} {M : Nat}, (Instr.sliceBounds true len cap lo' hi' mx').run P w = .ok (b.1.toNat, b.2.1.toNat, M) w →
        (Instr.sliceAt t (.slice a len cap) lo' hi' mx').run P w = .ok (.slice (if M = b.1.toNat then a else a.map (·.add (b.1.toNat * ei.size))) (b.2.1.toNat - b.1.toNat) (M - b.1.toNat)) w := by
      intro a len cap b M hb
      unfold Instr.sliceAt
      simp only [Sem.run_bind, run_underlying hu, Result.andThen_ok]
      unfold Instr.slice
      simp only [Sem.run_bind, run_underlying hu, Result.andThen_ok, hb, hE.runSize hei, Sem.run_pure]
    cases x with
    | nilslice =>
      simp only at hr
      obtain rfl := hx.nilslice
      obtain ⟨b, t1, h1, h2⟩ := bind_inv hr
      obtain ⟨hbd, rfl⟩ := lift_inv h1
      obtain ⟨u, t2, h3, h4⟩ := bind_inv h2
      obtain ⟨rfl, rfl⟩ := pure_inv h4
      obtain ⟨h5, h6⟩ := check_inv h3 ho
      simp only [Bool.and_eq_true, decide_eq_true_eq] at h5
      have hb := bounds_ok (P := P) (w := w) (isS := true) (cap := 0) hlo hhi hmx hbd (by omega) (by omega) (by omega) (by omega) (Nat.le_refl _)
      refine ⟨h6, _, hsl hb, ?_⟩
      have e1 : b.1.toNat = 0 := by omega
      have e2 : b.2.1.toNat = 0 := by omega
      have e3 : b.2.2.toNat = 0 := by omega
      simp only [e1, e2, e3, ite_self, Nat.sub_self, if_true]
      exact .fr .nilslice
    | fslice cells esz len full nn =>
      simp only at hr
      split at hr
      · rename_i hsz
        subst hsz
        obtain ⟨b, t1, h1, h2⟩ := bind_inv hr
        obtain ⟨hbd, rfl⟩ := lift_inv h1
        obtain ⟨u, t2, h3, h4⟩ := bind_inv h2
        obtain ⟨rfl, rfl⟩ := pure_inv h4
        obtain ⟨h5, h6⟩ := check_inv h3 ho
        simp only [Bool.and_eq_true, decide_eq_true_eq] at h5
        have hmle : ∀ cap, len ≤ cap → (if mx.isSome then b.2.2.toNat else cap) - b.1.toNat ≥ b.2.1.toNat - b.1.toNat := by
          intro cap hcap
          split <;> omega
        have hful : ∀ cap, (full = true → cap = len) → sliceFull mx full b.2.1 b.2.2 len = true →
            (if mx.isSome then b.2.2.toNat else cap) - b.1.toNat = b.2.1.toNat - b.1.toNat := by
          intro cap hcap hf
          unfold sliceFull at hf
          cases mx with
          | none => simp only [Bool.and_eq_true, decide_eq_true_eq] at hf; have := hcap hf.1; simp; omega
          | some _ => simp only [decide_eq_true_eq] at hf; simp; omega
        cases hx with
        | fr hf =>
          cases hf with
          | fempty k1 k2 k3 =>
            rename_i cap base
            have hb := bounds_ok (P := P) (w := w) (isS := true) (cap := cap) hlo hhi hmx hbd h5.1.1.1 h5.1.1.2 h5.1.2 h5.2 (Nat.zero_le _)
            refine ⟨h6, _, hsl hb, .fr ?_⟩
            have e1 : b.1.toNat = 0 := by omega
            have e2 : b.2.1.toNat = 0 := by omega
            have e3 : b.2.2.toNat = 0 := by omega
            simp only [dropL_eq, List.drop_nil, List.take_nil, e1, e2, Nat.sub_self, Nat.zero_mul, Nat.sub_zero]
            refine .fempty (fun hf => ?_) (fun hn hq => ?_) (fun hn => ?_)
            · have := hful cap k1 hf
              omega
            · exact k2 hn (ite_map_none hq)
            · have := k3 (ite_map_none hn)
              split <;> omega
          | fslice hF hp hv hc hl hcap hfull =>
            rename_i p off e cap c fr vs
            have hb := bounds_ok (P := P) (w := w) (isS := true) (cap := cap) hlo hhi hmx hbd h5.1.1.1 h5.1.1.2 h5.1.2 h5.2 hcap
            refine ⟨h6, _, hsl hb, .fr ?_⟩
            by_cases hlt : b.2.1.toNat - b.1.toNat = 0
            · rw [hlt, Nat.zero_mul, List.take_zero]
              have hbse : (if (if mx.isSome = true then b.2.2.toNat else cap) = b.1.toNat then some (⟨p, off, none⟩ : Addr) else (some (⟨p, off, none⟩ : Addr)).map (·.add (b.1.toNat * ei.size))) ≠ none := ite_map_ne _ _
              refine .fempty (fun hf => ?_) (fun _ => hbse) (fun hn => absurd hn hbse)
              have := hful cap hfull hf
              omega
            · have hne : ¬ (if mx.isSome = true then b.2.2.toNat else cap) = b.1.toNat := by
                have := hmle cap hcap
                omega
              rw [if_neg hne]
              simp only [Option.map_some, addr_add]
              rw [dropL_eq]
              refine .fslice hF hp ((hv.drop _).take _) (dropVRs_sub hc) ?_ (hmle cap hcap) (hful cap hfull)
              rw [List.length_take, List.length_drop, hl]
              rw [Nat.min_eq_left]
              have h7 : b.2.1.toNat ≤ len := by omega
              have h8 := Nat.mul_le_mul_right ei.size h7
              rw [Nat.sub_mul]
              omega
      · exact (fail_inv hr).elim
    | mslice p gen off esz len full =>
      simp only at hr
      split at hr
      · rename_i hsz
        subst hsz
        obtain ⟨b, t1, h1, h2⟩ := bind_inv hr
        obtain ⟨hbd, rfl⟩ := lift_inv h1
        obtain ⟨u, t2, h3, h4⟩ := bind_inv h2
        obtain ⟨q, t3, h7, h8⟩ := bind_inv h4
        have key : t3.holds → tr.holds ∧ (0 ≤ b.1 ∧ b.1 ≤ b.2.1 ∧ b.2.1 ≤ b.2.2 ∧ b.2.2 ≤ (len : Nat)) ∧ decide (b.1 = b.2.1) = q := by
          intro ho3
          obtain ⟨h9, h10⟩ := decideB_inv h7 ho3
          obtain ⟨h5, h6⟩ := check_inv h3 h10
          simp only [Bool.and_eq_true, decide_eq_true_eq] at h5
          exact ⟨h6, ⟨h5.1.1.1, h5.1.1.2, h5.1.2, h5.2⟩, h9⟩
        cases hx with
        | fr hf => cases hf
        | mslice hb0 hg hs hcap hfull ha =>
          rename_i cap n a
          have hmle : b.2.1 ≤ b.2.2 → b.2.2 ≤ (len : Nat) → (if mx.isSome then b.2.2.toNat else cap) - b.1.toNat ≥ b.2.1.toNat - b.1.toNat := by
            intro h1 h2
            split <;> omega
          have hful : sliceFull mx full b.2.1 b.2.2 len = true →
              (if mx.isSome then b.2.2.toNat else cap) - b.1.toNat = b.2.1.toNat - b.1.toNat := by
            intro hf
            unfold sliceFull at hf
            cases mx with
            | none => simp only [Bool.and_eq_true, decide_eq_true_eq] at hf; have := hfull hf.1; simp; omega
            | some _ => simp only [decide_eq_true_eq] at hf; simp; omega
          split at h8
          · rename_i hq
            obtain ⟨rfl, rfl⟩ := pure_inv h8
            obtain ⟨k1, ⟨k2, k3, k4, k5⟩, k6⟩ := key ho
            have hb := bounds_ok (P := P) (w := w) (isS := true) (cap := cap) hlo hhi hmx hbd k2 k3 k4 k5 hcap
            refine ⟨k1, _, hsl hb, .fr ?_⟩
            simp only [Bool.and_eq_true] at hq
            have hq1 : b.1 = b.2.1 := by rw [hq.1] at k6; exact of_decide_eq_true k6
            have : b.2.1.toNat - b.1.toNat = 0 := by omega
            rw [this]
            have hbse : (if (if mx.isSome = true then b.2.2.toNat else cap) = b.1.toNat then some a else (some a).map (·.add (b.1.toNat * ei.size))) ≠ none := ite_map_ne _ _
            refine .fempty (fun hf => ?_) (fun _ => hbse) (fun hn => absurd hn hbse)
            have := hful hf
            omega
          · rename_i hq
            obtain ⟨rfl, rfl⟩ := pure_inv h8
            obtain ⟨k1, ⟨k2, k3, k4, k5⟩, k6⟩ := key ho
            have hb := bounds_ok (P := P) (w := w) (isS := true) (cap := cap) hlo hhi hmx hbd k2 k3 k4 k5 hcap
            refine ⟨k1, _, hsl hb, ?_⟩
            have hbase : (if (if mx.isSome = true then b.2.2.toNat else cap) = b.1.toNat then some a else (some a).map (·.add (b.1.toNat * ei.size))) = some (a.add (b.1.toNat * ei.size)) := by
              by_cases he : (if mx.isSome = true then b.2.2.toNat else cap) = b.1.toNat
              · rw [if_pos he]
                -- nothing lies between: the place is the beginning
                have hz : b.1.toNat = 0 := by
                  by_cases hq1 : b.1 = b.2.1
                  · have hqt : q = true := by rw [← k6]; exact decide_eq_true hq1
                    simp only [hqt, Bool.true_and, Bool.or_eq_true, Bool.not_eq_true', decide_eq_false_iff_not, not_or, Decidable.not_not] at hq
                    omega
                  · split at he <;> omega
                rw [hz, Nat.zero_mul]
                simp [Addr.add]
              · rw [if_neg he]; rfl
            rw [hbase]
            refine .mslice hb0 hg (add_spot hs _) (hmle k4 k5) hful fun he => ?_
            obtain ⟨rfl, c, e, fr, hc1, hc2⟩ := ha he
            refine ⟨by rw [addr_add], c, e, fr, hc1, ?_⟩
            have h9 : b.1.toNat + ((if mx.isSome = true then b.2.2.toNat else cap) - b.1.toNat) ≤ cap := by split <;> omega
            have h10 := Nat.mul_le_mul_right ei.size h9
            rw [Nat.add_mul] at h10
            omega
      · exact (fail_inv hr).elim
    | _ => exact (fail_inv hr).elim
  | array n e =>
    simp only [hd] at hr hT
    cases d <;> simp only [TDok] at hT
    obtain ⟨rfl, rfl⟩ := hT
    cases x with
    | ptr p gen off =>
      cases mx with
      | some _ => exact (fail_inv hr).elim
      | none =>
        simp only at hr
        cases hmx
        rcases hei : E.ti e with _ | ei <;> simp only [hei] at hr
        · exact (fail_inv hr).elim
        obtain ⟨room, t1, h1, h2⟩ := bind_inv hr
        obtain ⟨hroom, rfl⟩ := lift_inv h1
        obtain ⟨u1, t2, h3, h4⟩ := bind_inv h2
        obtain ⟨b, t3, h5, h6⟩ := bind_inv h4
        obtain ⟨hbd, rfl⟩ := lift_inv h5
        obtain ⟨u2, t4, h7, h8⟩ := bind_inv h6
        obtain ⟨q, t5, h9, h10⟩ := bind_inv h8
        obtain ⟨c, fr, vs, k1, k2, k3, k4, k5, k6, k7⟩ := mem_blk hheap hroom
        have hnow := hx.ptr_now (mem_gen hroom)
        subst hnow
        have key : t5.holds → tr.holds ∧ off + n * ei.size ≤ c.size ∧ (0 ≤ b.1 ∧ b.1 ≤ b.2.1 ∧ b.2.1 ≤ (n : Nat)) ∧ decide (b.1 = b.2.1) = q := by
          intro ho3
          obtain ⟨m1, m2⟩ := decideB_inv h9 ho3
          obtain ⟨m3, m4⟩ := check_inv h7 m2
          obtain ⟨m5, m6⟩ := check_inv h3 m4
          simp only [Bool.and_eq_true, decide_eq_true_eq] at m3
          exact ⟨m6, Nat.le_trans (Nat.le_of_ble_eq_true m5) k7, ⟨m3.1.1, m3.1.2, m3.2⟩, m1⟩
        have hm : b.2.2 = (n : Nat) := by
          unfold boundsA at hbd
          split at hbd
          · rename_i e3
            simp only [boundA, Option.some.injEq] at e3
            simp only [Option.isSome_none, Bool.false_and, Bool.false_eq_true, if_false, Option.some.injEq] at hbd
            rw [← hbd, ← e3]
          · cases hbd
        have hsl : ∀ {b : Int × Int × Int}, (Instr.sliceBounds false n n lo' hi' none).run P w = .ok (b.1.toNat, b.2.1.toNat, n) w →
            (Instr.sliceAt t (.pointer (some ⟨g.φ p, off, none⟩)) lo' hi' none).run P w = .ok (.slice (some (if n = b.1.toNat then ⟨g.φ p, off, none⟩ else ⟨g.φ p, off + b.1.toNat * ei.size, none⟩)) (b.2.1.toNat - b.1.toNat) (n - b.1.toNat)) w := by
          intro b hb
          unfold Instr.sliceAt
          simp only [Sem.run_bind, run_underlying hu, Result.andThen_ok, Instr.sureAddr, Sem.run_pure, hb, hE.runSize hei, addr_add]
        split at h10
        · rename_i hq
          obtain ⟨rfl, rfl⟩ := pure_inv h10
          obtain ⟨m1, m2, ⟨m3, m4, m5⟩, m6⟩ := key ho
          have hb := bounds_ok (P := P) (w := w) (isS := false) (cap := n) hlo hhi .none hbd m3 m4 (by omega) (by omega) (Nat.le_refl _)
          refine ⟨m1, _, hsl hb, .fr ?_⟩
          have hq1 : b.1 = b.2.1 := by rw [hq] at m6; exact of_decide_eq_true m6
          have : b.2.1.toNat - b.1.toNat = 0 := by omega
          rw [this]
          refine .fempty (fun hf => ?_) (fun _ => by simp) (fun hn => by simp at hn)
          have := of_decide_eq_true hf
          omega
        · rename_i hq
          obtain ⟨rfl, rfl⟩ := pure_inv h10
          obtain ⟨m1, m2, ⟨m3, m4, m5⟩, m6⟩ := key ho
          have hb := bounds_ok (P := P) (w := w) (isS := false) (cap := n) hlo hhi .none hbd m3 m4 (by omega) (by omega) (Nat.le_refl _)
          refine ⟨m1, _, hsl hb, ?_⟩
          have hne : ¬ b.1 = b.2.1 := by
            intro he
            rw [decide_eq_true he] at m6
            exact hq m6.symm
          rw [if_neg (by omega)]
          refine .mslice (mem_gen hroom) (Nat.le_refl _) rfl (by omega) (fun hf => ?_) fun _ => ⟨rfl, c, _, fr, k1, ?_⟩
          · have := of_decide_eq_true hf
            omega
          · have h9 : b.1.toNat + (n - b.1.toNat) ≤ n := by omega
            have h10 := Nat.mul_le_mul_right ei.size h9
            rw [Nat.add_mul] at h10
            omega
    | _ => cases mx <;> exact (fail_inv hr).elim
  | _ => simp only [hd] at hr; exact (fail_inv hr).elim

end
end Go.Am
end
noncomputable section
namespace Go.Am

section
variable {P : Program} {E : Env} (hE : EnvOK P E) {w : World} {g : Gh} {h : Heap}

theorem cell_of {p e i : Nat} {c : Array Value} {fr : Nat × Nat} {v : Value} (hp : w.heap[p]? = some (.cells c e fr)) (hc : c[i]? = some v) : w.cell? ⟨p, i, none⟩ = some v := by
  simp [World.cell?, hp, hc]

theorem target_ok (hr : HR E w g h) {x : AV} {v : Value} {cells : List AV} {off : Nat} (hx : VR w g h x v) (ht : target E h x = some (cells, off)) :
    ∃ a vs, v = .pointer (some a) ∧ VRs w g h cells vs ∧ ∀ (i : Nat) (u : Value), vs[off + i]? = some u → w.cell? (a.add i) = some u := by
  unfold target at ht
  split at ht
  · rename_i b gen o
    split at ht
    · rename_i hm
      simp only [Option.some.injEq, Prod.mk.injEq] at ht
      obtain ⟨rfl, rfl⟩ := ht
      obtain ⟨c, fr, vs, h1, h2, h3, h4, -⟩ := mem_blk hr hm
      refine ⟨_, vs, hx.ptr_now (mem_gen hm), h2, fun i u hu => ?_⟩
      rw [addr_add]
      exact cell_of h1 (h4 _ _ hu)
    · cases ht
  · simp only [Option.some.injEq, Prod.mk.injEq] at ht
    obtain ⟨rfl, rfl⟩ := ht
    cases hx with
    | fr hf =>
      cases hf with
      | fptr hF hp hv hc =>
        refine ⟨_, _, rfl, hv.vrs, fun i u hu => ?_⟩
        rw [addr_add, Nat.add_assoc]
        exact cell_of hp (hc _ _ hu)
  · rename_i n o
    split at ht
    · rename_i hg
      simp only [Option.some.injEq, Prod.mk.injEq] at ht
      obtain ⟨rfl, rfl⟩ := ht
      obtain ⟨-, c, e, fr, vs, h1, h2, h3⟩ := hr.glob _ _ hg
      cases hx with
      | fr hf =>
        cases hf
        refine ⟨_, vs, rfl, h2.vrs, fun i u hu => ?_⟩
        rw [addr_add]
        exact cell_of h1 (h3 _ _ hu)
    · cases ht
  · cases ht

include hE in
theorem loadA_ok (hr : HR E w g h) {t : Nat} {x r : AV} {v : Value} {tr tr' : Tr} (hx : VR w g h x v) (hl : loadA E h t x tr = some (r, tr')) (ho : tr'.holds) :
    tr.holds ∧ ∃ v', (Instr.loadAt t v).run P w = .ok v' w ∧ VR w g h r v' := by
  unfold loadA at hl
  rcases hti : E.ti t with _ | ti <;> rcases htg : target E h x with _ | ⟨cells, off⟩ <;> simp only [hti, htg] at hl
  · exact (fail_inv hl).elim
  · exact (fail_inv hl).elim
  · exact (fail_inv hl).elim
  · obtain ⟨a, vs, rfl, hvs, hcell⟩ := target_ok hr hx htg
    split at hl
    · rename_i hagg
      obtain ⟨cs, t1, h1, h2⟩ := bind_inv hl
      obtain ⟨rfl, rfl⟩ := pure_inv h2
      obtain ⟨h3, h4⟩ := readCells_inv h1 ho
      obtain ⟨h5, h6⟩ := takeL_some h3
      rw [dropL_eq] at h5 h6
      have hlen : ((vs.drop off).take ti.size).length = ti.size := by
        rw [List.length_take, List.length_drop, ← hvs.length]
        rw [List.length_drop] at h5
        omega
      refine ⟨h4, .agg ((vs.drop off).take ti.size).toArray, ?_, ?_⟩
      · unfold Instr.loadAt loadVar
        have := run_loadCells_list (P := P) w a ((vs.drop off).take ti.size) (fun j u hu => by
          rw [List.getElem?_take] at hu
          split at hu
          · rw [List.getElem?_drop] at hu; exact hcell _ _ hu
          · cases hu)
        rw [hlen] at this
        simp only [Sem.run_bind, Instr.sureAddr, Sem.run_pure, Result.andThen_ok, hE.runAgg hti, hagg, if_true, hE.runSize hti, this]
      · rw [h6]
        exact .agg ((hvs.drop off).take _)
    · rename_i hagg
      obtain ⟨h3, h4⟩ := readCell_inv hl ho
      rw [getL_eq, dropL_eq, List.getElem?_drop, Nat.add_zero] at h3
      obtain ⟨u, hu, hur⟩ := hvs.get h3
      refine ⟨h4, u, ?_, hur⟩
      have hc := hcell 0 u (by simpa using hu)
      have ha0 : a.add 0 = a := by simp [Addr.add]
      rw [ha0] at hc
      have hagg' : ti.desc.agg = false := by simpa using hagg
      unfold Instr.loadAt loadVar
      simp only [Sem.run_bind, Instr.sureAddr, Sem.run_pure, Result.andThen_ok, hE.runAgg hti, hagg', Bool.false_eq_true, if_false, run_load, hc]

/-! ## Writing -/

/-- A world in which one block's cells are others. -/
def wrote (w : World) (p : Nat) (c : Array Value) : World :=
  { w with heap := w.heap.modify p fun | .cells _ e fr => .cells c e fr | o => o }

theorem wrote_size (w : World) (p : Nat) (c : Array Value) : (wrote w p c).heap.size = w.heap.size := by simp [wrote]
theorem wrote_other (w : World) (p : Nat) (c : Array Value) {q : Nat} (hq : q ≠ p) : (wrote w p c).heap[q]? = w.heap[q]? := by
  simp [wrote, Array.getElem?_modify, Ne.symm hq]
theorem wrote_same {p e : Nat} {c c' : Array Value} {fr : Nat × Nat} (hp : w.heap[p]? = some (.cells c e fr)) : (wrote w p c').heap[p]? = some (.cells c' e fr) := by
  simp [wrote, Array.getElem?_modify, hp]

theorem setCell_wrote {p i e : Nat} {c : Array Value} {fr : Nat × Nat} (v : Value) (hp : w.heap[p]? = some (.cells c e fr)) :
    w.setCell ⟨p, i, none⟩ v = wrote w p (c.setIfInBounds i v) := by
  unfold World.setCell wrote
  congr 1
  apply Array.ext_getElem?
  intro q
  simp only [Array.getElem?_modify]
  split
  · rename_i hq
    subst hq
    simp [hp]
  · rfl

theorem wrote_wrote (w : World) (p : Nat) (c c' : Array Value) : wrote (wrote w p c) p c' = wrote w p c' := by
  unfold wrote
  congr 1
  apply Array.ext_getElem?
  intro q
  simp only [Array.getElem?_modify]
  split
  · cases w.heap[q]? with
    | none => rfl
    | some o => cases o <;> rfl
  · rfl

theorem wrote_self {p e : Nat} {c : Array Value} {fr : Nat × Nat} (hp : w.heap[p]? = some (.cells c e fr)) : wrote w p c = w := by
  unfold wrote
  have : (w.heap.modify p fun | .cells _ e fr => .cells c e fr | o => o) = w.heap := by
    apply Array.ext_getElem?
    intro q
    simp only [Array.getElem?_modify]
    split
    · rename_i hq; subst hq; simp [hp]
    · rfl
  rw [this]

theorem run_store1 {p i e : Nat} {c : Array Value} {fr : Nat × Nat} {v : Value} (hp : w.heap[p]? = some (.cells c e fr)) (hi : i < c.size)
    (hfr : ∀ i, i < c.size → (decide (fr.1 ≤ i) && decide (i < fr.2)) = false) (h1 : v.oneCell' = true) :
    (store ⟨p, i, none⟩ v).run P w = .ok () (wrote w p (c.setIfInBounds i v)) := by
  rw [run_store P w _ v _ h1, cell_of hp (Array.getElem?_eq_getElem hi)]
  have : w.frozen? ⟨p, i, none⟩ = false := by
    simp only [World.frozen?, hp]
    exact hfr i hi
  simp only [this, Bool.false_eq_true, if_false, setCell_wrote v hp]

theorem run_storeCells {p o e : Nat} {fr : Nat × Nat} : ∀ (vs : List Value) (i : Nat) (w : World) (c : Array Value), w.heap[p]? = some (.cells c e fr) → o + i + vs.length ≤ c.size →
    (∀ i, i < c.size → (decide (fr.1 ≤ i) && decide (i < fr.2)) = false) → (∀ v ∈ vs, v.oneCell' = true) →
    ∃ c', (storeCells ⟨p, o, none⟩ vs i).run P w = .ok () (wrote w p c') ∧ c'.size = c.size ∧ c'.toList = setsL c.toList (o + i) vs
  | [], i, w, c, hp, _, _, _ => ⟨c, by simp [storeCells, wrote_self hp], rfl, rfl⟩
  | v :: vs, i, w, c, hp, hl, hfr, h1 => by
    simp only [List.length_cons] at hl
    obtain ⟨c', h2, h3, h4⟩ := run_storeCells (o := o) vs (i + 1) (wrote w p (c.setIfInBounds (o + i) v)) (c.setIfInBounds (o + i) v) (wrote_same hp) (by simp; omega) (by simpa using hfr)
      (fun u hu => h1 u (by simp [hu]))
    refine ⟨c', ?_, by simpa using h3, ?_⟩
    · simp only [storeCells, Sem.run_bind, addr_add, run_store1 hp (show o + i < c.size by omega) hfr (h1 v (by simp)), Result.andThen_ok, h2, wrote_wrote]
    · simp only [setsL, h4, Array.toList_setIfInBounds, setL_eq, Nat.add_assoc]

/-- One owned block written, its size as it is. -/
theorem Stp.write (_hr : HR E w g h) {b elem gen gen' : Nat} {cells cells' : List AV} {pr pr' : Bool} {c c' : Array Value} {fr : Nat × Nat} (hb : h.at b = some (.mem cells elem gen false pr))
    (hp : w.heap[g.φ b]? = some (.cells c elem fr)) (hsz : c'.size = c.size) (hgg : gen ≤ gen') : Stp w g h (wrote w (g.φ b) c') g (h.put b (.mem cells' elem gen' false pr')) where
  size := by rw [wrote_size]; exact Nat.le_refl _
  frame p hlt ho := wrote_other w _ _ (fun he => ho ⟨b, _, hb, rfl, he.symm⟩)
  shape p c1 e fr1 h1 := by
    by_cases he : p = g.φ b
    · subst he
      rw [hp] at h1
      simp only [Option.some.injEq, Obj.cells.injEq] at h1
      obtain ⟨rfl, rfl, rfl⟩ := h1
      exact ⟨c', fr, wrote_same hp, hsz⟩
    · exact ⟨c1, fr1, by rw [wrote_other w _ _ he, h1], rfl⟩
  fst _ hp := hp
  fnew _ hp := .inl hp
  own p hp := by
    rcases Own_put (g := g) (fun _ _ _ _ => rfl) hp with h1 | ⟨_, h1⟩
    · exact .inl h1
    · exact .inl ⟨b, _, hb, rfl, h1.symm⟩
  gens b' n hn := by
    by_cases he : b' = b
    · subst he
      simp only [Heap.gen?, hb, Option.some.injEq] at hn
      subst hn
      exact ⟨gen', by rw [gen?_put, if_pos rfl], hgg, fun _ => rfl⟩
    · exact ⟨n, by rw [gen?_put, if_neg he, hn], Nat.le_refl _, fun _ => rfl⟩
  tape := rfl
  os := rfl
  output := rfl

theorem HR.write (hr : HR E w g h) {b elem gen gen' : Nat} {cells cells' : List AV} {pr pr' : Bool} {c c' : Array Value} {fr : Nat × Nat} {vs : List Value} (hb : h.at b = some (.mem cells elem gen false pr))
    (hp : w.heap[g.φ b]? = some (.cells c elem fr)) (hsz : c'.size = c.size) (hgg : gen ≤ gen') (hv : VRs w g h cells' vs) (hpv : pr' = true → FRs w g.F cells' vs)
    (hc : ∀ (i : Nat) (v : Value), vs[i]? = some v → c'[i]? = some v) : HR E (wrote w (g.φ b) c') g (h.put b (.mem cells' elem gen' false pr')) := by
  have hs : Stp w g h (wrote w (g.φ b) c') g (h.put b (.mem cells' elem gen' false pr')) := .write hr hb hp hsz hgg
  have hnF : ¬ g.F (g.φ b) := fun hF => hr.notOwn hF ⟨b, _, hb, rfl, rfl⟩
  obtain ⟨c0, fr0, vs0, k1, k2, k3, k4, k5, k6⟩ := hr.blk b _ hb
  rw [hp] at k1
  simp only [Option.some.injEq, Obj.cells.injEq] at k1
  obtain ⟨rfl, -, rfl⟩ := k1
  refine hr.put hs (fun _ _ _ _ => rfl) (fun b' y hne hy => ?_) (fun b' y hne hy hyr hF => hr.notOwn hF ⟨b', y, hy, hyr, rfl⟩) ?_ (fun _ b' y hne hy hyr he => hne (hr.inj b' b _ _ hy hb hyr rfl he.symm))
    (fun p hp => by rw [wrote_size]; exact hr.lim p hp)
  · refine wrote_other w _ _ fun he => ?_
    cases hyr : y.ro with
    | false => exact hne (hr.inj b' b _ _ hy hb hyr rfl he)
    | true =>
      cases y with
      | iter => cases hyr
      | mem cells2 e2 g2 ro2 pr2 =>
        obtain ⟨-, -, -, -, -, -, -, -, hF⟩ := hr.blk b' _ hy
        have hF2 := hF hyr
        rw [he] at hF2
        exact hnF hF2
  · exact ⟨c', fr, vs, wrote_same hp, hv.step hr hs, fun hh => (hpv hh).step hr hs, hc, fun _ => ⟨hnF, by rw [hsz]; exact (k5 rfl).2⟩, fun hh => by cases hh⟩

theorem allCells_one {F : Nat → Prop} : ∀ {as : List AV} {vs : List Value}, VRs w g h as vs → allCells as = true → ∀ v ∈ vs, v.oneCell' = true
  | _, _, .nil, _, v, hv => by simp at hv
  | _, _, .cons ha hs, hc, v, hv => by
    simp only [allCells, Bool.and_eq_true] at hc
    rcases List.mem_cons.1 hv with rfl | hv
    · exact ha.cell hc.1
    · exact allCells_one (F := F) hs hc.2 v hv

theorem allCells_junk : ∀ {a : AV}, allCells a.cells = true → a ≠ .junk := by
  rintro a hc rfl
  simp [AV.cells, allCells, isCell] at hc

/-- What an operation does to a world that a heap describes. -/
def Ran (P : Program) (E : Env) (w : World) (g : Gh) (h : Heap) (s : Sem Value) (val : AV) (upd : List (Nat × Blk)) : Prop :=
  ∃ v w' g', s.run P w = .ok v w' ∧ HR E w' g' (h.puts upd) ∧ VR w' g' (h.puts upd) val v ∧ Stp w g h w' g' (h.puts upd)

include hE in
theorem storeA_ok (hr : HR E w g h) {t : Nat} {x y : AV} {v u : Value} {o : Out} {tr tr' : Tr} (hx : VR w g h x v) (hy : VR w g h y u) (hl : storeA E h t x y tr = some (o, tr'))
    (ho : tr'.holds) : tr.holds ∧ o.val = .tuple [] ∧ ∃ w' g', (Instr.storeAt t v u).run P w = .ok () w' ∧ HR E w' g' (h.puts o.upd) ∧ Stp w g h w' g' (h.puts o.upd) := by
  unfold storeA at hl
  rcases hti : E.ti t with _ | ti <;> simp only [hti] at hl
  · exact (fail_inv hl).elim
  cases x with
  | ptr b gen off =>
    rcases hm : h.mem b gen with _ | ⟨cells, elem, ro, pr⟩ <;> simp only [hm] at hl
    · exact (fail_inv hl).elim
    cases ro with
    | true => exact (fail_inv hl).elim
    | false =>
      obtain ⟨u1, t1, h1, h2⟩ := bind_inv hl
      split at h2
      · rename_i hsz
        obtain ⟨rfl, rfl⟩ := pure_inv h2
        obtain ⟨h3, h4⟩ := check_inv h1 ho
        simp only [Bool.and_eq_true] at hsz
        have hs1 := Nat.eq_of_beq_eq_true hsz.1
        have hs2 := Nat.le_of_ble_eq_true hsz.2
        have hat := mem_at hm
        obtain ⟨c, fr, vs, k1, k2, k3, k4, k5, k6, k7⟩ := mem_blk hr hm
        simp only at hat k1 k2 k3 k5 k7
        have hnow := hx.ptr_now (mem_gen hm)
        subst hnow
        have hcs := hy.cellsOf (allCells_junk h3)
        have hl1 := hcs.length
        simp only [Array.length_toList] at hl1
        obtain ⟨c', r1, r2, r3⟩ := run_storeCells (P := P) (o := off) u.cells.toList 0 w c k1 (by simp; omega) (k5 trivial).2 (allCells_one (F := g.F) hcs h3)
        have hvl := k2.length
        have hnew : VRs w g h (setsL cells off y.cells) (setsL vs off u.cells.toList) := k2.sets off hcs
        refine ⟨h4, rfl, wrote w (g.φ b) c', g, ?_, ?_, ?_⟩
        · unfold Instr.storeAt storeVar
          have : ¬ (u.cells.size ≠ ti.size) := by omega
          simp only [Sem.run_bind, Instr.sureAddr, Sem.run_pure, Result.andThen_ok, hE.runSize hti, this, if_false]
          simpa using r1
        · simp only [Heap.puts]
          refine hr.write hat k1 r2 (Nat.le_refl _) hnew (fun hp => ?_) (fun i q hq => ?_)
          · simp only [Bool.and_eq_true] at hp
            exact (k3 hp.1).sets off (hcs.pure hp.2)
          · rw [← Array.getElem?_toList, r3, Nat.add_zero]
            rw [setsL_get _ _ _ _ (by simp; omega)] at hq ⊢
            split at hq
            · rename_i hin
              rw [if_pos hin]; exact hq
            · rename_i hin
              rw [if_neg hin, Array.getElem?_toList]; exact k4 _ _ hq
        · simp only [Heap.puts]
          exact .write hr hat k1 r2 (Nat.le_refl _)
      · exact (fail_inv h2).elim
  | _ => exact (fail_inv hl).elim

end
end Go.Am
end
