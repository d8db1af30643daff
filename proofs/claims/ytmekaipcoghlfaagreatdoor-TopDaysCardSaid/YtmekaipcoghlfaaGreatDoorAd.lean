/-
  Part of the proof of TopDays: lemmas that the others lean on.
-/
import Derived.Test.YtmekaipcoghlfaaGreatDoorAc
set_option linter.all false
set_option linter.unusedVariables false
set_option linter.unusedSimpArgs false
noncomputable section
namespace Go.Am

section
variable {P : Program} {E : Env} {w : World} {g : Gh} {h : Heap}

theorem FR.mono {F F' : Nat → Prop} (hF : ∀ p, F p → F' p) {a : AV} {v : Value} (hf : FR w F a v) : FR w F' a v := hf.stays hF fun _ _ => rfl
theorem FRs.mono {F F' : Nat → Prop} (hF : ∀ p, F p → F' p) {a : List AV} {v : List Value} (hf : FRs w F a v) : FRs w F' a v := hf.stays hF fun _ _ => rfl

/-! ## Freezing -/

theorem freeze_ok (hr : HR E w g h) {F' : Nat → Prop} (hF : ∀ p, g.F p → F' p) : ∀ (n : Nat),
    (∀ (a a' : AV) (bs : List Nat) (v : Value), freeze h n a = some (a', bs) → VR w g h a v → (∀ b ∈ bs, F' (g.φ b)) → FR w F' a' v) ∧
    (∀ (as as' : List AV) (bs : List Nat) (vs : List Value), freeze.freezeL h n as = some (as', bs) → VRs w g h as vs → (∀ b ∈ bs, F' (g.φ b)) → FRs w F' as' vs)
  | 0 => by
    refine ⟨fun a a' bs v hf => ?_, fun as as' bs vs hf => ?_⟩
    · simp [freeze] at hf
    · simp [freeze.freezeL] at hf
  | n + 1 => by
    obtain ⟨ih1, ih2⟩ := freeze_ok hr hF n
    refine ⟨fun a a' bs v hf hv hb => ?_, fun as as' bs vs hf hv hb => ?_⟩
    · -- what a block's cells come to
      have cellsF : ∀ {b gen : Nat} {cells : List AV} {elem : Nat} {ro pr : Bool} {cs : List AV} {bs' : List Nat}, h.mem b gen = some (cells, elem, ro, pr) →
          (if pr then some (cells, []) else freeze.freezeL h n cells) = some (cs, bs') → (∀ b ∈ bs', F' (g.φ b)) →
          ∃ (c : Array Value) (fr : Nat × Nat) (vs : List Value), w.heap[g.φ b]? = some (.cells c elem fr) ∧ FRs w F' cs vs ∧ ∀ (i : Nat) (v : Value), vs[i]? = some v → c[i]? = some v := by
        intro b gen cells elem ro pr cs bs' hm hc hbs
        obtain ⟨c, fr, vs, q1, q2, q3, q4, -⟩ := mem_blk hr hm
        refine ⟨c, fr, vs, q1, ?_, q4⟩
        cases pr with
        | true =>
          simp only [if_true, Option.some.injEq, Prod.mk.injEq] at hc
          rw [← hc.1]
          exact (q3 rfl).mono hF
        | false =>
          simp only [Bool.false_eq_true, if_false] at hc
          exact ih2 _ _ _ _ hc q2 hbs
      cases a with
      | ptr b gen off =>
        simp only [freeze] at hf
        rcases hm : h.mem b gen with _ | ⟨cells, elem, ro, pr⟩ <;> simp only [hm] at hf
        · cases hf
        rcases hc : (if pr then some (cells, []) else freeze.freezeL h n cells) with _ | ⟨cs, bs'⟩ <;> simp only [hc] at hf
        · cases hf
        simp only [Option.some.injEq, Prod.mk.injEq] at hf
        obtain ⟨rfl, rfl⟩ := hf
        obtain ⟨c, fr, vs, q1, q2, q3⟩ := cellsF hm hc (fun b hb' => hb b (List.mem_cons_of_mem _ hb'))
        rw [hv.ptr_now (mem_gen hm)]
        have := FR.fptr (off0 := 0) (off := off) (hb b (by simp)) q1 q2 (fun i v hi => by rw [Nat.zero_add]; exact q3 i v hi)
        rwa [Nat.zero_add] at this
      | mslice b gen off esz len full =>
        simp only [freeze] at hf
        rcases hm : h.mem b gen with _ | ⟨cells, elem, ro, pr⟩ <;> simp only [hm] at hf
        · cases hf
        rcases hc : (if pr then some (cells, []) else freeze.freezeL h n cells) with _ | ⟨cs, bs'⟩ <;> simp only [hc] at hf
        · cases hf
        rcases hca : cellsAt cs off (len * esz) with _ | cs' <;> simp only [hca] at hf
        · cases hf
        simp only [Option.some.injEq, Prod.mk.injEq] at hf
        obtain ⟨rfl, rfl⟩ := hf
        obtain ⟨c, fr, vs, q1, q2, q3⟩ := cellsF hm hc (fun b hb' => hb b (List.mem_cons_of_mem _ hb'))
        obtain ⟨cap, c0, e0, fr0, rfl, y1, y2, -, -⟩ := hv.mslice_now (mem_gen hm)
        obtain ⟨h5, h6⟩ := takeL_some hca
        rw [dropL_eq] at h5 h6
        rw [h6]
        refine .fslice (hb b (by simp)) q1 ((q2.drop off).take (len * esz)) (fun i v hi => ?_) (by rw [List.length_take]; omega) y1 y2
        rw [List.getElem?_take] at hi
        split at hi
        · rw [List.getElem?_drop] at hi; exact q3 _ _ hi
        · cases hi
      | iface t x =>
        simp only [freeze] at hf
        rcases hx : freeze h n x with _ | ⟨x', bs'⟩ <;> simp only [hx] at hf
        · cases hf
        simp only [Option.some.injEq, Prod.mk.injEq] at hf
        obtain ⟨rfl, rfl⟩ := hf
        obtain ⟨u, rfl, hu⟩ := hv.iface'
        exact .iface (ih1 _ _ _ _ hx hu hb)
      | func f xs =>
        simp only [freeze] at hf
        rcases hx : freeze.freezeL h n xs with _ | ⟨x', bs'⟩ <;> simp only [hx] at hf
        · cases hf
        simp only [Option.some.injEq, Prod.mk.injEq] at hf
        obtain ⟨rfl, rfl⟩ := hf
        obtain ⟨u, rfl, hu⟩ := hv.func'
        exact .func (ih2 _ _ _ _ hx hu hb)
      | agg xs =>
        simp only [freeze] at hf
        rcases hx : freeze.freezeL h n xs with _ | ⟨x', bs'⟩ <;> simp only [hx] at hf
        · cases hf
        simp only [Option.some.injEq, Prod.mk.injEq] at hf
        obtain ⟨rfl, rfl⟩ := hf
        obtain ⟨u, rfl, hu⟩ := hv.agg'
        exact .agg (ih2 _ _ _ _ hx hu hb)
      | tuple xs =>
        simp only [freeze] at hf
        rcases hx : freeze.freezeL h n xs with _ | ⟨x', bs'⟩ <;> simp only [hx] at hf
        · cases hf
        simp only [Option.some.injEq, Prod.mk.injEq] at hf
        obtain ⟨rfl, rfl⟩ := hf
        obtain ⟨u, rfl, hu⟩ := hv.tuple'
        exact .tuple (ih2 _ _ _ _ hx hu hb)
      | junk => simp [freeze] at hf
      | _ =>
        simp only [freeze, Option.some.injEq, Prod.mk.injEq] at hf
        obtain ⟨rfl, rfl⟩ := hf
        cases hv with | fr hf => exact hf.mono hF
    · cases as with
      | nil =>
        simp only [freeze.freezeL, Option.some.injEq, Prod.mk.injEq] at hf
        obtain ⟨rfl, rfl⟩ := hf
        cases hv
        exact .nil
      | cons a r =>
        simp only [freeze.freezeL] at hf
        rcases hx : freeze h n a with _ | ⟨x', bs'⟩ <;> rcases hy : freeze.freezeL h n r with _ | ⟨y', cs'⟩ <;> simp only [hx, hy] at hf
        · cases hf
        · cases hf
        · cases hf
        simp only [Option.some.injEq, Prod.mk.injEq] at hf
        obtain ⟨rfl, rfl⟩ := hf
        cases hv with
        | cons h1 h2 => exact .cons (ih1 _ _ _ _ hx h1 (fun b hb' => hb b (by simp [hb']))) (ih2 _ _ _ _ hy h2 (fun b hb' => hb b (by simp [hb'])))

/-- What is frozen was there. -/
theorem freeze_at : ∀ (n : Nat),
    (∀ (a a' : AV) (bs : List Nat), freeze h n a = some (a', bs) → ∀ b ∈ bs, ∃ cells e gn ro pr, h.at b = some (.mem cells e gn ro pr)) ∧
    (∀ (as as' : List AV) (bs : List Nat), freeze.freezeL h n as = some (as', bs) → ∀ b ∈ bs, ∃ cells e gn ro pr, h.at b = some (.mem cells e gn ro pr))
  | 0 => ⟨fun a a' bs hf => by simp [freeze] at hf, fun as as' bs hf => by simp [freeze.freezeL] at hf⟩
  | n + 1 => by
    obtain ⟨ih1, ih2⟩ := freeze_at n
    have cellsF : ∀ {cells : List AV} {pr : Bool} {cs : List AV} {bs' : List Nat}, (if pr then some (cells, []) else freeze.freezeL h n cells) = some (cs, bs') →
        ∀ b ∈ bs', ∃ cells e gn ro pr, h.at b = some (.mem cells e gn ro pr) := by
      intro cells pr cs bs' hc b hb
      cases pr with
      | true =>
        simp only [if_true, Option.some.injEq, Prod.mk.injEq] at hc
        rw [← hc.2] at hb; simp at hb
      | false =>
        simp only [Bool.false_eq_true, if_false] at hc
        exact ih2 _ _ _ hc b hb
    refine ⟨fun a a' bs hf b hb => ?_, fun as as' bs hf b hb => ?_⟩
    · cases a with
      | ptr b' gen off =>
        simp only [freeze] at hf
        rcases hm : h.mem b' gen with _ | ⟨cells, elem, ro, pr⟩ <;> simp only [hm] at hf
        · cases hf
        rcases hc : (if pr then some (cells, []) else freeze.freezeL h n cells) with _ | ⟨cs, bs'⟩ <;> simp only [hc] at hf
        · cases hf
        simp only [Option.some.injEq, Prod.mk.injEq] at hf
        obtain ⟨rfl, rfl⟩ := hf
        rcases List.mem_cons.1 hb with rfl | hb
        · exact ⟨_, _, _, _, _, mem_at hm⟩
        · exact cellsF hc b hb
      | mslice b' gen off esz len full =>
        simp only [freeze] at hf
        rcases hm : h.mem b' gen with _ | ⟨cells, elem, ro, pr⟩ <;> simp only [hm] at hf
        · cases hf
        rcases hc : (if pr then some (cells, []) else freeze.freezeL h n cells) with _ | ⟨cs, bs'⟩ <;> simp only [hc] at hf
        · cases hf
        rcases hca : cellsAt cs off (len * esz) with _ | cs' <;> simp only [hca] at hf
        · cases hf
        simp only [Option.some.injEq, Prod.mk.injEq] at hf
        obtain ⟨rfl, rfl⟩ := hf
        rcases List.mem_cons.1 hb with rfl | hb
        · exact ⟨_, _, _, _, _, mem_at hm⟩
        · exact cellsF hc b hb
      | iface t x =>
        simp only [freeze] at hf
        rcases hx : freeze h n x with _ | ⟨x', bs'⟩ <;> simp only [hx] at hf
        · cases hf
        simp only [Option.some.injEq, Prod.mk.injEq] at hf
        obtain ⟨rfl, rfl⟩ := hf
        exact ih1 _ _ _ hx b hb
      | func f xs =>
        simp only [freeze] at hf
        rcases hx : freeze.freezeL h n xs with _ | ⟨x', bs'⟩ <;> simp only [hx] at hf
        · cases hf
        simp only [Option.some.injEq, Prod.mk.injEq] at hf
        obtain ⟨rfl, rfl⟩ := hf
        exact ih2 _ _ _ hx b hb
      | agg xs =>
        simp only [freeze] at hf
        rcases hx : freeze.freezeL h n xs with _ | ⟨x', bs'⟩ <;> simp only [hx] at hf
        · cases hf
        simp only [Option.some.injEq, Prod.mk.injEq] at hf
        obtain ⟨rfl, rfl⟩ := hf
        exact ih2 _ _ _ hx b hb
      | tuple xs =>
        simp only [freeze] at hf
        rcases hx : freeze.freezeL h n xs with _ | ⟨x', bs'⟩ <;> simp only [hx] at hf
        · cases hf
        simp only [Option.some.injEq, Prod.mk.injEq] at hf
        obtain ⟨rfl, rfl⟩ := hf
        exact ih2 _ _ _ hx b hb
      | junk => simp [freeze] at hf
      | _ =>
        simp only [freeze, Option.some.injEq, Prod.mk.injEq] at hf
        obtain ⟨rfl, rfl⟩ := hf
        simp at hb
    · cases as with
      | nil =>
        simp only [freeze.freezeL, Option.some.injEq, Prod.mk.injEq] at hf
        obtain ⟨rfl, rfl⟩ := hf
        simp at hb
      | cons a r =>
        simp only [freeze.freezeL] at hf
        rcases hx : freeze h n a with _ | ⟨x', bs'⟩ <;> rcases hy : freeze.freezeL h n r with _ | ⟨y', cs'⟩ <;> simp only [hx, hy] at hf
        · cases hf
        · cases hf
        · cases hf
        simp only [Option.some.injEq, Prod.mk.injEq] at hf
        obtain ⟨rfl, rfl⟩ := hf
        rcases List.mem_append.1 hb with hb | hb
        · exact ih1 _ _ _ hx b hb
        · exact ih2 _ _ _ hy b hb

/-! ## What is reached -/

theorem reach_ok : ∀ (n : Nat) (seen work ids : List Nat), reach h n seen work = some ids → seen.Nodup →
    (∃ rest, ids = seen ++ rest) ∧ ids.Nodup ∧ (∀ b ∈ work, b ∈ ids) ∧
    ∀ b ∈ ids, b ∈ seen ∨ (∃ x, h.at b = some x) ∧ ∀ c ∈ ownRefs h b, c ∈ ids
  | 0, _, _, _, hf, _ => by simp [reach] at hf
  | n + 1, seen, [], ids, hf, hn => by
    simp only [reach, Option.some.injEq] at hf
    subst hf
    exact ⟨⟨[], by simp⟩, hn, by simp, fun b hb => .inl hb⟩
  | n + 1, seen, b :: r, ids, hf, hn => by
    simp only [reach] at hf
    split at hf
    · rename_i hm
      obtain ⟨h1, h2, h3, h4⟩ := reach_ok n _ _ _ hf hn
      refine ⟨h1, h2, fun c hc => ?_, h4⟩
      rcases List.mem_cons.1 hc with rfl | hc
      · obtain ⟨rest, rfl⟩ := h1
        exact List.mem_append_left _ ((memB_iff _ _).1 hm)
      · exact h3 c hc
    · rename_i hm
      have hnm : b ∉ seen := fun hh => hm ((memB_iff _ _).2 hh)
      have hn' : (seen ++ [b]).Nodup := by
        rw [List.nodup_append]
        refine ⟨hn, by simp, fun x hx y hy he => ?_⟩
        simp only [List.mem_singleton] at hy
        exact hnm (hy ▸ he ▸ hx)
      have fin : ∀ (work : List Nat) (x : Blk), h.at b = some x → reach h n (seen ++ [b]) work = some ids → (∀ c ∈ r, c ∈ work) → (∀ c ∈ ownRefs h b, c ∈ work) →
          (∃ rest, ids = seen ++ rest) ∧ ids.Nodup ∧ (∀ c ∈ b :: r, c ∈ ids) ∧ ∀ b ∈ ids, b ∈ seen ∨ (∃ x, h.at b = some x) ∧ ∀ c ∈ ownRefs h b, c ∈ ids := by
        intro work x hx hf hw ho
        obtain ⟨⟨rest, h1⟩, h2, h3, h4⟩ := reach_ok n _ _ _ hf hn'
        refine ⟨⟨b :: rest, by rw [h1]; simp⟩, h2, fun c hc => ?_, fun c hc => ?_⟩
        · rcases List.mem_cons.1 hc with rfl | hc
          · rw [h1]; simp
          · exact h3 c (hw c hc)
        · rcases h4 c hc with hc | hc
          · rcases List.mem_append.1 hc with hc | hc
            · exact .inl hc
            · simp only [List.mem_singleton] at hc
              subst hc
              exact .inr ⟨⟨x, hx⟩, fun d hd => h3 d (ho d hd)⟩
          · exact .inr hc
      rcases hx : h.at b with _ | x <;> simp only [hx] at hf
      · cases hf
      cases x with
      | mem cells e gn ro pr =>
        simp only at hf
        refine fin _ _ hx hf (fun c hc => ?_) (fun c hc => ?_)
        · split
          · exact hc
          · exact List.mem_append_right _ hc
        · simp only [ownRefs, hx] at hc
          split at hc
          · simp at hc
          · rename_i hp; rw [if_neg hp]; exact List.mem_append_left _ hc
      | iter s pos =>
        simp only at hf
        refine fin _ _ hx hf (fun c hc => hc) (fun c hc => ?_)
        simp [ownRefs, hx] at hc

theorem idxOf_some : ∀ (l : List Nat) (b i k : Nat), idxOf b l i = some k → i ≤ k ∧ l[k - i]? = some b
  | [], _, _, _, hf => by simp [idxOf] at hf
  | a :: r, b, i, k, hf => by
    simp only [idxOf] at hf
    split at hf
    · rename_i he
      simp only [Option.some.injEq] at hf
      subst hf
      rw [Nat.eq_of_beq_eq_true he]
      simp
    · obtain ⟨h1, h2⟩ := idxOf_some r b (i + 1) k hf
      refine ⟨by omega, ?_⟩
      obtain ⟨j, hj⟩ : ∃ j, k - i = j + 1 := ⟨k - i - 1, by omega⟩
      rw [hj, List.getElem?_cons_succ]
      rw [← h2]
      congr 1
      omega

theorem idxOf_mem : ∀ (l : List Nat) (b i : Nat), b ∈ l → ∃ k, idxOf b l i = some k
  | [], _, _, hb => by simp at hb
  | a :: r, b, i, hb => by
    simp only [idxOf]
    split
    · exact ⟨_, rfl⟩
    · rename_i he
      rcases List.mem_cons.1 hb with rfl | hb
      · simp at he
      · exact idxOf_mem r b (i + 1) hb

end
end Go.Am
end
noncomputable section
namespace Go.Am

section
variable {P : Program} {E : Env} {w : World} {g : Gh} {h : Heap}

/-! ## Other names -/

mutual
theorem FR.rename_id {F : Nat → Prop} (ρ : Nat → Option Nat) : ∀ {a : AV} {v : Value}, FR w F a v → rename ρ a = a
  | _, _, .bool _ | _, _, .int _ _ | _, _, .str _ | _, _, .nilptr | _, _, .gptr _ _ | _, _, .fptr .. | _, _, .nilslice | _, _, .fempty .. | _, _, .fslice .. | _, _, .nilfunc | _, _, .niliface | _, _, .fz .. => rfl
  | _, _, .func h => by rw [rename, FRs.rename_id ρ h]
  | _, _, .iface h => by rw [rename, FR.rename_id ρ h]
  | _, _, .agg h => by rw [rename, FRs.rename_id ρ h]
  | _, _, .tuple h => by rw [rename, FRs.rename_id ρ h]
theorem FRs.rename_id {F : Nat → Prop} (ρ : Nat → Option Nat) : ∀ {as : List AV} {vs : List Value}, FRs w F as vs → rename.renameL ρ as = as
  | _, _, .nil => rfl
  | _, _, .cons h hs => by rw [rename.renameL, FR.rename_id ρ h, FRs.rename_id ρ hs]
end

section
variable {g2 : Gh} {h2 : Heap} {ρ : Nat → Option Nat} (hF : ∀ p, g.F p → g2.F p) (hρ : ∀ b c n, ρ b = some c → h.gen? b = some n → h2.gen? c = some n ∧ g2.φ c = g.φ b)
include hF hρ

mutual
theorem VR.rename' : ∀ {a : AV} {v : Value}, VR w g h a v → VR w g2 h2 (rename ρ a) v
  | _, _, .fr hf => by rw [hf.rename_id]; exact .fr (hf.mono hF)
  | _, _, .ptr (b := b) hb hg hs ha => by
    rw [rename]
    rcases hc : ρ b with _ | c
    · exact .junk _
    · obtain ⟨h1, h3⟩ := hρ _ _ _ hc hb
      exact .ptr h1 hg hs fun he => by rw [h3]; exact ha he
  | _, _, .mslice (b := b) hb hg hs hcap hfull ha => by
    rw [rename]
    rcases hc : ρ b with _ | c
    · exact .junk _
    · obtain ⟨h1, h3⟩ := hρ _ _ _ hc hb
      exact .mslice h1 hg hs hcap hfull fun he => by rw [h3]; exact ha he
  | _, _, .func hs => by rw [rename]; exact .func (VRs.rename' hs)
  | _, _, .iface ha => by rw [rename]; exact .iface (VR.rename' ha)
  | _, _, .agg hs => by rw [rename]; exact .agg (VRs.rename' hs)
  | _, _, .tuple hs => by rw [rename]; exact .tuple (VRs.rename' hs)
  | _, _, .junk v => by rw [rename] <;> first | exact .junk v | (intros; contradiction)
theorem VRs.rename' : ∀ {as : List AV} {vs : List Value}, VRs w g h as vs → VRs w g2 h2 (rename.renameL ρ as) vs
  | _, _, .nil => .nil
  | _, _, .cons ha hs => .cons (VR.rename' ha) (VRs.rename' hs)
end

/-- A block by other names. -/
theorem BR.rename' {b c : Nat} {x : Blk} (hx : BR w g h b x) (hφ : g2.φ c = g.φ b) (hnF : x.ro = false → ¬ g2.F (g.φ b)) : BR w g2 h2 c (renameB ρ x) := by
  cases x with
  | mem cells elem gn ro pr =>
    obtain ⟨cc, fr, vs, q1, q2, q3, q4, q5, q6⟩ := hx
    refine ⟨cc, fr, vs, by rw [hφ]; exact q1, ?_, ?_, q4, fun hro => ⟨by rw [hφ]; exact hnF hro, (q5 hro).2⟩, fun hro => by rw [hφ]; exact hF _ (q6 hro)⟩
    · cases pr with
      | true => exact ((q3 rfl).mono hF).vrs
      | false => exact VRs.rename' hF hρ q2
    · intro hp
      subst hp
      exact (q3 rfl).mono hF
  | iter s pos =>
    obtain ⟨q1, s', q2, q3⟩ := hx
    exact ⟨by rw [hφ]; exact hnF rfl, s', q2, by rw [hφ]; exact q3⟩
end

theorem renameB_ro (ρ : Nat → Option Nat) (x : Blk) : (renameB ρ x).ro = x.ro := by cases x <;> rfl

theorem markRo_ro {x : Blk} (h : (markRo x).ro = false) : ∃ s pos, x = .iter s pos := by
  cases x with
  | mem => cases h
  | iter s pos => exact ⟨s, pos, rfl⟩

def Blk.gen : Blk → Nat
  | .mem _ _ g _ _ => g
  | .iter .. => 0

theorem gen?_at (h : Heap) (b : Nat) : h.gen? b = (h.at b).map Blk.gen := by
  unfold Heap.gen?
  rcases h.at b with _ | x
  · rfl
  · cases x <;> rfl

theorem renameB_gen (ρ : Nat → Option Nat) (x : Blk) : (renameB ρ x).gen = x.gen := by cases x <;> rfl
theorem markRo_gen (x : Blk) : (markRo x).gen = x.gen := by cases x <;> rfl

/-! ## The memory that goes along -/

theorem blksOf_at : ∀ {ids : List Nat} {ρ : Nat → Option Nat} {hs : List (Option Blk)}, blksOf h ρ ids = some hs →
    (∀ (i b : Nat), ids[i]? = some b → ∃ x, h.at b = some x ∧ Heap.at hs i = some (renameB ρ x)) ∧ (∀ (i : Nat) (y : Blk), Heap.at hs i = some y → ∃ b, ids[i]? = some b)
  | [], ρ, hs, hb => by
    simp only [blksOf, Option.some.injEq] at hb
    subst hb
    exact ⟨fun i b hi => by simp at hi, fun i y hi => by simp [Heap.at, getL_nil] at hi⟩
  | b :: r, ρ, hs, hb => by
    simp only [blksOf] at hb
    rcases hx : h.at b with _ | x <;> rcases hy : blksOf h ρ r with _ | hs' <;> simp only [hx, hy] at hb
    · cases hb
    · cases hb
    · cases hb
    simp only [Option.some.injEq] at hb
    subst hb
    obtain ⟨h1, h2⟩ := blksOf_at hy
    refine ⟨fun i c hi => ?_, fun i y hi => ?_⟩
    · cases i with
      | zero =>
        simp only [List.getElem?_cons_zero, Option.some.injEq] at hi
        subst hi
        exact ⟨x, hx, rfl⟩
      | succ i =>
        simp only [List.getElem?_cons_succ] at hi
        obtain ⟨y, hy1, hy2⟩ := h1 i c hi
        exact ⟨y, hy1, by simpa [Heap.at, getL_succ] using hy2⟩
    · cases i with
      | zero => exact ⟨b, rfl⟩
      | succ i =>
        obtain ⟨c, hc⟩ := h2 i y (by simpa [Heap.at, getL_succ] using hi)
        exact ⟨c, by simpa using hc⟩

/-- The caller's memory that a callee sees. -/
def Gh.loc (g : Gh) (ids fz : List Nat) : Gh := ⟨fun i => g.φ ((ids[i]?).getD 0), fun p => g.F p ∨ ∃ b ∈ fz, g.φ b = p⟩

theorem loc_ok (hr : HR E w g h) {ids fz : List Nat} {hs : Heap} (hn : ids.Nodup) (hfz : ∀ b ∈ fz, ∃ x, h.at b = some x) (hd : ∀ b ∈ fz, b ∉ ids)
    (hb : blksOf h (fun b => idxOf b ids 0) ids = some hs) : HR E w (g.loc ids fz) hs ∧
      (∀ b c n, idxOf b ids 0 = some c → h.gen? b = some n → Heap.gen? hs c = some n ∧ (g.loc ids fz).φ c = g.φ b) := by
  obtain ⟨h1, h2⟩ := blksOf_at hb
  have hρ : ∀ b c n, idxOf b ids 0 = some c → h.gen? b = some n → Heap.gen? hs c = some n ∧ (g.loc ids fz).φ c = g.φ b := by
    intro b c n hc hg
    obtain ⟨-, h3⟩ := idxOf_some ids b 0 c hc
    rw [Nat.sub_zero] at h3
    obtain ⟨x, hx, hy⟩ := h1 c b h3
    refine ⟨?_, by simp [Gh.loc, h3]⟩
    rw [gen?_at, hy, Option.map_some, renameB_gen]
    rw [gen?_at, hx] at hg
    exact hg
  have hF : ∀ p, g.F p → (g.loc ids fz).F p := fun p hp => .inl hp
  have hnF : ∀ b x, b ∈ ids → h.at b = some x → x.ro = false → ¬ (g.loc ids fz).F (g.φ b) := by
    rintro b x hb hx hro (hF | ⟨c, hc, he⟩)
    · exact hr.notOwn hF ⟨b, x, hx, hro, rfl⟩
    · obtain ⟨y, hy⟩ := hfz c hc
      cases hyr : y.ro with
      | false => exact hd c hc ((hr.inj c b y x hy hx hyr hro he) ▸ hb)
      | true =>
        cases y with
        | iter => cases hyr
        | mem cells2 e2 g2 ro2 pr2 =>
          obtain ⟨-, -, -, -, -, -, -, -, hF⟩ := hr.blk c _ hy
          have hF2 := hF hyr
          rw [he] at hF2
          exact hr.notOwn hF2 ⟨b, x, hx, hro, rfl⟩
  refine ⟨⟨fun i y hy => ?_, fun i j y z hy hz hyr hzr he => ?_, fun p hp => ?_, fun n cells hgl => ?_⟩, hρ⟩
  · obtain ⟨b, hib⟩ := h2 i y hy
    obtain ⟨x, hx, hxy⟩ := h1 i b hib
    rw [hy] at hxy
    simp only [Option.some.injEq] at hxy
    subst hxy
    exact BR.rename' hF hρ (hr.blk b x hx) (by simp [Gh.loc, hib]) (hnF b x (List.mem_of_getElem? hib) hx)
  · obtain ⟨b, hib⟩ := h2 i y hy
    obtain ⟨x, hx, hxy⟩ := h1 i b hib
    obtain ⟨c, hjc⟩ := h2 j z hz
    obtain ⟨u, hu, hzu⟩ := h1 j c hjc
    rw [hy] at hxy
    rw [hz] at hzu
    simp only [Option.some.injEq] at hxy hzu
    subst hxy
    subst hzu
    rw [renameB_ro] at hyr hzr
    simp only [Gh.loc, hib, hjc, Option.getD_some] at he
    have := hr.inj b c x u hx hu hyr hzr he
    subst this
    have hi := (List.getElem?_eq_some_iff.1 hib)
    have hj := (List.getElem?_eq_some_iff.1 hjc)
    obtain ⟨hi1, hi2⟩ := hi
    obtain ⟨hj1, hj2⟩ := hj
    exact (List.getElem_inj hn).1 (hi2.trans hj2.symm)
  · rcases hp with hp | ⟨b, hb, rfl⟩
    · exact hr.lim p hp
    · obtain ⟨x, hx⟩ := hfz b hb
      exact hr.lt hx
  · obtain ⟨hFn, c, e, fr, vs, q1, q2, q3⟩ := hr.glob n cells hgl
    exact ⟨.inl hFn, c, e, fr, vs, q1, q2.mono hF, q3⟩

theorem prep_ok (hr : HR E w g h) {look : Bool} {ρ : Nat → Option Nat} {gl : Gh} {hs : Heap} (hF : ∀ p, g.F p → gl.F p)
    (hρ : ∀ b c n, ρ b = some c → h.gen? b = some n → Heap.gen? hs c = some n ∧ gl.φ c = g.φ b) : ∀ {ks : List Bool} {args args1 : List AV} {fz kept : List Nat} {vs : List Value},
    prep h look ks args = some (args1, fz, kept) → (∀ b ∈ fz, gl.F (g.φ b)) → VRs w g h args vs → VRs w gl hs (rename.renameL ρ args1) vs
  | ks, [], args1, fz, kept, vs, hp, _, hv => by
    simp only [prep, Option.some.injEq, Prod.mk.injEq] at hp
    obtain ⟨rfl, rfl, rfl⟩ := hp
    cases hv
    exact .nil
  | ks, a :: r, args1, fz, kept, vs, hp, hfz, hv => by
    simp only [prep] at hp
    rcases hq : prep h look ks.tail r with _ | ⟨r', fz', kept'⟩ <;> simp only [hq] at hp
    · cases hp
    cases hv with
    | cons ha hs' =>
      split at hp
      · simp only [Option.some.injEq, Prod.mk.injEq] at hp
        obtain ⟨rfl, rfl, rfl⟩ := hp
        exact .cons (VR.rename' hF hρ ha) (prep_ok hr hF hρ hq hfz hs')
      · rcases hfr : freeze h 4096 a with _ | ⟨a', bs⟩ <;> simp only [hfr] at hp
        · cases hp
        simp only [Option.some.injEq, Prod.mk.injEq] at hp
        obtain ⟨rfl, rfl, rfl⟩ := hp
        have h1 := (freeze_ok hr (F' := gl.F) hF 4096).1 _ _ _ _ hfr ha (fun b hb => hfz b (by simp [hb]))
        refine .cons ?_ (prep_ok hr hF hρ hq (fun b hb => hfz b (by simp [hb])) hs')
        rw [h1.rename_id]
        exact .fr h1

theorem prep_at {look : Bool} : ∀ {ks : List Bool} {args args1 : List AV} {fz kept : List Nat}, prep h look ks args = some (args1, fz, kept) →
    ∀ b ∈ fz, ∃ cells e gn ro pr, h.at b = some (.mem cells e gn ro pr)
  | ks, [], args1, fz, kept, hp, b, hb => by
    simp only [prep, Option.some.injEq, Prod.mk.injEq] at hp
    obtain ⟨rfl, rfl, rfl⟩ := hp
    simp at hb
  | ks, a :: r, args1, fz, kept, hp, b, hb => by
    simp only [prep] at hp
    rcases hq : prep h look ks.tail r with _ | ⟨r', fz', kept'⟩ <;> simp only [hq] at hp
    · cases hp
    split at hp
    · simp only [Option.some.injEq, Prod.mk.injEq] at hp
      obtain ⟨rfl, rfl, rfl⟩ := hp
      exact prep_at hq b hb
    · rcases hfr : freeze h 4096 a with _ | ⟨a', bs⟩ <;> simp only [hfr] at hp
      · cases hp
      simp only [Option.some.injEq, Prod.mk.injEq] at hp
      obtain ⟨rfl, rfl, rfl⟩ := hp
      rcases List.mem_append.1 hb with hb | hb
      · exact (freeze_at 4096).1 _ _ _ hfr b hb
      · exact prep_at hq b hb

end
end Go.Am
end
noncomputable section
namespace Go.Am

theorem lastOf_append (c : Nat) : ∀ (a b : List (Nat × Blk)), lastOf c (a ++ b) = (lastOf c b).or (lastOf c a)
  | [], b => by simp [lastOf]
  | (i, x) :: a, b => by
    simp only [List.cons_append, lastOf, lastOf_append c a b]
    cases lastOf c b <;> cases lastOf c a <;> simp

section
variable {P : Program} {E : Env} {w : World} {g : Gh} {h : Heap}

def blkBack (ρ : Nat → Option Nat) (marks : List Nat) (i : Nat) (x : Blk) : Blk := if memB i marks then markRo (renameB ρ x) else renameB ρ x

theorem updsOf_last {hs : Heap} {ρ : Nat → Option Nat} {marks : List Nat} : ∀ {all : List Nat} {u : List (Nat × Blk)}, updsOf hs ρ marks all = some u →
    (∀ c y, lastOf c u = some y → ∃ i ∈ all, ρ i = some c ∧ ∃ x, hs.at i = some x ∧ y = blkBack ρ marks i x) ∧
    (∀ i ∈ all, ∃ b y x, ρ i = some b ∧ hs.at i = some x ∧ lastOf b u = some y) ∧ (∀ p ∈ u, ∃ i ∈ all, ρ i = some p.1)
  | [], u, hu => by
    simp only [updsOf, Option.some.injEq] at hu
    subst hu
    exact ⟨fun c y hl => by simp [lastOf] at hl, fun i hi => by simp at hi, fun p hp => by simp at hp⟩
  | i :: r, u, hu => by
    simp only [updsOf] at hu
    rcases hx : hs.at i with _ | x <;> rcases hb : ρ i with _ | b <;> rcases hr : updsOf hs ρ marks r with _ | u' <;> simp only [hx, hb, hr] at hu <;> (try cases hu)
    obtain ⟨h1, h2, h3⟩ := updsOf_last hr
    refine ⟨fun c y hl => ?_, fun j hj => ?_, fun p hp => ?_⟩
    · simp only [lastOf] at hl
      rcases hl' : lastOf c u' with _ | z <;> simp only [hl'] at hl
      · split at hl
        · rename_i hc
          simp only [Option.some.injEq] at hl
          subst hc
          exact ⟨i, by simp, hb, x, hx, hl.symm⟩
        · cases hl
      · simp only [Option.some.injEq] at hl
        subst hl
        obtain ⟨j, hj, h4⟩ := h1 c z hl'
        exact ⟨j, by simp [hj], h4⟩
    · rcases List.mem_cons.1 hj with rfl | hj
      · rcases hl' : lastOf b u' with _ | z
        · exact ⟨b, blkBack ρ marks j x, x, hb, hx, by simp only [lastOf, hl', if_true]; rfl⟩
        · exact ⟨b, z, x, hb, hx, by simp only [lastOf, hl']⟩
      · obtain ⟨b', y, x', q1, q2, q3⟩ := h2 j hj
        exact ⟨b', y, x', q1, q2, by simp only [lastOf, q3]⟩
    · rcases List.mem_cons.1 hp with rfl | hp
      · exact ⟨i, by simp, hb⟩
      · obtain ⟨j, hj, h4⟩ := h3 p hp
        exact ⟨j, by simp [hj], h4⟩

theorem markAll_last : ∀ (fz : List Nat), (∀ c y, lastOf c (markAll h fz) = some y → c ∈ fz ∧ ∃ x, h.at c = some x ∧ x.ro = false ∧ y = markRo x) ∧
    (∀ c ∈ fz, ∀ x, h.at c = some x → x.ro = false → lastOf c (markAll h fz) = some (markRo x)) ∧ (∀ p ∈ markAll h fz, p.1 ∈ fz)
  | [] => ⟨fun c y hl => by simp [markAll, lastOf] at hl, fun c hc => by simp at hc, fun p hp => by simp [markAll] at hp⟩
  | b :: r => by
    obtain ⟨h1, h2, h3⟩ := markAll_last r
    have keep : markAll h (b :: r) = markAll h r → (∀ x, h.at b = some x → x.ro = true) → (∀ c y, lastOf c (markAll h (b :: r)) = some y → c ∈ b :: r ∧ ∃ x, h.at c = some x ∧ x.ro = false ∧ y = markRo x) ∧
        (∀ c ∈ b :: r, ∀ x, h.at c = some x → x.ro = false → lastOf c (markAll h (b :: r)) = some (markRo x)) ∧ (∀ p ∈ markAll h (b :: r), p.1 ∈ b :: r) := by
      intro he hro
      rw [he]
      refine ⟨fun c y hl => ?_, fun c hc x hx hf => ?_, fun p hp => by simp [h3 p hp]⟩
      · obtain ⟨q1, q2⟩ := h1 c y hl
        exact ⟨by simp [q1], q2⟩
      · rcases List.mem_cons.1 hc with rfl | hc
        · rw [hro x hx] at hf; cases hf
        · exact h2 c hc x hx hf
    have add : ∀ x, h.at b = some x → x.ro = false → markAll h (b :: r) = (b, markRo x) :: markAll h r → (∀ c y, lastOf c (markAll h (b :: r)) = some y → c ∈ b :: r ∧ ∃ x, h.at c = some x ∧ x.ro = false ∧ y = markRo x) ∧
        (∀ c ∈ b :: r, ∀ x, h.at c = some x → x.ro = false → lastOf c (markAll h (b :: r)) = some (markRo x)) ∧ (∀ p ∈ markAll h (b :: r), p.1 ∈ b :: r) := by
      intro x hx hro he
      rw [he]
      refine ⟨fun c y hl => ?_, fun c hc z hz hf => ?_, fun p hp => ?_⟩
      · simp only [lastOf] at hl
        rcases hl' : lastOf c (markAll h r) with _ | q <;> simp only [hl'] at hl
        · split at hl
          · rename_i hc
            simp only [Option.some.injEq] at hl
            subst hc
            exact ⟨by simp, x, hx, hro, hl.symm⟩
          · cases hl
        · simp only [Option.some.injEq] at hl
          subst hl
          obtain ⟨q1, q2⟩ := h1 c q hl'
          exact ⟨by simp [q1], q2⟩
      · simp only [lastOf]
        rcases hl' : lastOf c (markAll h r) with _ | q
        · rcases List.mem_cons.1 hc with rfl | hc
          · rw [hx] at hz
            simp only [Option.some.injEq] at hz
            subst hz
            simp
          · rw [h2 c hc z hz hf] at hl'; cases hl'
        · obtain ⟨-, z', q2, -, q3⟩ := h1 c q hl'
          rw [hz] at q2
          simp only [Option.some.injEq] at q2
          subst q2
          simp [q3]
      · rcases List.mem_cons.1 hp with rfl | hp
        · simp
        · simp [h3 p hp]
    rcases hx : h.at b with _ | x
    · exact keep (by simp [markAll, hx]) (fun x hx' => by rw [hx] at hx'; cases hx')
    · cases x with
      | mem cells e gn ro pr =>
        cases ro with
        | true => exact keep (by simp [markAll, hx]) (fun x hx' => by rw [hx] at hx'; simp only [Option.some.injEq] at hx'; subst hx'; rfl)
        | false => exact add _ hx rfl (by simp [markAll, hx])
      | iter s pos => exact add _ hx rfl (by simp [markAll, hx])

theorem backName_cases {ids keep : List Nat} {base i b : Nat} (hb : backName ids keep base i = some b) : ids[i]? = some b ∨ (ids.length ≤ i ∧ ∃ k, keep[k]? = some i ∧ b = base + k) := by
  unfold backName at hb
  rw [getL_eq] at hb
  rcases hi : ids[i]? with _ | c <;> simp only [hi] at hb
  · right
    refine ⟨List.getElem?_eq_none_iff.1 hi, ?_⟩
    rcases hk : idxOf i keep 0 with _ | k <;> simp only [hk] at hb
    · cases hb
    · simp only [Option.some.injEq] at hb
      obtain ⟨-, h2⟩ := idxOf_some keep i 0 k hk
      exact ⟨k, by simpa using h2, hb.symm⟩
  · left; exact hb

end
end Go.Am
end
noncomputable section
namespace Go.Am

section
variable {P : Program} {E : Env} {w w' : World} {g gl' : Gh} {h hs hs' : Heap} {ids fz fz2 all keep : List Nat} {base : Nat} {upd : List (Nat × Blk)}

open Classical in
/-- Where the caller's blocks lie after a call. -/
noncomputable def Gh.back (g gl' : Gh) (fz2 all : List Nat) (ρ : Nat → Option Nat) : Gh :=
  ⟨fun b => if h : ∃ i, i ∈ all ∧ ρ i = some b then gl'.φ h.choose else g.φ b, fun p => gl'.F p ∨ ∃ i ∈ fz2, gl'.φ i = p⟩

/-- After a call: what the caller's memory is. -/
theorem back_ok (hr : HR E w g h) (hn : ids.Nodup) (hfz : ∀ b ∈ fz, ∃ cells e gn ro pr, h.at b = some (.mem cells e gn ro pr)) (hd : ∀ b ∈ fz, b ∉ ids)
    (hb : blksOf h (fun b => idxOf b ids 0) ids = some hs) (hr' : HR E w' gl' hs') (hst : Stp w (g.loc ids fz) hs w' gl' hs')
    (hall : all = List.range ids.length ++ keep) (_halln : all.Nodup)
    (hfz2 : ∀ b ∈ fz2, ∃ cells e gn ro pr, hs'.at b = some (.mem cells e gn ro pr))
    (hu : updsOf hs' (backName ids keep base) fz2 all = some upd) (hfresh : ∀ x ∈ upd, base ≤ x.1 → h.at x.1 = none) :
    HR E w' (g.back gl' fz2 all (backName ids keep base)) (h.puts (upd ++ markAll h fz)) ∧
      Stp w g h w' (g.back gl' fz2 all (backName ids keep base)) (h.puts (upd ++ markAll h fz)) ∧
      (∀ i c n, backName ids keep base i = some c → hs'.gen? i = some n → i ∈ all → (h.puts (upd ++ markAll h fz)).gen? c = some n ∧ (g.back gl' fz2 all (backName ids keep base)).φ c = gl'.φ i) ∧
      (∀ p, gl'.F p → (g.back gl' fz2 all (backName ids keep base)).F p) := by
  obtain ⟨b1, b2⟩ := blksOf_at hb
  obtain ⟨u1, u2, u3⟩ := updsOf_last hu
  obtain ⟨k1, k2, k3⟩ := markAll_last (h := h) fz
  generalize hρ : backName ids keep base = ρ at *
  have idsAt : ∀ b ∈ ids, ∃ x, h.at b = some x := by
    intro b hb
    obtain ⟨i, hi⟩ := List.getElem?_of_mem hb
    obtain ⟨x, hx, -⟩ := b1 i b hi
    exact ⟨x, hx⟩
  -- names: the caller's own or new
  have nm : ∀ i ∈ all, ∀ b, ρ i = some b → (ids[i]? = some b) ∨ (ids.length ≤ i ∧ (∃ k, keep[k]? = some i ∧ b = base + k) ∧ h.at b = none) := by
    intro i hi b hib
    have := hib
    rw [← hρ] at this
    rcases backName_cases this with h1 | ⟨h1, k, h2, h3⟩
    · exact .inl h1
    · refine .inr ⟨h1, ⟨k, h2, h3⟩, ?_⟩
      obtain ⟨b', y, x, q1, q2, q3⟩ := u2 i hi
      rw [hib] at q1
      simp only [Option.some.injEq] at q1
      subst q1
      have : ∃ p ∈ upd, p.1 = b := by
        clear u1 u2 u3 hu hfresh
        induction upd with
        | nil => simp [lastOf] at q3
        | cons p r ih =>
          obtain ⟨j, z⟩ := p
          simp only [lastOf] at q3
          rcases hl : lastOf b r with _ | q <;> simp only [hl] at q3
          · split at q3
            · rename_i hbj; exact ⟨(j, z), by simp, hbj.symm⟩
            · cases q3
          · obtain ⟨p, hp1, hp2⟩ := ih (by rw [hl, q3])
            exact ⟨p, by simp [hp1], hp2⟩
      obtain ⟨p, hp1, hp2⟩ := this
      have := hfresh p hp1 (by rw [hp2, h3]; exact Nat.le_add_right _ _)
      rwa [hp2] at this
  have inj : ∀ i ∈ all, ∀ j ∈ all, ∀ b, ρ i = some b → ρ j = some b → i = j := by
    intro i hi j hj b hib hjb
    rcases nm i hi b hib with h1 | ⟨h1, ⟨k, h2, h3⟩, h4⟩ <;> rcases nm j hj b hjb with h5 | ⟨h5, ⟨k', h6, h7⟩, h8⟩
    · obtain ⟨x1, x2⟩ := List.getElem?_eq_some_iff.1 h1
      obtain ⟨y1, y2⟩ := List.getElem?_eq_some_iff.1 h5
      exact (List.getElem_inj hn).1 (x2.trans y2.symm)
    · obtain ⟨x, hx⟩ := idsAt b (List.mem_of_getElem? h1)
      rw [h8] at hx; cases hx
    · obtain ⟨x, hx⟩ := idsAt b (List.mem_of_getElem? h5)
      rw [h4] at hx; cases hx
    · obtain rfl : k = k' := by omega
      rw [h2] at h6
      simpa using h6
  have φb : ∀ i ∈ all, ∀ b, ρ i = some b → (g.back gl' fz2 all ρ).φ b = gl'.φ i := by
    intro i hi b hib
    have hex : ∃ i, i ∈ all ∧ ρ i = some b := ⟨i, hi, hib⟩
    have : (g.back gl' fz2 all ρ).φ b = gl'.φ hex.choose := by simp only [Gh.back, dif_pos hex]
    rw [this, inj _ hex.choose_spec.1 _ hi b hex.choose_spec.2 hib]
  have φo : ∀ b, (¬ ∃ i, i ∈ all ∧ ρ i = some b) → (g.back gl' fz2 all ρ).φ b = g.φ b := by
    intro b hex
    simp only [Gh.back, dif_neg hex]
  -- what lies where
  have at1 : ∀ i ∈ all, ∀ b, ρ i = some b → ∃ x, hs'.at i = some x ∧ (h.puts (upd ++ markAll h fz)).at b = some (blkBack ρ fz2 i x) := by
    intro i hi b hib
    obtain ⟨b', y, x, q1, q2, q3⟩ := u2 i hi
    rw [hib] at q1
    simp only [Option.some.injEq] at q1
    subst q1
    obtain ⟨j, hj, q4, x', q5, q6⟩ := u1 b y q3
    have := inj i hi j hj b hib q4
    subst this
    rw [q2] at q5
    simp only [Option.some.injEq] at q5
    subst q5
    refine ⟨x, q2, ?_⟩
    have hnm : lastOf b (markAll h fz) = none := by
      rcases hl : lastOf b (markAll h fz) with _ | z
      · rfl
      · obtain ⟨r1, x2, r2, -, -⟩ := k1 b z hl
        rcases nm i hi b hib with h1 | ⟨-, -, h4⟩
        · exact absurd (List.mem_of_getElem? h1) (hd b r1)
        · rw [h4] at r2; cases r2
    rw [Heap.at_puts, lastOf_append, hnm, q3, q6]
    rfl
  have at2 : ∀ b, (¬ ∃ i, i ∈ all ∧ ρ i = some b) → lastOf b upd = none := by
    intro b hex
    rcases hl : lastOf b upd with _ | z
    · rfl
    · obtain ⟨i, hi, q, -⟩ := u1 b z hl
      exact absurd ⟨i, hi, q⟩ hex
  have at3 : ∀ b x, (¬ ∃ i, i ∈ all ∧ ρ i = some b) → h.at b = some x → (h.puts (upd ++ markAll h fz)).at b = some (if b ∈ fz then markRo x else x) := by
    intro b x hex hx
    rw [Heap.at_puts, lastOf_append, at2 b hex, hx]
    by_cases hbf : b ∈ fz
    · rw [if_pos hbf]
      obtain ⟨cells, e, gn, ro, pr, hm⟩ := hfz b hbf
      rw [hx] at hm
      simp only [Option.some.injEq] at hm
      subst hm
      cases ro with
      | false => rw [k2 b hbf _ hx rfl]; rfl
      | true =>
        rcases hl : lastOf b (markAll h fz) with _ | z
        · rfl
        · obtain ⟨-, x2, r2, r3, -⟩ := k1 b z hl
          rw [hx] at r2
          simp only [Option.some.injEq] at r2
          subst r2
          cases r3
    · rw [if_neg hbf]
      rcases hl : lastOf b (markAll h fz) with _ | z
      · rfl
      · exact absurd (k1 b z hl).1 hbf
  have at4 : ∀ b, (¬ ∃ i, i ∈ all ∧ ρ i = some b) → h.at b = none → (h.puts (upd ++ markAll h fz)).at b = none := by
    intro b hex hx
    rw [Heap.at_puts, lastOf_append, at2 b hex, hx]
    rcases hl : lastOf b (markAll h fz) with _ | z
    · rfl
    · obtain ⟨-, x2, r2, -, -⟩ := k1 b z hl
      rw [hx] at r2; cases r2
  -- the ids are among all
  have idsAll : ∀ i b, ids[i]? = some b → i ∈ all ∧ ρ i = some b := by
    intro i b hi
    refine ⟨?_, ?_⟩
    · rw [hall]
      exact List.mem_append_left _ (List.mem_range.2 (List.getElem?_eq_some_iff.1 hi).1)
    · rw [← hρ]; unfold backName; rw [getL_eq, hi]
  have ownLoc : ∀ p, Own (g.loc ids fz) hs p → ∃ (i b : Nat) (x : Blk), ids[i]? = some b ∧ h.at b = some x ∧ x.ro = false ∧ g.φ b = p := by
    rintro p ⟨i, y, hy, hro, rfl⟩
    obtain ⟨b, hib⟩ := b2 i y hy
    obtain ⟨x, hx, hxy⟩ := b1 i b hib
    rw [hy] at hxy
    simp only [Option.some.injEq] at hxy
    subst hxy
    rw [renameB_ro] at hro
    exact ⟨i, b, x, hib, hx, hro, by simp [Gh.loc, hib]⟩
  have ownLoc' : ∀ p, Own (g.loc ids fz) hs p → Own g h p := by
    intro p hp
    obtain ⟨i, b, x, -, hx, hro, he⟩ := ownLoc p hp
    exact ⟨b, x, hx, hro, he⟩
  -- blocks that did not go along are where they were
  have still : ∀ b x, (¬ ∃ i, i ∈ all ∧ ρ i = some b) → h.at b = some x → ¬ Own (g.loc ids fz) hs (g.φ b) := by
    intro b x hex hx ho
    obtain ⟨i, b', y, hib, hy, hro, he⟩ := ownLoc _ ho
    cases hxr : x.ro with
    | false =>
      have := hr.inj b' b y x hy hx hro hxr he
      subst this
      exact hex ⟨i, idsAll i b' hib⟩
    | true =>
      cases x with
      | iter => cases hxr
      | mem cells2 e2 g2 ro2 pr2 =>
        obtain ⟨-, -, -, -, -, -, -, -, hF⟩ := hr.blk b _ hx
        exact hr.notOwn (hF hxr) ⟨b', y, hy, hro, he⟩
  have Floc : ∀ p, gl'.F p → (g.back gl' fz2 all ρ).F p := fun p hp => .inl hp
  have Fg : ∀ p, g.F p → gl'.F p := fun p hp => hst.fst p (.inl hp)
  have allOf : ∀ i c, ρ i = some c → i ∈ all := by
    intro i c hic
    rw [← hρ] at hic
    rcases backName_cases hic with h1 | ⟨h1, k, h2, h3⟩
    · exact (idsAll i c h1).1
    · rw [hall]; exact List.mem_append_right _ (List.mem_of_getElem? h2)
  have bgen : ∀ i x, (blkBack ρ fz2 i x).gen = x.gen := by
    intro i x
    unfold blkBack
    split
    · rw [markRo_gen, renameB_gen]
    · rw [renameB_gen]
  have bro : ∀ i x, (blkBack ρ fz2 i x).ro = false → hs'.at i = some x → x.ro = false ∧ i ∉ fz2 := by
    intro i x hro hx
    unfold blkBack at hro
    split at hro
    · rename_i hm
      obtain ⟨cells, e, gn, ro, pr, hmm⟩ := hfz2 i ((memB_iff _ _).1 hm)
      rw [hx] at hmm
      simp only [Option.some.injEq] at hmm
      subst hmm
      cases hro
    · rename_i hm
      rw [renameB_ro] at hro
      exact ⟨hro, fun hh => hm ((memB_iff _ _).2 hh)⟩
  have oro : ∀ b x, h.at b = some x → (if b ∈ fz then markRo x else x).ro = false → x.ro = false ∧ b ∉ fz := by
    intro b x hx hro
    split at hro
    · rename_i hb
      obtain ⟨cells, e, gn, ro, pr, hmm⟩ := hfz b hb
      rw [hx] at hmm
      simp only [Option.some.injEq] at hmm
      subst hmm
      cases hro
    · rename_i hb; exact ⟨hro, hb⟩
  have gen1 : ∀ i c n, ρ i = some c → hs'.gen? i = some n → (h.puts (upd ++ markAll h fz)).gen? c = some n ∧ (g.back gl' fz2 all ρ).φ c = gl'.φ i := by
    intro i c n hic hg
    have hi := allOf i c hic
    obtain ⟨x, q1, q2⟩ := at1 i hi c hic
    refine ⟨?_, φb i hi c hic⟩
    rw [gen?_at, q2, Option.map_some, bgen]
    rw [gen?_at, q1] at hg
    exact hg
  have ownB : ∀ i x, hs'.at i = some x → x.ro = false → Own (g.loc ids fz) hs (gl'.φ i) ∨ w.heap.size ≤ gl'.φ i := fun i x hx hro => hst.own _ ⟨i, x, hx, hro, rfl⟩
  have fnew1 : ∀ p, gl'.F p → g.F p ∨ Own g h p ∨ w.heap.size ≤ p := by
    intro p hp
    rcases hst.fnew p hp with (hp | ⟨b, hb, rfl⟩) | hp | hp
    · exact .inl hp
    · obtain ⟨cells, e, gn, ro, pr, hm⟩ := hfz b hb
      cases ro with
      | false => exact .inr (.inl ⟨b, _, hm, rfl, rfl⟩)
      | true =>
        obtain ⟨-, -, -, -, -, -, -, -, hF⟩ := hr.blk b _ hm
        exact .inl (hF rfl)
    · exact .inr (.inl (ownLoc' p hp))
    · exact .inr (.inr hp)
  have hS : Stp w g h w' (g.back gl' fz2 all ρ) (h.puts (upd ++ markAll h fz)) := {
    size := hst.size
    frame := fun p hp ho => hst.frame p hp (fun ho' => ho (ownLoc' p ho'))
    shape := hst.shape
    fst := fun p hp => .inl (Fg p hp)
    fnew := by
      rintro p (hp | ⟨i, hi, rfl⟩)
      · exact fnew1 p hp
      · obtain ⟨cells, e, gn, ro, pr, hm⟩ := hfz2 i hi
        cases ro with
        | true =>
          obtain ⟨-, -, -, -, -, -, -, -, hF⟩ := hr'.blk i _ hm
          exact fnew1 _ (hF rfl)
        | false => exact .inr ((ownB i _ hm rfl).imp (ownLoc' _) id)
    own := by
      rintro p ⟨b, y, hy, hro, rfl⟩
      by_cases hex : ∃ i, i ∈ all ∧ ρ i = some b
      · obtain ⟨i, hi, hib⟩ := hex
        obtain ⟨x, q1, q2⟩ := at1 i hi b hib
        rw [hy] at q2
        simp only [Option.some.injEq] at q2
        subst q2
        rw [φb i hi b hib]
        exact (ownB i x q1 (bro i x hro q1).1).imp (ownLoc' _) id
      · rcases hx : h.at b with _ | x
        · rw [at4 b hex hx] at hy; cases hy
        · rw [at3 b x hex hx] at hy
          simp only [Option.some.injEq] at hy
          subst hy
          rw [φo b hex]
          exact .inl ⟨b, x, hx, (oro b x hx hro).1, rfl⟩
    gens := by
      intro b n hn'
      rw [gen?_at] at hn'
      rcases hx : h.at b with _ | x
      · rw [hx] at hn'; cases hn'
      rw [hx, Option.map_some, Option.some.injEq] at hn'
      subst hn'
      by_cases hex : ∃ i, i ∈ all ∧ ρ i = some b
      · obtain ⟨i, hi, hib⟩ := hex
        rcases nm i hi b hib with h1 | ⟨-, -, h4⟩
        · obtain ⟨x', q1, q2⟩ := b1 i b h1
          rw [hx] at q1
          simp only [Option.some.injEq] at q1
          subst q1
          obtain ⟨n', r1, r2, r3⟩ := hst.gens i x.gen (by rw [gen?_at, q2, Option.map_some, renameB_gen])
          obtain ⟨r4, r5⟩ := gen1 i b n' hib r1
          refine ⟨n', r4, r2, fun he => ?_⟩
          rw [r5, r3 he]
          simp [Gh.loc, h1]
        · rw [hx] at h4; cases h4
      · refine ⟨x.gen, ?_, Nat.le_refl _, fun _ => φo b hex⟩
        rw [gen?_at, at3 b x hex hx, Option.map_some]
        split
        · rw [markRo_gen]
        · rfl
    tape := hst.tape
    os := hst.os
    output := hst.output }
  have heapAt : ∀ b x, (¬ ∃ i, i ∈ all ∧ ρ i = some b) → h.at b = some x → w'.heap[g.φ b]? = w.heap[g.φ b]? := fun b x hex hx => hst.frame _ (hr.lt hx) (still b x hex hx)
  have notF : ∀ b x, (¬ ∃ i, i ∈ all ∧ ρ i = some b) → h.at b = some x → x.ro = false → b ∉ fz → ¬ (g.back gl' fz2 all ρ).F (g.φ b) := by
    intro b x hex hx hro hbf hF
    have base1 : ¬ gl'.F (g.φ b) := by
      intro hF
      rcases hst.fnew _ hF with (hp | ⟨c, hc, he⟩) | hp | hp
      · exact hr.notOwn hp ⟨b, x, hx, hro, rfl⟩
      · obtain ⟨cells, e, gn, ro, pr, hm⟩ := hfz c hc
        cases ro with
        | false =>
          have := hr.inj c b _ x hm hx rfl hro he
          exact hbf (this ▸ hc)
        | true =>
          obtain ⟨-, -, -, -, -, -, -, -, hF⟩ := hr.blk c _ hm
          have := hF rfl
          rw [he] at this
          exact hr.notOwn this ⟨b, x, hx, hro, rfl⟩
      · exact still b x hex hx hp
      · have := hr.lt hx; omega
    rcases hF with hF | ⟨i, hi, he⟩
    · exact base1 hF
    · obtain ⟨cells, e, gn, ro, pr, hm⟩ := hfz2 i hi
      cases ro with
      | true =>
        obtain ⟨-, -, -, -, -, -, -, -, hF⟩ := hr'.blk i _ hm
        have := hF rfl
        rw [he] at this
        exact base1 this
      | false =>
        have := ownB i _ hm rfl
        rw [he] at this
        rcases this with hp | hp
        · exact still b x hex hx hp
        · have := hr.lt hx; omega
  refine ⟨⟨fun b y hy => ?_, fun b c y z hy hz hyr hzr he => ?_, fun p hp => ?_, fun n cells hgl => ?_⟩, hS, fun i c n hic hg _ => gen1 i c n hic hg, Floc⟩
  · by_cases hex : ∃ i, i ∈ all ∧ ρ i = some b
    · obtain ⟨i, hi, hib⟩ := hex
      obtain ⟨x, q1, q2⟩ := at1 i hi b hib
      rw [hy] at q2
      simp only [Option.some.injEq] at q2
      subst q2
      have hB := hr'.blk i x q1
      unfold blkBack
      split
      · rename_i hm
        have hm' := (memB_iff _ _).1 hm
        obtain ⟨cells, e, gn, ro, pr, hmm⟩ := hfz2 i hm'
        rw [q1] at hmm
        simp only [Option.some.injEq] at hmm
        subst hmm
        obtain ⟨cc, fr, vs, r1, r2, r3, r4, r5, r6⟩ := hB
        refine ⟨cc, fr, vs, by rw [φb i hi b hib]; exact r1, ?_, ?_, r4, fun hro => (by cases hro), fun _ => by rw [φb i hi b hib]; exact .inr ⟨i, hm', rfl⟩⟩
        · cases pr with
          | true => exact ((r3 rfl).mono Floc).vrs
          | false => exact VRs.rename' Floc gen1 r2
        · intro hp
          subst hp
          exact (r3 rfl).mono Floc
      · rename_i hm
        refine BR.rename' Floc gen1 hB (φb i hi b hib) fun hro hF => ?_
        rcases hF with hF | ⟨j, hj, he⟩
        · exact hr'.notOwn hF ⟨i, x, q1, hro, rfl⟩
        · obtain ⟨cells, e, gn, ro, pr, hmm⟩ := hfz2 j hj
          cases ro with
          | false =>
            have := hr'.inj j i _ x hmm q1 rfl hro he
            subst this
            exact hm ((memB_iff _ _).2 hj)
          | true =>
            obtain ⟨-, -, -, -, -, -, -, -, hF⟩ := hr'.blk j _ hmm
            have := hF rfl
            rw [he] at this
            exact hr'.notOwn this ⟨i, x, q1, hro, rfl⟩
    · rcases hx : h.at b with _ | x
      · rw [at4 b hex hx] at hy; cases hy
      rw [at3 b x hex hx] at hy
      simp only [Option.some.injEq] at hy
      subst hy
      by_cases hbf : b ∈ fz
      · rw [if_pos hbf]
        obtain ⟨cells, e, gn, ro, pr, hmm⟩ := hfz b hbf
        rw [hx] at hmm
        simp only [Option.some.injEq] at hmm
        subst hmm
        obtain ⟨cc, fr, vs, r1, r2, r3, r4, r5, r6⟩ := hr.blk b _ hx
        refine ⟨cc, fr, vs, by rw [φo b hex, heapAt b _ hex hx]; exact r1, r2.step hr hS, fun hp => (r3 hp).step hr hS, r4, fun hro => (by cases hro), fun _ => ?_⟩
        rw [φo b hex]
        exact .inl (hst.fst _ (.inr ⟨b, hbf, rfl⟩))
      · rw [if_neg hbf]
        exact BR.step hr hS hx (φo b hex) (heapAt b x hex hx) (fun hro => notF b x hex hx hro hbf)
  · by_cases hexb : ∃ i, i ∈ all ∧ ρ i = some b <;> by_cases hexc : ∃ i, i ∈ all ∧ ρ i = some c
    · obtain ⟨i, hi, hib⟩ := hexb
      obtain ⟨j, hj, hjc⟩ := hexc
      obtain ⟨x, q1, q2⟩ := at1 i hi b hib
      obtain ⟨x', q3, q4⟩ := at1 j hj c hjc
      rw [hy] at q2
      rw [hz] at q4
      simp only [Option.some.injEq] at q2 q4
      subst q2
      subst q4
      rw [φb i hi b hib, φb j hj c hjc] at he
      have := hr'.inj i j x x' q1 q3 (bro i x hyr q1).1 (bro j x' hzr q3).1 he
      subst this
      rw [hib] at hjc
      simpa using hjc
    · obtain ⟨i, hi, hib⟩ := hexb
      obtain ⟨x, q1, q2⟩ := at1 i hi b hib
      rw [hy] at q2
      simp only [Option.some.injEq] at q2
      subst q2
      rcases hx : h.at c with _ | x'
      · rw [at4 c hexc hx] at hz; cases hz
      rw [φb i hi b hib, φo c hexc] at he
      have := ownB i x q1 (bro i x hyr q1).1
      rw [he] at this
      rcases this with hp | hp
      · exact absurd hp (still c x' hexc hx)
      · have := hr.lt hx; omega
    · obtain ⟨i, hi, hib⟩ := hexc
      obtain ⟨x, q1, q2⟩ := at1 i hi c hib
      rw [hz] at q2
      simp only [Option.some.injEq] at q2
      subst q2
      rcases hx : h.at b with _ | x'
      · rw [at4 b hexb hx] at hy; cases hy
      rw [φb i hi c hib, φo b hexb] at he
      have := ownB i x q1 (bro i x hzr q1).1
      rw [← he] at this
      rcases this with hp | hp
      · exact absurd hp (still b x' hexb hx)
      · have := hr.lt hx; omega
    · rcases hx : h.at b with _ | x
      · rw [at4 b hexb hx] at hy; cases hy
      rcases hx' : h.at c with _ | x'
      · rw [at4 c hexc hx'] at hz; cases hz
      rw [at3 b x hexb hx] at hy
      rw [at3 c x' hexc hx'] at hz
      simp only [Option.some.injEq] at hy hz
      subst hy
      subst hz
      rw [φo b hexb, φo c hexc] at he
      exact hr.inj b c x x' hx hx' (oro b x hx hyr).1 (oro c x' hx' hzr).1 he
  · rcases hp with hp | ⟨i, hi, rfl⟩
    · exact hr'.lim p hp
    · obtain ⟨cells, e, gn, ro, pr, hm⟩ := hfz2 i hi
      exact hr'.lt hm
  · obtain ⟨hFn, c, e, fr, vs, q1, q2, q3⟩ := hr'.glob n cells hgl
    exact ⟨.inl hFn, c, e, fr, vs, q1, q2.mono Floc, q3⟩

end
end Go.Am
end
noncomputable section
namespace Go.Am

section
variable {P : Program} {E : Env} {callF : CallF}

mutual
theorem FR.scal {w w' : World} {F F' : Nat → Prop} : ∀ {a : AV} {v : Value}, FR w F a v → scal a = true → FR w' F' a v
  | _, _, .bool b, _ => .bool b
  | _, _, .int k n, _ => .int k n
  | _, _, .str h, _ => .str h
  | _, _, .nilptr, _ => .nilptr
  | _, _, .gptr a b, _ => .gptr a b
  | _, _, .fptr .., hs => by simp [Am.scal] at hs
  | _, _, .nilslice, _ => .nilslice
  | _, _, .fempty .., hs => by simp [Am.scal] at hs
  | _, _, .fslice .., hs => by simp [Am.scal] at hs
  | _, _, .func h, hs => .func (FRs.scal h (by simpa [Am.scal] using hs))
  | _, _, .nilfunc, _ => .nilfunc
  | _, _, .iface h, hs => .iface (FR.scal h (by simpa [Am.scal] using hs))
  | _, _, .niliface, _ => .niliface
  | _, _, .agg h, hs => .agg (FRs.scal h (by simpa [Am.scal] using hs))
  | _, _, .tuple h, hs => .tuple (FRs.scal h (by simpa [Am.scal] using hs))
  | _, _, .fz .., hs => by simp [Am.scal] at hs
theorem FRs.scal {w w' : World} {F F' : Nat → Prop} : ∀ {as : List AV} {vs : List Value}, FRs w F as vs → scal.scalL as = true → FRs w' F' as vs
  | _, _, .nil, _ => .nil
  | _, _, .cons h hs, hc => by
    simp only [scal.scalL, Bool.and_eq_true] at hc
    exact .cons (FR.scal h hc.1) (FRs.scal hs hc.2)
end

mutual
theorem scal_fr {w w' : World} {g g' : Gh} {h h' : Heap} : ∀ {a : AV} {v : Value}, VR w g h a v → scal a = true → VR w' g' h' a v
  | _, _, .fr hf, hs => .fr (hf.scal hs)
  | _, _, .ptr .., hs => by simp [scal] at hs
  | _, _, .mslice .., hs => by simp [scal] at hs
  | _, _, .func h, hs => .func (scal_frs h (by simpa [scal] using hs))
  | _, _, .iface h, hs => .iface (scal_fr h (by simpa [scal] using hs))
  | _, _, .agg h, hs => .agg (scal_frs h (by simpa [scal] using hs))
  | _, _, .tuple h, hs => .tuple (scal_frs h (by simpa [scal] using hs))
  | _, _, .junk v, hs => by simp [scal] at hs
theorem scal_frs {w w' : World} {g g' : Gh} {h h' : Heap} : ∀ {as : List AV} {vs : List Value}, VRs w g h as vs → scal.scalL as = true → VRs w' g' h' as vs
  | _, _, .nil, _ => .nil
  | _, _, .cons h hs, hc => by
    simp only [scal.scalL, Bool.and_eq_true] at hc
    exact .cons (scal_fr h hc.1) (scal_frs hs hc.2)
end

/-- A CALL IS LOCAL. -/
theorem doCall_ok (hc : CallOK P E callF) : DoCallOK P E callF := by
  intro f args h base t c t' hb ho w g vs hr hv hfresh
  unfold doCall at hb
  dsimp only at hb
  rcases hp : prep h (E.mode f).look (E.mode f).keep args with _ | ⟨args1, fz, kept⟩ <;> simp only [hp] at hb
  · exact (fail_inv hb).elim
  rcases hre : reach h 65536 [] kept with _ | ids <;> simp only [hre] at hb
  · exact (fail_inv hb).elim
  split at hb
  · rename_i hdj
    rcases hbl : blksOf h (fun b => idxOf b ids 0) ids with _ | hs <;> simp only [hbl] at hb
    · exact (fail_inv hb).elim
    obtain ⟨⟨res, hs'⟩, t1, h1, h2⟩ := bind_inv hb
    dsimp only at h2
    obtain ⟨-, hn, -, -⟩ := reach_ok 65536 [] kept ids hre (by simp)
    have hd := (disjoint_iff fz ids).1 hdj
    have hfz := prep_at hp
    have hfz' : ∀ b ∈ fz, ∃ x, h.at b = some x := fun b hb => by
      obtain ⟨cells, e, gn, ro, pr, hm⟩ := hfz b hb; exact ⟨_, hm⟩
    obtain ⟨hrl, hρ⟩ := loc_ok hr hn hfz' hd hbl
    have hargs := prep_ok (gl := g.loc ids fz) hr (fun p hp => .inl hp) hρ hp (fun b hb => .inr ⟨b, hb, rfl⟩) hv
    rcases hfrz : (if (E.mode f).own then some (res, []) else freeze hs' 4096 res) with _ | ⟨res1, fz2⟩ <;> simp only [hfrz] at h2
    · exact (fail_inv h2).elim
    have hfz2 : ∀ b ∈ fz2, ∃ cells e gn ro pr, Heap.at hs' b = some (.mem cells e gn ro pr) := by
      intro b hb
      split at hfrz
      · simp only [Option.some.injEq, Prod.mk.injEq] at hfrz
        rw [← hfrz.2] at hb; simp at hb
      · exact (freeze_at 4096).1 _ _ _ hfrz b hb
    split at h2
    · -- nothing in memory comes back
      obtain ⟨u, t2, h3, h4⟩ := bind_inv h2
      split at h4
      · rename_i hl0
        have hl0 := Nat.eq_of_beq_eq_true hl0
        obtain ⟨rfl, rfl⟩ := pure_inv h4
        obtain ⟨h5, h6⟩ := check_inv h3 ho
        have hcall := hc _ _ _ _ _ _ _ h1 h6 w (g.loc ids fz) vs hrl hargs
        refine Calls.mono hcall ?_
        rintro e w' ⟨v, g', rfl, m1, m2, m3⟩
        have hids : ids = [] := List.length_eq_zero_iff.1 hl0
        subst hids
        have hnoOwn : ∀ p, ¬ Own (g.loc [] fz) hs p := by
          rintro p ⟨i, y, hy, -, -⟩
          obtain ⟨b, hb⟩ := (blksOf_at hbl).2 i y hy
          simp at hb
        have hheap : ∀ p, p < w.heap.size → w'.heap[p]? = w.heap[p]? := fun p hp => m3.frame p hp (hnoOwn p)
        have hS : Stp w g h w' g h := {
          size := m3.size
          frame := fun p hp _ => hheap p hp
          shape := m3.shape
          fst := fun _ hp => hp
          fnew := fun _ hp => .inl hp
          own := fun _ hp => .inl hp
          gens := fun b n hn => ⟨n, hn, Nat.le_refl _, fun _ => rfl⟩
          tape := m3.tape
          os := m3.os
          output := m3.output }
        refine ⟨v, g, rfl, ⟨fun b x hx => BR.step hr hS hx rfl (hheap _ (hr.lt hx)) (fun hro hF => hr.notOwn hF ⟨b, x, hx, hro, rfl⟩), hr.inj, fun p hp => Nat.lt_of_lt_of_le (hr.lim p hp) m3.size, fun n cells hgl => ?_⟩, ?_, hS⟩
        · obtain ⟨hFn, c, e, fr, vs, q1, q2, q3⟩ := hr.glob n cells hgl
          exact ⟨hFn, c, e, fr, vs, (hS.fstays hr hFn).trans q1, q2.step hr hS, q3⟩
        · -- the value lies nowhere
          have hres : VR w' ⟨g'.φ, fun p => g'.F p ∨ ∃ i ∈ fz2, g'.φ i = p⟩ hs' res1 v := by
            split at hfrz
            · simp only [Option.some.injEq, Prod.mk.injEq] at hfrz
              obtain ⟨rfl, rfl⟩ := hfrz
              exact scal_fr m2 h5
            · exact .fr ((freeze_ok m1 (F' := fun p => g'.F p ∨ ∃ i ∈ fz2, g'.φ i = p) (fun p hp => .inl hp) 4096).1 _ _ _ _ hfrz m2 (fun b hb => .inr ⟨b, hb, rfl⟩))
          exact scal_fr hres h5
      · exact (fail_inv h4).elim
    · rcases hre2 : reach hs' 65536 (List.range ids.length) (((List.range ids.length).flatMap (ownRefs hs')) ++ refs res1) with _ | all <;> simp only [hre2] at h2
      · exact (fail_inv h2).elim
      rcases hup : updsOf hs' (backName ids (all.drop ids.length) base) fz2 all with _ | upd <;> simp only [hup] at h2
      · exact (fail_inv h2).elim
      obtain ⟨rfl, rfl⟩ := pure_inv h2
      obtain ⟨⟨rest, hall⟩, halln, -, -⟩ := reach_ok 65536 _ _ _ hre2 List.nodup_range
      have hdrop : all.drop ids.length = rest := by rw [hall, List.drop_left' (by simp)]
      have hcall := hc _ _ _ _ _ _ _ h1 ho w (g.loc ids fz) vs hrl hargs
      refine Calls.mono hcall ?_
      rintro e w' ⟨v, g', rfl, m1, m2, m3⟩
      obtain ⟨z1, z2, z3, z4⟩ := back_ok (fz2 := fz2) (keep := all.drop ids.length) (base := base) hr hn hfz hd hbl m1 m3 (by rw [hdrop]; exact hall) halln hfz2 hup
        (fun x hx hbx => hfresh x (by simp [hx]) hbx)
      refine ⟨v, _, rfl, z1, ?_, z2⟩
      have allOf : ∀ i c, backName ids (all.drop ids.length) base i = some c → i ∈ all := by
        intro i c hic
        rcases backName_cases hic with q1 | ⟨q1, k, q2, q3⟩
        · rw [hall]
          exact List.mem_append_left _ (List.mem_range.2 (List.getElem?_eq_some_iff.1 q1).1)
        · exact List.mem_of_mem_drop (List.mem_of_getElem? q2)
      split at hfrz
      · simp only [Option.some.injEq, Prod.mk.injEq] at hfrz
        obtain ⟨rfl, rfl⟩ := hfrz
        exact VR.rename' z4 (fun b c n hbc hg => z3 b c n hbc hg (allOf b c hbc)) m2
      · have hfr := (freeze_ok m1 (F' := (g.back g' fz2 all (backName ids (all.drop ids.length) base)).F) z4 4096).1 _ _ _ _ hfrz m2 (fun b hb => .inr ⟨b, hb, rfl⟩)
        rw [hfr.rename_id]
        exact .fr hfr
  · exact (fail_inv hb).elim

end
end Go.Am
end
noncomputable section
namespace Go.Am

section
variable {P : Program} {E : Env} (hE : EnvOK P E) {callF : CallF} (hD : DoCallOK P E callF) (hM : MonoC callF) {ops : Array Oper}

theorem Mono.holds {α : Type} {m : M α} (hm : Mono m) {t t' : Tr} {a : α} (h : m t = some (a, t')) (ho : t'.holds) : t.holds :=
  fun p hp => ho p (hm _ _ _ h p hp)

theorem wantedA_ok {o : Oper} {S S' : St} {wnt : Bool} {t t' : Tr} (hb : wantedA ops o S t = some ((wnt, S'), t')) (ho : t'.holds) :
    S' = S ∧ ∀ (w : World) (g : Gh) (a : Act), TR w g S.heap S.tmps a.tmps → Region.wanted o (yielded ops a.tmps) = wnt := by
  unfold wantedA at hb
  unfold Region.wanted
  rcases hg : o.guard with _ | ⟨j, want⟩ <;> simp only [hg] at hb
  · obtain ⟨h1, rfl⟩ := pure_inv hb
    simp only [Prod.mk.injEq] at h1
    obtain ⟨rfl, rfl⟩ := h1
    exact ⟨rfl, fun _ _ _ _ => rfl⟩
  · rcases hd : (ops[j]?).bind (·.dst) with _ | d <;> simp only [hd] at hb
    · obtain ⟨h1, rfl⟩ := pure_inv hb
      simp only [Prod.mk.injEq] at h1
      obtain ⟨rfl, rfl⟩ := h1
      refine ⟨rfl, fun w g a _ => ?_⟩
      simp [yielded, hd]
    · rcases hx : Tms.at S.tmps d with b | _ | _ | _ | _ | _ | _ | _ | _ | _ | _ | _ | _ | _ | _ | vs | _ | _ <;> simp only [hx] at hb <;> (try exact (fail_inv hb).elim)
      · obtain ⟨c, t1, h1, h2⟩ := bind_inv hb
        obtain ⟨h3, rfl⟩ := pure_inv h2
        simp only [Prod.mk.injEq] at h3
        obtain ⟨rfl, rfl⟩ := h3
        obtain ⟨rfl, -⟩ := decideB_inv h1 ho
        refine ⟨by rw [← hx, Tms.set_same], fun w g a ht => ?_⟩
        have h5 := ht.val d
        rw [hx] at h5
        have h6 := h5.bool
        rw [Array.getD_eq_getD_getElem?] at h6
        rcases h4 : a.tmps[d]? with _ | v
        · rw [h4] at h6; simp [undef] at h6
        · rw [h4] at h6
          simp only [Option.getD_some] at h6
          subst h6
          simp [yielded, hd, h4]
      · cases vs with
        | nil =>
          simp only at hb
          obtain ⟨h3, rfl⟩ := pure_inv hb
          simp only [Prod.mk.injEq] at h3
          obtain ⟨rfl, rfl⟩ := h3
          refine ⟨rfl, fun w g a ht => ?_⟩
          have h5 := ht.val d
          rw [hx] at h5
          obtain ⟨cs, h6, -⟩ := h5.tuple'
          rw [Array.getD_eq_getD_getElem?] at h6
          rcases h4 : a.tmps[d]? with _ | v
          · simp [yielded, hd, h4]
          · rw [h4] at h6
            simp only [Option.getD_some] at h6
            subst h6
            simp [yielded, hd, h4]
        | cons => exact (fail_inv hb).elim

theorem putT_rel {w : World} {g : Gh} {h : Heap} {tmps : Tms} {a : Act} {x : AV} {v : Value} (ht : TR w g h tmps a.tmps) (hx : VR w g h x v) (d : Option Tmp) :
    TR w g h (putT tmps d x) (a.put d v).tmps := by
  cases d with
  | none => exact ht
  | some d => exact ht.set hx d

theorem put_defers (a : Act) (d : Option Tmp) (v : Value) : (a.put d v).defers = a.defers := by cases d <;> rfl

/-- An operation's outcome, taken in. -/
theorem didPut_rel {w w' : World} {g g' : Gh} {S : St} {a : Act} {o : Oper} {d : Did} {v : Value} {ds : List Deferred} (hr : HR E w g S.heap) (ha : ActR w g S a)
    (hs : Stp w g S.heap w' g' (S.heap.puts d.upd)) (hv : VR w' g' (S.heap.puts d.upd) d.val v) (hds : DR w' g' (S.heap.puts d.upd) d.dfr ds) :
    ActR w' g' (didPut o d S) ({ a with defers := ds ++ a.defers }.put o.dst v) where
  tmps := putT_rel (a := { a with defers := ds ++ a.defers }) (ha.tmps.step hr hs) hv o.dst
  dfr := by rw [put_defers]; exact DR.append (ha.dfr.step hr hs) hds

theorem skip_rel {w : World} {g : Gh} {S : St} {a : Act} (ha : ActR w g S a) (d : Option Tmp) : ActR w g { S with tmps := putT S.tmps d (.tuple []) } (a.put d undef) where
  tmps := putT_rel ha.tmps (.fr (undef_rel w g.F)) d
  dfr := by rw [put_defers]; exact ha.dfr

theorem at_length (h : Heap) {n : Nat} (hn : h.length ≤ n) : h.at n = none := by
  rcases hx : h.at n with _ | x
  · rfl
  · have := Heap.at_lt hx; omega

include hE hD hM in
theorem opsA_ok {Q : Exit → Act → World → Prop} : ∀ (l : List Oper) (k : Nat), ops.toList.drop k = l → ∀ (S : St) (t : Tr) (S' : St) (t' : Tr), opsA E callF ops l S t = some (S', t') → t'.holds →
    ∀ (w : World) (g : Gh) (a : Act), HR E w g S.heap → ActR w g S a →
    (∀ w' g' a', HR E w' g' S'.heap → ActR w' g' S' a' → Stp w g S.heap w' g' S'.heap → Q .normal a' w') → wpOps P ops Q (List.range' k l.length) a w
  | [], k, hl, S, t, S', t', hb, ho, w, g, a, hr, ha, hQ => by
    obtain ⟨rfl, rfl⟩ := pure_inv hb
    simp only [List.length_nil, List.range'_zero, wpOps]
    exact hQ w g a hr ha (.refl w g S.heap)
  | o :: r, k, hl, S, t, S', t', hb, ho, w, g, a, hr, ha, hQ => by
    have hk : ops[k]? = some o := by
      rw [← Array.getElem?_toList, ← List.head?_drop, hl]; rfl
    have hl' : ops.toList.drop (k + 1) = r := by
      rw [← List.tail_drop, hl]; rfl
    unfold opsA at hb
    obtain ⟨⟨wnt, S1⟩, t1, h1, h2⟩ := bind_inv hb
    dsimp only at h2
    simp only [List.length_cons, List.range'_succ, wpOps, hk]
    split at h2
    · rename_i hw
      obtain ⟨d, t2, h3, h4⟩ := bind_inv h2
      have ho2 : t2.holds := (mono_opsA E hM ops r _).holds h4 ho
      have ho1 : t1.holds := (mono_opA E hM o _ _ S1).holds h3 ho2
      obtain ⟨rfl, hwnt⟩ := wantedA_ok h1 ho1
      rw [hwnt w g a ha.tmps, hw]
      simp only [if_true]
      left
      refine opA_ok hE hD h3 ho2 hr (at_length _ (Nat.le_refl _)) ha.tmps (fun x _ hx => at_length _ hx) (fun v w' g' ds m1 m2 m3 m4 => ?_)
      refine opsA_ok r (k + 1) hl' _ _ _ _ h4 ho w' g' _ m1 (didPut_rel hr ha m4 m2 m3) fun w'' g'' a'' n1 n2 n3 => hQ w'' g'' a'' n1 n2 (m4.trans n3)
    · rename_i hw
      have ho1 : t1.holds := (mono_opsA E hM ops r _).holds h2 ho
      obtain ⟨rfl, hwnt⟩ := wantedA_ok h1 ho1
      rw [hwnt w g a ha.tmps]
      have hw : wnt = false := by simpa using hw
      rw [hw]
      simp only [Bool.false_eq_true, if_false]
      exact opsA_ok r (k + 1) hl' _ _ _ _ h2 ho w g _ hr (skip_rel ha o.dst) hQ

end
end Go.Am
end
noncomputable section
namespace Go.Am

/-! ## Loops -/

def LoopWp (P : Program) (c : Code) (Q : Exit → Act → World → Prop) (a : Act) (w : World) : Prop :=
  ∀ (b : Frame) (k : List Item) (cs : List Frame), ∃ e a' w', Q e a' w' ∧ Arrives P (lone (b.at a (.code c :: .inLoop c :: k)) cs w) b k cs e a' w'

section
variable {P : Program} {Q : Exit → Act → World → Prop} {a : Act} {w : World} {c : Code}

theorem LoopWp.wp (h : LoopWp P c Q a w) : (Code.loop c).wp P Q a w := by
  intro b k cs
  obtain ⟨e, a', w', hq, harr⟩ := h b k cs
  exact ⟨e, a', w', hq, .of_steps (.one step_loop) harr⟩

theorem LoopWp.round (h : c.wp P (Exit.then (LoopWp P c Q) Q) a w) : LoopWp P c Q a w := by
  intro b k cs
  obtain ⟨e, a₁, w₁, hq, harr⟩ := h b (.inLoop c :: k) cs
  cases e with
  | normal =>
    obtain ⟨e₂, a₂, w₂, hq₂, harr₂⟩ := hq b k cs
    exact ⟨e₂, a₂, w₂, hq₂, .of_steps (Steps.trans harr (.one step_inLoop)) harr₂⟩
  | exit id => exact ⟨_, a₁, w₁, hq, .pass (x := .inLoop c) rfl (fun _ _ => .inl (by simp)) harr⟩
  | goto l => exact ⟨_, a₁, w₁, hq, .pass (x := .inLoop c) rfl (fun _ _ => .inl (by simp)) harr⟩
  | ret => exact ⟨_, a₁, w₁, hq, .pass (x := .inLoop c) rfl (fun _ _ => .inl (by simp)) harr⟩
  | panic ch => exact ⟨_, a₁, w₁, hq, .pass (x := .inLoop c) rfl (fun _ _ => .inl (by simp)) harr⟩
  | outgrown => exact ⟨_, a₁, w₁, hq, .pass (x := .inLoop c) rfl (fun _ _ => .inl (by simp)) harr⟩
end

def X.exit' : X → Exit
  | .normal => .normal
  | .exit id => .exit id
  | .ret => .ret

/-- What is shown of code's end. -/
def Post (E : Env) (S : St) (w : World) (g : Gh) (x : X) (S' : St) (Q : Exit → Act → World → Prop) : Prop :=
  ∀ w' g' a', HR E w' g' S'.heap → ActR w' g' S' a' → Stp w g S.heap w' g' S'.heap → Q x.exit' a' w'

/-- The judgement for a loop. -/
def LoopOK (P : Program) (E : Env) (c : Code) (S : St) (x : X) (S' : St) : Prop :=
  ∀ w g a Q, HR E w g S.heap → ActR w g S a → Post E S w g x S' Q → LoopWp P c Q a w

/-! ## Regions that leave their order open -/

/-- Each operation hangs on earlier ones; what it looks at, and what is laid in the region, it hangs on; no two lay the same. -/
def drawOK (ops : Array Oper) : Bool :=
  (List.range ops.size).all fun i => match ops[i]? with
    | none => true
    | some o => o.after.all (fun e => !Region.binds .any e || decide (e.on < i)) &&
      ((o.looksAt ops).all (fun t => (List.range ops.size).all fun j => decide ((ops[j]?).bind (·.dst) ≠ some t) || (((Region.before ops).getD i 0).testBit j || (((Region.before ops).getD j 0).testBit i || decide (j = i)))) &&
      (match o.dst with
       | none => true
       | some d => (List.range ops.size).all fun j => decide (j = i) || decide ((ops[j]?).bind (·.dst) ≠ some d)))

def codeDraws : Code → Bool
  | .region _ ops true => drawOK ops
  | .seq a b => codeDraws a && codeDraws b
  | .cond _ a b => codeDraws a && codeDraws b
  | .block _ c => codeDraws c
  | .loop c => codeDraws c
  | _ => true

def DrawsOK (P : Program) (E : Env) (callF : CallF) : Prop :=
  ∀ id ops S t S' t', drawOK ops = true → regionA E callF ops true S t = some (S', t') → t'.holds → ∀ w g a Q, HR E w g S.heap → ActR w g S a → Post E S w g .normal S' Q →
    (Code.region id ops true).wp P Q a w

section
variable {P : Program} {C : Ctx} (hE : EnvOK P C.E) (hD : DoCallOK P C.E C.callF) (hM : MonoC C.callF) (hDr : DrawsOK P C.E C.callF) (hL : ∀ c S x S', C.OKl c S x S' → LoopOK P C.E c S x S')
include hE hD hM hDr hL

theorem execA_ok : ∀ (c : Code) (S : St) (t : Tr) (x : X) (S' : St) (t' : Tr), codeDraws c = true → execA C c S t = some ((x, S'), t') → t'.holds → ∀ w g a Q, HR C.E w g S.heap → ActR w g S a →
    Post C.E S w g x S' Q → c.wp P Q a w
  | .skip, S, t, x, S', t', hd, hb, ho, w, g, a, Q, hr, ha, hQ => by
    obtain ⟨h1, rfl⟩ := pure_inv hb
    simp only [Prod.mk.injEq] at h1
    obtain ⟨rfl, rfl⟩ := h1
    exact wp_skip (hQ w g a hr ha (.refl w g S.heap))
  | .seq c1 c2, S, t, x, S', t', hd, hb, ho, w, g, a, Q, hr, ha, hQ => by
    simp only [codeDraws, Bool.and_eq_true] at hd
    unfold execA at hb
    obtain ⟨⟨x1, S1⟩, t1, h1, h2⟩ := bind_inv hb
    dsimp only at h2
    cases x1 with
    | normal =>
      have ho1 : t1.holds := (mono_execA C hM c2 S1).holds h2 ho
      refine wp_seq (execA_ok c1 S t _ S1 t1 hd.1 h1 ho1 w g a _ hr ha fun w1 g1 a1 m1 m2 m3 => ?_)
      exact execA_ok c2 S1 t1 x S' t' hd.2 h2 ho w1 g1 a1 Q m1 m2 fun w2 g2 a2 n1 n2 n3 => hQ w2 g2 a2 n1 n2 (m3.trans n3)
    | exit id =>
      obtain ⟨h3, rfl⟩ := pure_inv h2
      simp only [Prod.mk.injEq] at h3
      obtain ⟨rfl, rfl⟩ := h3
      exact wp_seq (execA_ok c1 S t _ S1 _ hd.1 h1 ho w g a _ hr ha fun w1 g1 a1 m1 m2 m3 => hQ w1 g1 a1 m1 m2 m3)
    | ret =>
      obtain ⟨h3, rfl⟩ := pure_inv h2
      simp only [Prod.mk.injEq] at h3
      obtain ⟨rfl, rfl⟩ := h3
      exact wp_seq (execA_ok c1 S t _ S1 _ hd.1 h1 ho w g a _ hr ha fun w1 g1 a1 m1 m2 m3 => hQ w1 g1 a1 m1 m2 m3)
  | .cond c c1 c2, S, t, x, S', t', hd, hb, ho, w, g, a, Q, hr, ha, hQ => by
    simp only [codeDraws, Bool.and_eq_true] at hd
    unfold execA at hb
    obtain ⟨b, t1, h1, h2⟩ := bind_inv hb
    have ho1 : t1.holds := by
      split at h2
      · exact (mono_execA C hM c1 S).holds h2 ho
      · exact (mono_execA C hM c2 S).holds h2 ho
    obtain ⟨h3, -⟩ := branch_inv h1 ho1
    have hc := evalO_rel ha.tmps c
    rw [h3] at hc
    refine wp_cond hc.bool ?_
    cases b with
    | true => exact execA_ok c1 S t1 x S' t' hd.1 h2 ho w g a Q hr ha hQ
    | false => exact execA_ok c2 S t1 x S' t' hd.2 h2 ho w g a Q hr ha hQ
  | .block id c, S, t, x, S', t', hd, hb, ho, w, g, a, Q, hr, ha, hQ => by
    simp only [codeDraws] at hd
    unfold execA at hb
    obtain ⟨⟨x1, S1⟩, t1, h1, h2⟩ := bind_inv hb
    dsimp only at h2
    cases x1 with
    | normal =>
      obtain ⟨h3, rfl⟩ := pure_inv h2
      simp only [Prod.mk.injEq] at h3
      obtain ⟨rfl, rfl⟩ := h3
      exact wp_block (execA_ok c S t _ S1 _ hd h1 ho w g a _ hr ha fun w1 g1 a1 m1 m2 m3 => hQ w1 g1 a1 m1 m2 m3)
    | exit j =>
      simp only at h2
      split at h2
      · rename_i hj
        obtain ⟨h3, rfl⟩ := pure_inv h2
        simp only [Prod.mk.injEq] at h3
        obtain ⟨rfl, rfl⟩ := h3
        refine wp_block (execA_ok c S t _ S1 _ hd h1 ho w g a _ hr ha fun w1 g1 a1 m1 m2 m3 => ?_)
        simp only [X.exit', Exit.inBlock, hj, if_true]
        exact hQ w1 g1 a1 m1 m2 m3
      · rename_i hj
        obtain ⟨h3, rfl⟩ := pure_inv h2
        simp only [Prod.mk.injEq] at h3
        obtain ⟨rfl, rfl⟩ := h3
        refine wp_block (execA_ok c S t _ S1 _ hd h1 ho w g a _ hr ha fun w1 g1 a1 m1 m2 m3 => ?_)
        simp only [X.exit', Exit.inBlock, hj, if_false]
        exact hQ w1 g1 a1 m1 m2 m3
    | ret =>
      obtain ⟨h3, rfl⟩ := pure_inv h2
      simp only [Prod.mk.injEq] at h3
      obtain ⟨rfl, rfl⟩ := h3
      exact wp_block (execA_ok c S t _ S1 _ hd h1 ho w g a _ hr ha fun w1 g1 a1 m1 m2 m3 => hQ w1 g1 a1 m1 m2 m3)
  | .loop c, S, t, x, S', t', hd, hb, ho, w, g, a, Q, hr, ha, hQ => by
    simp only [codeDraws] at hd
    unfold execA at hb
    have key : ∀ (n : Nat) (S : St) (t : Tr), loopA (C.OKl c) (execA C c) n S t = some ((x, S'), t') → ∀ w g a, HR C.E w g S.heap → ActR w g S a → Post C.E S w g x S' Q → LoopWp P c Q a w := by
      intro n
      induction n with
      | zero => intro S t hb; exact (fail_inv hb).elim
      | succ n ih =>
        intro S t hb w g a hr ha hQ
        unfold loopA at hb
        split at hb
        · rename_i x1 S1 r hn
          simp only [Option.some.injEq, Prod.mk.injEq] at hb
          obtain ⟨⟨rfl, rfl⟩, rfl⟩ := hb
          exact hL _ _ _ _ (ho _ (by simp)) w g a Q hr ha hQ
        · rename_i r hn
          split at hb
          · rename_i S1 t1 h1
            have ho1 : t1.holds := (mono_loopA (fun S => mono_execA C hM c S) n S1).holds hb ho
            refine LoopWp.round (execA_ok c S _ _ S1 t1 hd h1 ho1 w g a _ hr ha fun w1 g1 a1 m1 m2 m3 => ?_)
            exact ih S1 t1 hb w1 g1 a1 m1 m2 fun w2 g2 a2 n1 n2 n3 => hQ w2 g2 a2 n1 n2 (m3.trans n3)
          · rename_i hnn
            refine LoopWp.round (execA_ok c S _ x S' t' hd hb ho w g a _ hr ha fun w1 g1 a1 m1 m2 m3 => ?_)
            have hx : x ≠ .normal := by
              rintro rfl
              exact hnn _ _ hb
            cases x with
            | normal => exact absurd rfl hx
            | exit id => exact hQ w1 g1 a1 m1 m2 m3
            | ret => exact hQ w1 g1 a1 m1 m2 m3
        · cases hb
    exact (key _ _ _ hb w g a hr ha hQ).wp
  | .region id ops draw, S, t, x, S', t', hd, hb, ho, w, g, a, Q, hr, ha, hQ => by
    unfold execA at hb
    obtain ⟨S1, t1, h1, h2⟩ := bind_inv hb
    obtain ⟨h3, rfl⟩ := pure_inv h2
    simp only [Prod.mk.injEq] at h3
    obtain ⟨rfl, rfl⟩ := h3
    cases draw with
    | true => exact hDr id ops S t S1 _ hd h1 ho w g a Q hr ha hQ
    | false =>
      unfold regionA at h1
      simp only [Bool.false_eq_true, if_false] at h1
      refine wp_region ?_
      have := opsA_ok hE hD hM ops.toList 0 rfl S t S1 _ h1 ho w g a hr ha (Q := Q) hQ
      rw [List.range_eq_range']
      simpa using this
  | .exit id, S, t, x, S', t', hd, hb, ho, w, g, a, Q, hr, ha, hQ => by
    obtain ⟨h1, rfl⟩ := pure_inv hb
    simp only [Prod.mk.injEq] at h1
    obtain ⟨rfl, rfl⟩ := h1
    exact wp_exit (hQ w g a hr ha (.refl w g S.heap))
  | .ret, S, t, x, S', t', hd, hb, ho, w, g, a, Q, hr, ha, hQ => by
    obtain ⟨h1, rfl⟩ := pure_inv hb
    simp only [Prod.mk.injEq] at h1
    obtain ⟨rfl, rfl⟩ := h1
    exact wp_ret (hQ w g a hr ha (.refl w g S.heap))
  | .goto _, S, t, x, S', t', hd, hb, ho, w, g, a, Q, hr, ha, hQ => (fail_inv hb).elim
  | .label _, S, t, x, S', t', hd, hb, ho, w, g, a, Q, hr, ha, hQ => (fail_inv hb).elim
  | .rangeFunc .., S, t, x, S', t', hd, hb, ho, w, g, a, Q, hr, ha, hQ => (fail_inv hb).elim
  | .scope .., S, t, x, S', t', hd, hb, ho, w, g, a, Q, hr, ha, hQ => (fail_inv hb).elim
  | .refuse _, S, t, x, S', t', hd, hb, ho, w, g, a, Q, hr, ha, hQ => (fail_inv hb).elim

end
end Go.Am
end
noncomputable section
namespace Go.Am

section
variable {P : Program} {E : Env} (hE : EnvOK P E)

theorem undefs_rel (w : World) (g : Gh) (h : Heap) (n : Nat) : VRs w g h (List.replicate n (.tuple [])) (List.replicate n undef) := VRs.replicate (.fr (undef_rel w g.F)) n

theorem Tms.puts_spec {w : World} {g : Gh} {h : Heap} : ∀ (as : List AV) (vs : List Value) (i : Nat) (s : Tms) (a : Array Value), VRs w g h as vs → TR w g h s a →
    ∃ a', TR w g h (Tms.puts as i s) a' ∧ a'.size = a.size ∧ ∀ j, a'.getD j undef = if i ≤ j ∧ j < i + vs.length ∧ j < a.size then (vs[j - i]?).getD undef else a.getD j undef
  | [], _, i, s, a, .nil, ht => ⟨a, ht, rfl, fun j => by simp; intro h1 h2; omega⟩
  | x :: as, _, i, s, a, .cons (v := v) (vs := vs) hx hs, ht => by
    obtain ⟨a', h1, h2, h3⟩ := Tms.puts_spec as vs (i + 1) (Tms.set s i x) (a.setIfInBounds i v) hs (ht.set hx i)
    refine ⟨a', h1, by rw [h2, Array.size_setIfInBounds], fun j => ?_⟩
    rw [h3 j, Array.size_setIfInBounds]
    rcases Nat.lt_trichotomy j i with hj | hj | hj
    · rw [if_neg (by omega), if_neg (by omega), Array.getD_eq_getD_getElem?, Array.getD_eq_getD_getElem?, Array.getElem?_setIfInBounds_ne (by omega)]
    · subst hj
      rw [if_neg (by omega)]
      by_cases hn : j < a.size
      · rw [if_pos ⟨Nat.le_refl _, by simp, hn⟩]
        simp [hn]
      · rw [if_neg (by omega), Array.getD_eq_getD_getElem?, Array.getD_eq_getD_getElem?, Array.getElem?_eq_none (by simp; omega), Array.getElem?_eq_none (by omega)]
    · have e : j - i = (j - (i + 1)) + 1 := by omega
      by_cases hc : j < i + (v :: vs).length ∧ j < a.size
      · have : j < i + 1 + vs.length := by simp at hc; omega
        rw [if_pos ⟨by omega, this, hc.2⟩, if_pos ⟨by omega, hc⟩, e]
        simp
      · rw [if_neg (by simp at hc ⊢; intro _ h; exact hc (by omega)), if_neg (fun h => hc h.2), Array.getD_eq_getD_getElem?, Array.getD_eq_getD_getElem?, Array.getElem?_setIfInBounds_ne (by omega)]

/-- A frame at its beginning. A function has at least as many temporaries as it gets arguments. -/
theorem start_rel {w : World} {g : Gh} {h : Heap} {as : List AV} {vs : List Value} (hv : VRs w g h as vs) (n : Nat) (hn : vs.length ≤ n) :
    ActR w g { tmps := Tms.start n as, heap := h, defers := [] }
      { tmps := vs.toArray ++ Array.replicate (n - vs.toArray.size) undef, defers := [] } where
  tmps := by
    have h0 : TR w g h (.sk (Nat.log2 n + 1) n) (Array.replicate n undef) := {
      has := fun k => by
        rw [Tm.has_sk _ _ _ (by omega) Nat.lt_log2_self, Array.size_replicate]
        exact decide_eq_decide.2 (by omega)
      val := fun i => by
        show VR w g h ((Tm.sk (Nat.log2 n + 1) n).at (i + 1)) _
        rw [Tm.at_sk, Array.getD_eq_getD_getElem?, Array.getElem?_replicate]
        split <;> exact .fr (undef_rel w _) }
    obtain ⟨a', h1, h2, h3⟩ := Tms.puts_spec as vs 0 _ _ hv h0
    have e : a' = vs.toArray ++ Array.replicate (n - vs.toArray.size) undef := by
      have hsz : a'.size = n := by rw [h2, Array.size_replicate]
      refine Array.ext (by simp [hsz]; omega) fun j hj1 hj2 => ?_
      have := h3 j
      rw [Array.getD_eq_getD_getElem?, Array.getElem?_eq_getElem hj1, Option.getD_some, Array.size_replicate] at this
      rw [this]
      by_cases hj : j < vs.length
      · rw [if_pos ⟨Nat.zero_le _, by omega, by omega⟩]
        simp [hj]
      · rw [if_neg (by omega), Array.getD_eq_getD_getElem?, Array.getElem?_replicate, if_pos (by omega), Array.getElem_append_right (by simpa using hj)]
        simp
    rw [← e]
    exact h1
  dfr := .nil

theorem tmp_rel {w : World} {g : Gh} {h : Heap} {tmps : Tms} {a : Act} (ht : TR w g h tmps a.tmps) (t : Tmp) : VR w g h (Tms.at tmps t) (a.tmps.getD t undef) := ht.val t

include hE in
theorem resultA_ok {w : World} {g : Gh} {S : St} {a : Act} (hr : HR E w g S.heap) (ht : TR w g S.heap S.tmps a.tmps) : ∀ (l : List ResultVar) (t : Tr) (vs : List AV) (t' : Tr),
    resultA E S l t = some (vs, t') → t'.holds →
    ∃ us, (l.mapM (fun | .tmp t => pure (a.tmps.getD t undef) | .cell ad t => do loadVar t (← asAddr (a.tmps.getD ad undef)) : ResultVar → Sem Value)).run P w = .ok us w ∧ VRs w g S.heap vs us
  | [], t, vs, t', hb, ho => by
    obtain ⟨rfl, rfl⟩ := pure_inv hb
    exact ⟨[], rfl, .nil⟩
  | .tmp x :: r, t, vs, t', hb, ho => by
    unfold resultA at hb
    obtain ⟨vs1, t1, h1, h2⟩ := bind_inv hb
    obtain ⟨rfl, rfl⟩ := pure_inv h2
    obtain ⟨us, h3, h4⟩ := resultA_ok hr ht r t vs1 _ h1 ho
    refine ⟨a.tmps.getD x undef :: us, ?_, .cons (tmp_rel ht x) h4⟩
    rw [List.mapM_cons]
    simp only [Sem.run_bind, Sem.run_pure, Result.andThen_ok, h3]
  | .cell ad ty :: r, t, vs, t', hb, ho => by
    unfold resultA at hb
    obtain ⟨v1, t1, h1, h2⟩ := bind_inv hb
    obtain ⟨vs1, t2, h3, h4⟩ := bind_inv h2
    obtain ⟨rfl, rfl⟩ := pure_inv h4
    have ho1 : t1.holds := (mono_resultA E S r).holds h3 ho
    obtain ⟨us, h5, h6⟩ := resultA_ok hr ht r _ vs1 _ h3 ho
    have hx := tmp_rel ht ad
    obtain ⟨-, u, h7, h8⟩ := loadA_ok (P := P) hE hr hx h1 ho1
    have hptr : ∃ p, a.tmps.getD ad undef = .pointer (some p) := by
      unfold loadA at h1
      rcases hti : E.ti ty with _ | ti <;> rcases htg : target E S.heap (Tms.at S.tmps ad) with _ | ⟨cells, off⟩ <;> simp only [hti, htg] at h1
      · exact (fail_inv h1).elim
      · exact (fail_inv h1).elim
      · exact (fail_inv h1).elim
      · obtain ⟨p, vs, hv, -⟩ := target_ok hr hx htg
        exact ⟨p, hv⟩
    obtain ⟨p, hp⟩ := hptr
    rw [hp] at h7
    have h9 : (loadVar ty p).run P w = .ok u w := h7
    refine ⟨u :: us, ?_, .cons h8 h6⟩
    have e : (do loadVar ty (← asAddr (a.tmps.getD ad undef)) : Sem Value).run P w = .ok u w := by rw [hp]; exact h9
    rw [List.mapM_cons, Sem.run_bind]
    refine (congrArg (fun r => Result.andThen r _) e).trans ?_
    simp only [Sem.run_bind, Sem.run_pure, Result.andThen_ok, h5]

include hE in
theorem results_ok {w : World} {g : Gh} {S : St} {a : Act} {fn : Func} {l : List ResultVar} (hl : fn.results.toList = l) (hr : HR E w g S.heap) (ht : TR w g S.heap S.tmps a.tmps) {t t' : Tr} {vs : List AV}
    (hb : resultA E S l t = some (vs, t')) (ho : t'.holds) : ∃ v, (results fn a.tmps).run P w = .ok v w ∧ VR w g S.heap (one vs) v := by
  obtain ⟨us, h1, h2⟩ := resultA_ok hE hr ht l t vs t' hb ho
  have hrun : (results fn a.tmps).run P w = .ok (if h : us.toArray.size = 1 then us.toArray[0] else .tuple us.toArray) w := by
    unfold results
    rw [Array.mapM_eq_mapM_toList, hl]
    simp only [Sem.run_bind, Sem.run_map, Sem.run_pure]
    exact (congrArg (fun r => Result.andThen (Result.andThen r _) _) h1).trans rfl
  refine ⟨_, hrun, ?_⟩
  rcases h2 with _ | ⟨h3, _ | ⟨h4, h5⟩⟩
  · exact .tuple (cs := []) .nil
  · exact h3
  · rw [dif_neg (by simp)]
    exact .tuple (cs := _) (.cons h3 (.cons h4 h5))

theorem failC_ok : DoCallOK P E (fun _ _ _ => fail) := doCall_ok fun _ _ _ _ _ _ _ hb _ => (fail_inv hb).elim

/-- The tables are of code that can be run in any order that it leaves open. -/
def DrawTab (E : Env) : Prop := ∀ f i, E.fn f = some i → codeDraws i.body = true

end

section
variable {P : Program} {C : Ctx} (hE : EnvOK P C.E) (hT : DrawTab C.E) (hDr : ∀ callF, DoCallOK P C.E callF → MonoC callF → DrawsOK P C.E callF) (hL : ∀ c S x S', C.OKl c S x S' → LoopOK P C.E c S x S')
include hE hT hDr hL

theorem leaveA_ok {fn : Func} {tmps : Array Value} {R : Ending → World → Prop} : ∀ (l : List AV) (h : Heap) (t : Tr) (h' : Heap) (t' : Tr), leaveA C l h t = some (h', t') → t'.holds →
    ∀ (w : World) (g : Gh) (ds : List Deferred), HR C.E w g h → DR w g h l ds → (∀ w' g', HR C.E w' g' h' → Stp w g h w' g' h' → Leaves P fn tmps R [] .returning w') → Leaves P fn tmps R ds .returning w
  | [], h, t, h', t', hb, ho, w, g, ds, hr, hd, hQ => by
    obtain ⟨rfl, rfl⟩ := pure_inv hb
    cases hd
    exact hQ w g hr (.refl w g h)
  | a :: r, h, t, h', t', hb, ho, w, g, ds, hr, hd, hQ => by
    cases hd with
    | cons hs hrest =>
      rename_i f vs cs ds
      simp only [leaveA] at hb
      rcases hf : C.E.fn f with _ | fi <;> simp only [hf] at hb
      · exact (fail_inv hb).elim
      split at hb
      · exact (fail_inv hb).elim
      rename_i hlen
      have hlen : cs.length ≤ fi.ntmps := by
        rw [← hs.length]
        exact Nat.le_of_ble_eq_true (by simpa using hlen)
      obtain ⟨⟨x, S⟩, t1, h1, h2⟩ := bind_inv hb
      dsimp only at h2
      obtain ⟨fn', e1, e2, e3, e4, -⟩ := hE.fn f fi hf
      have fin : (if S.defers.isEmpty && fi.results.isEmpty then leaveA C r S.heap else fail) t1 = some (h', t') → x.exit' = .normal ∨ x.exit' = .ret → Leaves P fn tmps R ({ target := .fn (.func f) cs.toArray, args := #[] } :: ds) .returning w := by
        intro h2 hx
        split at h2
        · rename_i hemp
          simp only [Bool.and_eq_true, List.isEmpty_iff] at hemp
          have ho1 : t1.holds := (mono_leaveA C r S.heap).holds h2 ho
          refine leaves_cons (f := f) (args := #[] ++ cs.toArray) (by simp) (by simp only [invoke]; exact enter_run hE hf _ w) ?_
          have hst := start_rel hs fi.ntmps hlen
          have he : (#[] ++ cs.toArray : Array Value) = cs.toArray := by simp
          rw [he]
          have hexec := execA_ok (C := { C with callF := fun _ _ _ => fail }) hE failC_ok (fun _ _ _ => .fail) (hDr _ failC_ok (fun _ _ _ => .fail)) hL fi.body _ _ _ _ _ (hT f fi hf) h1 ho1 w g _
            (bodyPost P fn' fun e w' => (∃ v, e = .returned v) ∧ ∃ g', HR C.E w' g' S.heap ∧ Stp w g h w' g' S.heap) hr hst (fun w' g' a' m1 m2 m3 => by
              have hd0 : a'.defers = [] := by
                have := m2.dfr
                rw [hemp.1] at this
                cases hdd : a'.defers with
                | nil => rfl
                | cons d ds => rw [hdd] at this; cases this
              have hres : fn'.results = #[] := by
                have : fn'.results.toList = [] := by rw [e4, hemp.2]
                simpa using this
              have hrr := results_none hres a'.tmps P w'
              rcases hx with hx | hx <;> rw [hx]
              · exact ⟨hd0, _, hrr, ⟨_, rfl⟩, g', m1, m3⟩
              · exact ⟨hd0, _, hrr, ⟨_, rfl⟩, g', m1, m3⟩)
          have hcd := callsD_of_wp (P := P) (u := .returning) e1 e2 (by rw [e3]; exact hexec)
          refine CallsD.mono hcd ?_
          rintro e u' w' ⟨rfl, ⟨v, rfl⟩, g', m1, m2⟩
          exact leaveA_ok r S.heap t1 h' t' h2 ho w' g' ds m1 (hrest.step hr m2) fun w'' g'' n1 n2 => hQ w'' g'' n1 (m2.trans n2)
        · exact (fail_inv h2).elim
      cases x with
      | exit id => exact (fail_inv h2).elim
      | normal => exact fin h2 (.inl rfl)
      | ret => exact fin h2 (.inr rfl)

end
end Go.Am
end
noncomputable section
namespace Go.Am

section
variable {P : Program} {C : Ctx} (hE : EnvOK P C.E) (hT : DrawTab C.E) (hDr : ∀ callF, DoCallOK P C.E callF → MonoC callF → DrawsOK P C.E callF) (hL : ∀ c S x S', C.OKl c S x S' → LoopOK P C.E c S x S')
include hE hT hDr hL

/-- A function's body. -/
theorem bodyA_ok (hc : CallOK P C.E C.callF) (hM : MonoC C.callF) {f : Nat} {fi : FI} (hf : C.E.fn f = some fi) {args : List AV} {h h' : Heap} {r : AV} {t t' : Tr}
    (hb : bodyA C fi args h t = some ((r, h'), t')) (ho : t'.holds) : OK P C.E f args h r h' := by
  intro w g vs hr hv
  unfold bodyA at hb
  split at hb
  · exact (fail_inv hb).elim
  rename_i hlen
  have hlen : vs.length ≤ fi.ntmps := by
    rw [← hv.length]
    exact Nat.le_of_ble_eq_true (by simpa using hlen)
  obtain ⟨⟨x, S⟩, t1, h1, h2⟩ := bind_inv hb
  dsimp only at h2
  obtain ⟨fn, e1, e2, e3, e4, -⟩ := hE.fn f fi hf
  have hD : DoCallOK P C.E C.callF := doCall_ok hc
  have fin : (do
      let h' ← leaveA C S.defers S.heap
      let vs ← resultA C.E { S with heap := h' } fi.results
      pure (one vs, h') : M (AV × Heap)) t1 = some ((r, h'), t') → x.exit' = .normal ∨ x.exit' = .ret → Calls P f vs.toArray w (Comes' P C.E w g h r h') := by
    intro h2 hx
    obtain ⟨h3, t2, k1, k2⟩ := bind_inv h2
    obtain ⟨rs, t3, k3, k4⟩ := bind_inv k2
    obtain ⟨k5, rfl⟩ := pure_inv k4
    simp only [Prod.mk.injEq] at k5
    obtain ⟨rfl, rfl⟩ := k5
    have ho2 : t2.holds := (mono_resultA C.E _ fi.results).holds k3 ho
    have ho1 : t1.holds := (mono_leaveA C S.defers S.heap).holds k1 ho2
    refine calls_of_wp_defers e1 e2 ?_
    rw [e3]
    refine execA_ok hE hD hM (hDr _ hD hM) hL fi.body _ _ _ _ _ (hT f fi hf) h1 ho1 w g _ _ hr (start_rel hv fi.ntmps hlen) fun w1 g1 a1 m1 m2 m3 => ?_
    have : Leaves P fn a1.tmps (Comes' P C.E w g h (one rs) h3) a1.defers .returning w1 := by
      refine leaveA_ok hE hT hDr hL S.defers S.heap t1 h3 t2 k1 ho2 w1 g1 a1.defers m1 m2.dfr fun w2 g2 n1 n2 => ?_
      obtain ⟨v, q1, q2⟩ := results_ok (S := { S with heap := h3 }) hE e4 n1 (m2.tmps.step m1 n2) k3 ho
      exact ⟨v, q1, v, g2, rfl, n1, q2, m3.trans n2⟩
    rcases hx with hx | hx <;> rw [hx] <;> exact this
  cases x with
  | exit id => exact (fail_inv h2).elim
  | normal => exact fin h2 (.inl rfl)
  | ret => exact fin h2 (.inr rfl)

end

theorem callVia_ok {P : Program} {E : Env} {callF : CallF} (h : CallOK P E callF) : CallOK P E (callVia (OK P E) callF) := by
  intro f args hp t r h' t' hb ho
  unfold callVia at hb
  split at hb
  · exact h f args hp _ r h' t' hb ho
  · simp only [Option.some.injEq, Prod.mk.injEq] at hb
    obtain ⟨⟨rfl, rfl⟩, rfl⟩ := hb
    exact ho _ (by simp)
  · cases hb

/-- WHAT THE EXECUTOR RECKONS, THE MACHINE DOES. -/
theorem callN_ok {P : Program} {E : Env} (hE : EnvOK P E) (hT : DrawTab E) (hDr : ∀ callF, DoCallOK P E callF → MonoC callF → DrawsOK P E callF)
    (hS : ∀ f args v, shortOf E f args = some v → ∀ h, OK P E f args h v h) (n : Nat) : ∀ k, CallOK P E (callN (OK P E) (LoopOK P E) E n k)
  | 0 => callVia_ok fun _ _ _ _ _ _ _ hb _ => (fail_inv hb).elim
  | k + 1 => by
    refine callVia_ok fun f args h t r h' t' hb ho => ?_
    rcases hs : shortOf E f args with _ | v <;> simp only [hs] at hb
    rotate_left
    · obtain ⟨h1, -⟩ := pure_inv hb
      simp only [Prod.mk.injEq] at h1
      obtain ⟨rfl, rfl⟩ := h1
      exact hS f args _ hs h
    rcases hf : E.fn f with _ | fi <;> simp only [hf] at hb
    · exact (fail_inv hb).elim
    · exact bodyA_ok (C := ⟨E, callN (OK P E) (LoopOK P E) E n k, n, LoopOK P E⟩) hE hT hDr (fun _ _ _ _ hh => hh) (callN_ok hE hT hDr hS n k) (mono_callN _ _ E n k) hf hb ho

end Go.Am
end
