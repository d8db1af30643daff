/-
  Part of the proof of TopDays: lemmas that the others lean on.
-/
import Derived.Test.YtmekaipcoghlfaaGreatDoorAd
import Derived.Test.YtmekaipcoghlfaaGreatDoorAa
import Derived.Laws.Externs
import Derived.ChangeKeysEq
set_option linter.all false
set_option linter.unusedVariables false
set_option linter.unusedSimpArgs false
noncomputable section
namespace Go.Am

/-! ## What an operation's outcome hangs on -/

section
variable {E : Env} {h h' : Heap}

/-- The same lies at some places. -/
def Agree (h h' : Heap) (l : List Nat) : Prop := ∀ b ∈ l, h'.at b = h.at b

theorem mem_local {b gen : Nat} (hb : h'.at b = h.at b) : h'.mem b gen = h.mem b gen := by unfold Heap.mem; rw [hb]
theorem holdsA_local {b gen : Nat} (hb : h'.at b = h.at b) : holdsA h' b gen = holdsA h b gen := by unfold holdsA; rw [hb]

theorem target_local {x : AV} (hx : Agree h h' (refs x)) : target E h' x = target E h x := by
  cases x <;> simp only [target]
  rename_i b gen off
  rw [mem_local (hx b (by simp [refs]))]

theorem contents_local {x : AV} (hx : Agree h h' (refs x)) : contents h' x = contents h x := by
  cases x <;> simp only [contents]
  rename_i b gen off esz len full
  rw [mem_local (hx b (by simp [refs]))]

theorem loadA_local {t : Nat} {x : AV} (hx : Agree h h' (refs x)) : loadA E h' t x = loadA E h t x := by
  unfold loadA; rw [target_local hx]

theorem storeA_local {t : Nat} {x v : AV} (hx : Agree h h' (refs x)) : storeA E h' t x v = storeA E h t x v := by
  unfold storeA
  rcases E.ti t with _ | ti
  · rfl
  cases x <;> (try rfl)
  rename_i b gen off
  simp only [mem_local (hx b (by simp [refs]))]

theorem nextA_local {x : AV} (hx : Agree h h' (refs x)) : nextA h' x = nextA h x := by
  unfold nextA
  cases x <;> (try rfl)
  rename_i b gen off
  have := hx b (by simp [refs])
  cases gen <;> cases off <;> simp only [this]

theorem unsafeStringA_local {t : Nat} {x n : AV} (hx : Agree h h' (refs x)) : unsafeStringA E h' t x n = unsafeStringA E h t x n := by
  unfold unsafeStringA
  cases x <;> (try rfl)
  rename_i b gen off
  simp only [mem_local (hx b (by simp [refs]))]

theorem copyA_local {t : Nat} {d s : AV} (hd : Agree h h' (refs d)) (hs : Agree h h' (refs s)) : copyA E h' t d s = copyA E h t d s := by
  unfold copyA
  rw [contents_local hs]
  cases d with
  | mslice b gen off esz len full => simp only [mem_local (hd b (by simp [refs]))]
  | fslice c e l f n => cases l <;> rfl
  | _ => rfl

theorem convertA_local {s d : Nat} {x : AV} (hx : Agree h h' (refs x)) : convertA E h' s d x = convertA E h s d x := by
  have hc := contents_local hx
  unfold convertA
  cases x with
  | ptr b gen off =>
    have e : ∀ p, wholeA E h' p b gen off = wholeA E h p b gen off := fun p => by
      unfold wholeA
      rcases E.ti p with _ | pi
      · rfl
      · simp only [mem_local (hx b (by simp [refs]))]
    simp only [e]
  | _ => first | rfl | simp only [hc]

theorem sliceA_local {t : Nat} {x : AV} {lo hi mx : Option AV} (hx : Agree h h' (sliceRefs x)) : sliceA E h' t x lo hi mx = sliceA E h t x lo hi mx := by
  unfold sliceA
  cases x with
  | ptr b gen off =>
    cases mx with
    | none => simp only [mem_local (hx b (by simp [sliceRefs]))]
    | some m => rfl
  | _ => rfl

theorem appendA_local {t slot : Nat} {s x : AV} (hs : Agree h h' (refs s)) (hx : Agree h h' (refs x)) : appendA E h' t slot s x = appendA E h t slot s x := by
  have h1 := contents_local hx
  have h2 := contents_local hs
  unfold appendA
  cases s with
  | mslice b gen off esz len full =>
    have h3 := mem_local (gen := gen) (hs b (by simp [refs]))
    cases full <;> simp only [h1, h2, roomOf, h3]
  | fslice c e l f n => cases f <;> simp only [h1, h2, roomOf]
  | _ => simp only [h1, h2, roomOf]

theorem eqOp_local {t : Nat} {x y : Operand} {a b : AV} (ha : Agree h h' (refs (unfz a))) : eqOp E h' t x y a b = eqOp E h t x y a b := by
  have key : ∀ p gen, p ∈ refs (unfz a) → holdsA h' p gen = holdsA h p gen := fun p gen hp => holdsA_local (ha p hp)
  unfold eqOp
  generalize unfz a = ua at key
  generalize unfz b = ub
  rcases E.ti t with _ | ti
  · rfl
  dsimp only
  cases ua with
  | ptr p gen off =>
    have := key p gen (List.mem_singleton.2 rfl)
    generalize ti.desc = dd
    cases dd <;> cases ub <;> first | rfl | simp only [this]
  | mslice p gen off esz len full =>
    have := key p gen (List.mem_singleton.2 rfl)
    generalize ti.desc = dd
    cases dd <;> cases ub <;> first | rfl | simp only [this]
  | _ =>
    generalize ti.desc = dd
    cases dd <;> cases ub <;> (try rfl)
    all_goals (rename_i t1 v1 bb t2 v2; cases v1 <;> cases v2 <;> rfl)

theorem binOpA_local {op : BinOp} {t : Nat} {x y : Operand} {a b : AV} (ha : Agree h h' (refs (unfz a))) : binOpA E h' op t x y a b = binOpA E h op t x y a b := by
  unfold binOpA
  rw [eqOp_local ha]

end
end Go.Am
end
noncomputable section
namespace Go.Am

section
variable {h h' : Heap}

theorem Agree.mono {l l' : List Nat} (hg : Agree h h' l) (hs : ∀ b ∈ l', b ∈ l) : Agree h h' l' := fun b hb => hg b (hs b hb)

theorem freeze_local : ∀ (n : Nat),
    (∀ (a a' : AV) (bs : List Nat), freeze h n a = some (a', bs) → Agree h h' bs → freeze h' n a = some (a', bs)) ∧
    (∀ (as as' : List AV) (bs : List Nat), freeze.freezeL h n as = some (as', bs) → Agree h h' bs → freeze.freezeL h' n as = some (as', bs))
  | 0 => ⟨fun a a' bs hf => by simp [freeze] at hf, fun as as' bs hf => by simp [freeze.freezeL] at hf⟩
  | n + 1 => by
    obtain ⟨ih1, ih2⟩ := freeze_local n
    have cellsF : ∀ {cells : List AV} {pr : Bool} {cs : List AV} {bs' : List Nat}, (if pr then some (cells, []) else freeze.freezeL h n cells) = some (cs, bs') → Agree h h' bs' →
        (if pr then some (cells, []) else freeze.freezeL h' n cells) = some (cs, bs') := by
      intro cells pr cs bs' hc hg
      split at hc
      · rename_i hp; rw [if_pos hp]; exact hc
      · rename_i hp; rw [if_neg hp]; exact ih2 _ _ _ hc hg
    refine ⟨fun a a' bs hf hg => ?_, fun as as' bs hf hg => ?_⟩
    · cases a with
      | ptr b gen off =>
        simp only [freeze] at hf ⊢
        rcases hm : h.mem b gen with _ | ⟨cells, e, ro, pr⟩ <;> simp only [hm] at hf
        · cases hf
        rcases hc : (if pr then some (cells, []) else freeze.freezeL h n cells) with _ | ⟨cs, bs'⟩ <;> simp only [hc] at hf
        · cases hf
        simp only [Option.some.injEq, Prod.mk.injEq] at hf
        obtain ⟨rfl, rfl⟩ := hf
        rw [mem_local (hg b (by simp)), hm]
        simp only [cellsF hc (hg.mono fun x hx => List.mem_cons_of_mem _ hx)]
      | mslice b gen off esz len full =>
        simp only [freeze] at hf ⊢
        rcases hm : h.mem b gen with _ | ⟨cells, e, ro, pr⟩ <;> simp only [hm] at hf
        · cases hf
        rcases hc : (if pr then some (cells, []) else freeze.freezeL h n cells) with _ | ⟨cs, bs'⟩ <;> simp only [hc] at hf
        · cases hf
        rcases hd : cellsAt cs off (len * esz) with _ | cs' <;> simp only [hd] at hf
        · cases hf
        simp only [Option.some.injEq, Prod.mk.injEq] at hf
        obtain ⟨rfl, rfl⟩ := hf
        rw [mem_local (hg b (by simp)), hm]
        simp only [cellsF hc (hg.mono fun x hx => List.mem_cons_of_mem _ hx), hd]
      | iface t x =>
        simp only [freeze] at hf ⊢
        rcases hx : freeze h n x with _ | ⟨x', bs'⟩ <;> simp only [hx] at hf
        · cases hf
        simp only [Option.some.injEq, Prod.mk.injEq] at hf
        obtain ⟨rfl, rfl⟩ := hf
        rw [ih1 _ _ _ hx hg]
      | func f xs =>
        simp only [freeze] at hf ⊢
        rcases hx : freeze.freezeL h n xs with _ | ⟨x', bs'⟩ <;> simp only [hx] at hf
        · cases hf
        simp only [Option.some.injEq, Prod.mk.injEq] at hf
        obtain ⟨rfl, rfl⟩ := hf
        rw [ih2 _ _ _ hx hg]
      | agg xs =>
        simp only [freeze] at hf ⊢
        rcases hx : freeze.freezeL h n xs with _ | ⟨x', bs'⟩ <;> simp only [hx] at hf
        · cases hf
        simp only [Option.some.injEq, Prod.mk.injEq] at hf
        obtain ⟨rfl, rfl⟩ := hf
        rw [ih2 _ _ _ hx hg]
      | tuple xs =>
        simp only [freeze] at hf ⊢
        rcases hx : freeze.freezeL h n xs with _ | ⟨x', bs'⟩ <;> simp only [hx] at hf
        · cases hf
        simp only [Option.some.injEq, Prod.mk.injEq] at hf
        obtain ⟨rfl, rfl⟩ := hf
        rw [ih2 _ _ _ hx hg]
      | junk => simp [freeze] at hf
      | _ => simp only [freeze] at hf ⊢; exact hf
    · cases as with
      | nil => simp only [freeze.freezeL] at hf ⊢; exact hf
      | cons a r =>
        simp only [freeze.freezeL] at hf ⊢
        rcases hx : freeze h n a with _ | ⟨x', bs'⟩ <;> rcases hy : freeze.freezeL h n r with _ | ⟨y', cs'⟩ <;> simp only [hx, hy] at hf
        · cases hf
        · cases hf
        · cases hf
        simp only [Option.some.injEq, Prod.mk.injEq] at hf
        obtain ⟨rfl, rfl⟩ := hf
        rw [ih1 _ _ _ hx (hg.mono fun x hx => List.mem_append_left _ hx), ih2 _ _ _ hy (hg.mono fun x hx => List.mem_append_right _ hx)]

theorem prep_local {look : Bool} : ∀ (as : List AV) (ks : List Bool) (as' : List AV) (fz kept : List Nat), prep h look ks as = some (as', fz, kept) → Agree h h' fz →
    prep h' look ks as = some (as', fz, kept)
  | [], ks, as', fz, kept, hb, _ => by
    unfold prep at hb ⊢; exact hb
  | a :: r, ks, as', fz, kept, hb, hg => by
    unfold prep at hb ⊢
    rcases hp : prep h look ks.tail r with _ | ⟨r', fz', kept'⟩ <;> simp only [hp] at hb
    · cases hb
    split at hb
    · rename_i hc
      simp only [Option.some.injEq, Prod.mk.injEq] at hb
      obtain ⟨rfl, rfl, rfl⟩ := hb
      rw [prep_local r _ _ _ _ hp hg]
      simp only [hc, if_true]
    · rename_i hc
      rcases hf : freeze h 4096 a with _ | ⟨a', bs⟩ <;> simp only [hf] at hb
      · cases hb
      simp only [Option.some.injEq, Prod.mk.injEq] at hb
      obtain ⟨rfl, rfl, rfl⟩ := hb
      rw [prep_local r _ _ _ _ hp (hg.mono fun x hx => List.mem_append_right _ hx)]
      simp only [hc, (freeze_local 4096).1 _ _ _ hf (hg.mono fun x hx => List.mem_append_left _ hx)]
      rfl

theorem reach_seen : ∀ (n : Nat) (seen work ids : List Nat), reach h n seen work = some ids → ∀ b ∈ seen, b ∈ ids
  | 0, _, _, _, hb => by simp [reach] at hb
  | n + 1, seen, [], ids, hb => by
    simp only [reach, Option.some.injEq] at hb
    subst hb; exact fun b hb => hb
  | n + 1, seen, c :: r, ids, hb => by
    simp only [reach] at hb
    split at hb
    · exact reach_seen n _ _ _ hb
    · split at hb
      · exact fun b hb' => reach_seen n _ _ _ hb b (List.mem_append_left _ hb')
      · exact fun b hb' => reach_seen n _ _ _ hb b (List.mem_append_left _ hb')
      · cases hb

theorem reach_local : ∀ (n : Nat) (seen work ids : List Nat), reach h n seen work = some ids → Agree h h' ids → reach h' n seen work = some ids
  | 0, _, _, _, hb, _ => by simp [reach] at hb
  | n + 1, seen, [], ids, hb, _ => by
    simp only [reach] at hb ⊢; exact hb
  | n + 1, seen, c :: r, ids, hb, hg => by
    simp only [reach] at hb ⊢
    split at hb
    · rename_i hc
      rw [if_pos hc]
      exact reach_local n _ _ _ hb hg
    · rename_i hc
      rw [if_neg hc]
      split at hb
      · rename_i cells e gn ro pr hm
        have hcid : c ∈ ids := reach_seen n _ _ _ hb c (by simp)
        rw [hg c hcid, hm]
        exact reach_local n _ _ _ hb hg
      · rename_i s p hm
        have hcid : c ∈ ids := reach_seen n _ _ _ hb c (by simp)
        rw [hg c hcid, hm]
        exact reach_local n _ _ _ hb hg
      · cases hb

theorem blksOf_local {f : Nat → Option Nat} : ∀ (l : List Nat), Agree h h' l → blksOf h' f l = blksOf h f l
  | [], _ => rfl
  | b :: r, hg => by
    unfold blksOf
    rw [hg b (by simp), blksOf_local r (hg.mono fun x hx => List.mem_cons_of_mem _ hx)]

theorem markAll_local : ∀ (l : List Nat), Agree h h' l → markAll h' l = markAll h l
  | [], _ => rfl
  | b :: r, hg => by
    unfold markAll
    rw [hg b (by simp), markAll_local r (hg.mono fun x hx => List.mem_cons_of_mem _ hx)]

variable {E : Env} {callF : CallF}

theorem bind_local {α β : Type} {m m' : M α} {f f' : α → M β} {t t'' : Tr} {b : β} (h : (m >>= f) t = some (b, t''))
    (hm : ∀ a t', m t = some (a, t') → f a t' = some (b, t'') → m' t = some (a, t') ∧ f' a t' = some (b, t'')) : (m' >>= f') t = some (b, t'') := by
  obtain ⟨a, t', h1, h2⟩ := bind_inv h
  obtain ⟨h3, h4⟩ := hm a t' h1 h2
  show M.bind m' f' t = _
  unfold M.bind
  rw [h3]
  exact h4

theorem doCall_local {f : Nat} {args : List AV} {base : Nat} {t t' : Tr} {c : Called} (hb : doCall E callF f args h base t = some (c, t')) (hg : Agree h h' c.rd) :
    doCall E callF f args h' base t = some (c, t') := by
  unfold doCall at hb ⊢
  dsimp only at hb ⊢
  rcases hp : prep h (E.mode f).look (E.mode f).keep args with _ | ⟨args1, fz, kept⟩ <;> simp only [hp] at hb
  · exact (fail_inv hb).elim
  rcases hre : reach h 65536 [] kept with _ | ids <;> simp only [hre] at hb
  · exact (fail_inv hb).elim
  split at hb
  · rename_i hdj
    rcases hbl : blksOf h (fun b => idxOf b ids 0) ids with _ | hs <;> simp only [hbl] at hb
    · exact (fail_inv hb).elim
    obtain ⟨⟨res, hs'⟩, t1, h1, h2⟩ := bind_inv hb
    dsimp only at h2
    have hrd : c.rd = fz ++ ids ∨ (c.rd = fz ∧ ids = []) := by
      rcases hfrz : (if (E.mode f).own then some (res, []) else freeze hs' 4096 res) with _ | ⟨res1, fz2⟩ <;> simp only [hfrz] at h2
      · exact (fail_inv h2).elim
      split at h2
      · obtain ⟨u, t2, h3, h4⟩ := bind_inv h2
        split at h4
        · rename_i hl0
          have hl0 := Nat.eq_of_beq_eq_true hl0
          obtain ⟨rfl, rfl⟩ := pure_inv h4
          exact .inr ⟨rfl, List.length_eq_zero_iff.1 hl0⟩
        · exact (fail_inv h4).elim
      · rcases hall : reach hs' 65536 (List.range ids.length) (((List.range ids.length).flatMap (ownRefs hs')) ++ refs res1) with _ | all <;> simp only [hall] at h2
        · exact (fail_inv h2).elim
        rcases hu : updsOf hs' (backName ids (all.drop ids.length) base) fz2 all with _ | upd <;> simp only [hu] at h2
        · exact (fail_inv h2).elim
        obtain ⟨rfl, rfl⟩ := pure_inv h2
        exact .inl rfl
    have hgf : Agree h h' fz := hg.mono fun b hb => by rcases hrd with hrd | ⟨hrd, -⟩ <;> rw [hrd] <;> simp [hb]
    have hgi : Agree h h' ids := by
      rcases hrd with hrd | ⟨-, rfl⟩
      · exact hg.mono fun b hb => by rw [hrd]; simp [hb]
      · intro b hb; simp at hb
    rw [prep_local _ _ _ _ _ hp hgf]
    dsimp only
    rw [reach_local _ _ _ _ hre hgi]
    dsimp only
    rw [if_pos hdj, blksOf_local _ hgi, hbl, markAll_local _ hgf]
    exact hb
  · exact (fail_inv hb).elim

end
end Go.Am
end
noncomputable section
namespace Go.Am

section
variable {E : Env} {callF : CallF}

theorem map_evalO {tmps tmps' : Tms} : ∀ (l : List Operand), (∀ x ∈ l, evalO tmps' x = evalO tmps x) → l.map (evalO tmps') = l.map (evalO tmps) :=
  fun l h => List.map_congr_left h

theorem parts_evalO {tmps tmps' : Tms} (ps : Array (Nat × Operand)) (h : ∀ x ∈ ps.toList.map (·.2), evalO tmps' x = evalO tmps x) : parts (evalO tmps') ps = parts (evalO tmps) ps := by
  unfold parts
  refine List.map_congr_left fun p hp => ?_
  obtain ⟨i, x⟩ := p
  simp only [h x (List.mem_map.2 ⟨(i, x), hp, rfl⟩)]

theorem callA_congr {c : Call} {slot base : Nat} {tmps tmps' : Tms} {h : Heap} {df df' : List AV} (hx : ∀ x ∈ c.operands.toList, evalO tmps' x = evalO tmps x) :
    callA E callF c slot base ⟨tmps', h, df'⟩ = callA E callF c slot base ⟨tmps, h, df⟩ := by
  have ha : c.args.toList.map (evalO tmps') = c.args.toList.map (evalO tmps) := map_evalO _ fun x hm => hx x (by simp only [Call.operands, Array.toList_append, List.mem_append]; exact .inr hm)
  unfold callA
  rcases hc : c.callee with f | ⟨r, n⟩ | b <;> simp only [ha]
  · rw [hx f (by simp [Call.operands, hc])]
  · rw [hx r (by simp [Call.operands, hc])]

theorem deferA_congr {c : Call} {tmps tmps' : Tms} {h : Heap} {df df' : List AV} (hx : ∀ x ∈ c.operands.toList, evalO tmps' x = evalO tmps x) :
    deferA c ⟨tmps', h, df'⟩ = deferA c ⟨tmps, h, df⟩ := by
  unfold deferA
  rcases hc : c.callee with f | ⟨r, n⟩ | b <;> simp only
  rw [hx f (by simp [Call.operands, hc])]

theorem opA_congr {o : Oper} {slot base : Nat} {tmps tmps' : Tms} {h : Heap} {df df' : List AV} (hx : ∀ x ∈ o.op.operands.toList, evalO tmps' x = evalO tmps x) :
    opA E callF o slot base ⟨tmps', h, df'⟩ = opA E callF o slot base ⟨tmps, h, df⟩ := by
  obtain ⟨dst, op, type, pos, after, guard⟩ := o
  unfold opA
  cases op <;> simp only [Op.operands] at hx <;> (try rfl)
  case build t ps => simp only [parts_evalO ps (by simpa using hx)]
  case buildSlice t n ps => simp only [parts_evalO ps (by simpa using hx)]
  case makeFunc f first captured =>
    simp only [map_evalO captured.toList fun x hm => hx x (by simp [Array.toList_append]; exact .inr (by simpa using hm))]
  case slice t x lo hi mx =>
    have h0 : evalO tmps' x = evalO tmps x := hx x (by simp)
    have h1 : ∀ (y : Option Operand), y.toArray.toList ⊆ (#[x] ++ lo.toArray ++ hi.toArray ++ mx.toArray).toList → y.map (evalO tmps') = y.map (evalO tmps) := by
      intro y hy
      cases y with
      | none => rfl
      | some y => simp only [Option.map_some, hx y (hy (by simp))]
    have e1 := h1 lo (by intro z hz; simp only [Array.toList_append, List.mem_append]; exact .inl (.inl (.inr hz)))
    have e2 := h1 hi (by intro z hz; simp only [Array.toList_append, List.mem_append]; exact .inl (.inr hz))
    have e3 := h1 mx (by intro z hz; simp only [Array.toList_append, List.mem_append]; exact .inr hz)
    simp only [h0, e1, e2, e3]
  case call c => exact callA_congr hx
  case defer c => exact deferA_congr hx
  all_goals
    simp only [List.mem_cons, List.not_mem_nil, or_false, forall_eq_or_imp, forall_eq] at hx
    simp only [hx]

theorem userA_local {g : Nat} {args : List AV} {h h' : Heap} {base : Nat} {t t' : Tr} {d : Did} (hb : userA E callF g args h base t = some (d, t')) (hg : Agree h h' d.rd) :
    userA E callF g args h' base t = some (d, t') := by
  unfold userA at hb ⊢
  rcases hf : E.fn g with _ | fi <;> simp only [hf] at hb ⊢
  · exact hb
  refine bind_local hb fun c t1 h1 h2 => ⟨doCall_local h1 ?_, h2⟩
  obtain ⟨rfl, rfl⟩ := pure_inv h2
  exact hg

theorem plainly_loc {m m' : M AV} {t t' : Tr} {d : Did} (hb : plainly m t = some (d, t')) (hm : m' = m) : plainly m' t = some (d, t') := by rw [hm]; exact hb
theorem reading_loc {l : List Nat} {m m' : M AV} {t t' : Tr} {d : Did} {h h' : Heap} (hb : reading l m t = some (d, t')) (hg : Agree h h' d.rd) (hm : Agree h h' l → m' = m) : reading l m' t = some (d, t') := by
  obtain ⟨v, h1, rfl⟩ := reading_inv hb
  rw [hm hg]; exact hb
theorem turning_loc {l : List Nat} {m m' : M Out} {t t' : Tr} {d : Did} {h h' : Heap} (hb : turning l m t = some (d, t')) (hg : Agree h h' d.rd) (hm : Agree h h' l → m' = m) : turning l m' t = some (d, t') := by
  obtain ⟨v, h1, rfl⟩ := turning_inv hb
  rw [hm hg]; exact hb

theorem builtinA_local {h h' : Heap} {slot : Nat} {b : Builtin} {as : List AV} {ts : List Nat} {t t' : Tr} {d : Did} (hb : builtinA E h slot b as ts t = some (d, t')) (hg : Agree h h' d.rd) :
    builtinA E h' slot b as ts t = some (d, t') := by
  unfold builtinA at hb ⊢
  cases b <;> (try exact hb)
  case append =>
    dsimp only at hb ⊢
    split at hb
    · rename_i s x t1 u
      rcases hu : E.ti u with _ | ui <;> simp only [hu] at hb ⊢
      · exact hb
      rcases hd : ui.desc with _ | _ | _ | _ | _ | _ | _ | _ | _ | _ | _ <;> simp only [hd, if_true, Bool.false_eq_true, if_false] at hb ⊢ <;> (try exact (fail_inv hb).elim)
      all_goals exact turning_loc hb hg fun hl => appendA_local (hl.mono fun y hy => List.mem_append_left _ hy) (hl.mono fun y hy => List.mem_append_right _ hy)
    · exact (fail_inv hb).elim
  case copy =>
    dsimp only at hb ⊢
    split at hb
    · exact turning_loc hb hg fun hl => copyA_local (hl.mono fun y hy => List.mem_append_left _ hy) (hl.mono fun y hy => List.mem_append_right _ hy)
    · exact (fail_inv hb).elim
  case unsafeString =>
    dsimp only at hb ⊢
    split at hb
    · exact turning_loc hb hg fun hl => unsafeStringA_local hl
    · exact (fail_inv hb).elim

theorem callA_local {c : Call} {slot base : Nat} {tmps : Tms} {df : List AV} {h h' : Heap} {t t' : Tr} {d : Did} (hb : callA E callF c slot base ⟨tmps, h, df⟩ t = some (d, t')) (hg : Agree h h' d.rd) :
    callA E callF c slot base ⟨tmps, h', df⟩ t = some (d, t') := by
  unfold callA at hb ⊢
  rcases hc : c.callee with f | ⟨r, n⟩ | b <;> simp only [hc] at hb ⊢
  · rcases he : evalO tmps f with _ | _ | _ | _ | _ | _ | _ | _ | _ | _ | ⟨g, vs⟩ | _ | _ | _ | _ | _ | _ | _ <;> simp only [he] at hb ⊢ <;> (try exact (fail_inv hb).elim)
    rcases hp : E.prim g with _ | p <;> simp only [hp] at hb ⊢
    · exact userA_local hb hg
    · exact hb
  · rcases he : unfz (evalO tmps r) with _ | _ | _ | _ | _ | _ | _ | _ | _ | _ | _ | _ | ⟨ty, v⟩ | _ | _ | _ | _ | _ <;> simp only [he] at hb ⊢ <;> (try exact (fail_inv hb).elim)
    rcases hp : E.meth ty n with _ | g <;> simp only [hp] at hb ⊢
    · exact (fail_inv hb).elim
    · exact userA_local hb hg
  · exact builtinA_local hb hg

theorem convA_local {h h' : Heap} {slot s d : Nat} {x : AV} {t t' : Tr} {r : Did} (hb : convA E h slot s d x t = some (r, t')) (hg : Agree h h' r.rd) : convA E h' slot s d x t = some (r, t') := by
  unfold convA at hb ⊢
  cases x
  case str b =>
    dsimp only at hb ⊢
    split at hb
    · rename_i hc
      rw [if_pos hc]; exact hb
    · rename_i hc
      rw [if_neg hc]
      exact plainly_loc hb (convertA_local (fun y hy => by simp [refs] at hy))
  all_goals exact reading_loc hb hg fun hl => convertA_local hl

theorem opA_heap {o : Oper} {slot base : Nat} {tmps : Tms} {df : List AV} {h h' : Heap} {t t' : Tr} {d : Did} (hb : opA E callF o slot base ⟨tmps, h, df⟩ t = some (d, t')) (hg : Agree h h' d.rd) :
    opA E callF o slot base ⟨tmps, h', df⟩ t = some (d, t') := by
  obtain ⟨dst, op, type, pos, after, guard⟩ := o
  unfold opA at hb ⊢
  cases op <;> (try exact hb)
  case load ty a => exact reading_loc hb hg fun hl => loadA_local hl
  case store ty a x => exact turning_loc hb hg fun hl => storeA_local hl
  case binOp op ty x y yt => exact reading_loc hb hg fun hl => binOpA_local (hl.mono fun z hz => List.mem_append_left _ hz)
  case convert s e x => exact convA_local hb hg
  case slice ty x lo hi mx => exact reading_loc hb hg fun hl => sliceA_local hl
  case next it str =>
    dsimp only at hb ⊢
    split at hb
    · rename_i hs
      rw [if_pos hs]
      exact turning_loc hb hg fun hl => nextA_local hl
    · exact (fail_inv hb).elim
  case call c => exact callA_local hb hg

/-- What an operation comes to hangs on its operands and on the blocks that it has read. -/
theorem opA_local {o : Oper} {slot base : Nat} {S S' : St} {t t' : Tr} {d : Did} (hb : opA E callF o slot base S t = some (d, t')) (hx : ∀ x ∈ o.op.operands.toList, evalO S'.tmps x = evalO S.tmps x)
    (hg : Agree S.heap S'.heap d.rd) : opA E callF o slot base S' t = some (d, t') := by
  obtain ⟨tmps, h, df⟩ := S
  obtain ⟨tmps', h', df'⟩ := S'
  rw [opA_congr (tmps := tmps) (df := df) hx]
  exact opA_heap hb hg

end
end Go.Am
end
noncomputable section
namespace Go.Am

/-! ## What was done in a region, taken in any order -/

inductive Rec where
  | skip
  | did (d : Did) (base : Nat) (t t' : Tr)

def Rec.wr : Rec → List Nat
  | .skip => []
  | .did d _ _ _ => d.upd.map (·.1)
def Rec.rd : Rec → List Nat
  | .skip => []
  | .did d _ _ _ => d.rd
def Rec.val : Rec → AV
  | .skip => .tuple []
  | .did d _ _ _ => d.val
def Rec.upd : Rec → List (Nat × Blk)
  | .skip => []
  | .did d _ _ _ => d.upd

def Rec.put (o : Oper) (r : Rec) (S : St) : St := { tmps := putT S.tmps o.dst r.val, heap := S.heap.puts r.upd, defers := S.defers }

theorem Rec.wr_eq (r : Rec) : r.wr = r.upd.map (·.1) := by cases r <;> rfl

def Rec.foot (i : Nat) (r : Rec) : Foot := ⟨i, r.rd, r.wr⟩

def stL (L : Nat → Bool) : Nat → List (Oper × Rec) → St → St
  | _, [], S => S
  | i, (o, r) :: l, S => stL L (i + 1) l (if L i then r.put o S else S)

theorem lastOf_none : ∀ (u : List (Nat × Blk)) (b : Nat), b ∉ u.map (·.1) → lastOf b u = none
  | [], _, _ => rfl
  | (i, x) :: r, b, h => by
    simp only [List.map_cons, List.mem_cons, not_or] at h
    simp only [lastOf, lastOf_none r b h.2, if_neg h.1]

theorem putT_ne {tmps : Tms} {t : Nat} {d : Option Tmp} (hd : d ≠ some t) (v : AV) : Tms.at (putT tmps d v) t = Tms.at tmps t := by
  cases d with
  | none => rfl
  | some d => exact Tms.at_set_ne tmps v fun h => hd (by rw [h])

theorem putT_has (tmps : Tms) (d : Option Tmp) (v : AV) (k : Nat) : Tm.has (putT tmps d v) k = Tm.has tmps k := by
  cases d with
  | none => rfl
  | some d => exact Tms.has_set tmps d k v

theorem putT_get {tmps tmps' : Tms} (hh : ∀ k, Tm.has tmps k = Tm.has tmps' k) {t : Nat} (ht : Tms.at tmps t = Tms.at tmps' t) (d : Option Tmp) (v : AV) : Tms.at (putT tmps d v) t = Tms.at (putT tmps' d v) t := by
  cases d with
  | none => exact ht
  | some d =>
    simp only [putT]
    rw [Tms.at_set, Tms.at_set, hh, ht]

theorem stL_defers (L : Nat → Bool) : ∀ (l : List (Oper × Rec)) (i : Nat) (S : St), (stL L i l S).defers = S.defers
  | [], _, _ => rfl
  | (o, r) :: l, i, S => by
    simp only [stL]
    rw [stL_defers L l (i + 1)]
    split <;> rfl

theorem stL_tmp {L L' : Nat → Bool} {t : Nat} : ∀ (l : List (Oper × Rec)) (i : Nat) (S S' : St), (∀ k, Tm.has S.tmps k = Tm.has S'.tmps k) → Tms.at S.tmps t = Tms.at S'.tmps t →
    (∀ j o r, l[j]? = some (o, r) → o.dst = some t → L (i + j) = L' (i + j)) → Tms.at (stL L i l S).tmps t = Tms.at (stL L' i l S').tmps t
  | [], _, _, _, _, h, _ => h
  | (o, r) :: l, i, S, S', hh, h, hL => by
    simp only [stL]
    refine stL_tmp l (i + 1) _ _ ?_ ?_ fun j o' r' hj hd => ?_
    · intro k
      split <;> split <;> simp only [Rec.put, putT_has, hh]
    · by_cases hd : o.dst = some t
      · have := hL 0 o r rfl hd
        simp only [Nat.add_zero] at this
        rw [this]
        split
        · exact putT_get hh h _ _
        · exact h
      · split <;> split <;> simp only [Rec.put, putT_ne hd, h]
    · have := hL (j + 1) o' r' (by simpa using hj) hd
      rw [show i + 1 + j = i + (j + 1) by omega]; exact this

theorem stL_heap {L L' : Nat → Bool} {b : Nat} : ∀ (l : List (Oper × Rec)) (i : Nat) (S S' : St), S.heap.at b = S'.heap.at b →
    (∀ j o r, l[j]? = some (o, r) → b ∈ r.wr → L (i + j) = L' (i + j)) → (stL L i l S).heap.at b = (stL L' i l S').heap.at b
  | [], _, _, _, h, _ => h
  | (o, r) :: l, i, S, S', h, hL => by
    simp only [stL]
    refine stL_heap l (i + 1) _ _ ?_ fun j o' r' hj hd => ?_
    · by_cases hd : b ∈ r.wr
      · have := hL 0 o r rfl hd
        simp only [Nat.add_zero] at this
        rw [this]
        split
        · simp only [Rec.put, Heap.at_puts, h]
        · exact h
      · rw [Rec.wr_eq] at hd
        have hn := lastOf_none _ _ hd
        split <;> split <;> simp only [Rec.put, Heap.at_puts, hn, h, Option.none_or]
    · have := hL (j + 1) o' r' (by simpa using hj) hd
      rw [show i + 1 + j = i + (j + 1) by omega]; exact this

theorem puts_length_le : ∀ (u : List (Nat × Blk)) (h : Heap), h.length ≤ (h.puts u).length
  | [], _ => Nat.le_refl _
  | (i, x) :: r, h => by
    simp only [Heap.puts]
    exact Nat.le_trans (by rw [put_length]; omega) (puts_length_le r _)

theorem puts_mem_lt : ∀ (u : List (Nat × Blk)) (h : Heap) (b : Nat), b ∈ u.map (·.1) → b < (h.puts u).length
  | [], _, _, hb => by simp at hb
  | (i, x) :: r, h, b, hb => by
    simp only [List.map_cons, List.mem_cons] at hb
    simp only [Heap.puts]
    rcases hb with rfl | hb
    · exact Nat.lt_of_lt_of_le (by rw [put_length]; omega) (puts_length_le r _)
    · exact puts_mem_lt r _ b hb

theorem stL_len {L : Nat → Bool} : ∀ (l : List (Oper × Rec)) (i : Nat) (S : St), S.heap.length ≤ (stL L i l S).heap.length
  | [], _, _ => Nat.le_refl _
  | (o, r) :: l, i, S => by
    simp only [stL]
    refine Nat.le_trans ?_ (stL_len l (i + 1) _)
    split
    · exact puts_length_le _ _
    · exact Nat.le_refl _

theorem stL_lt {L : Nat → Bool} {b : Nat} : ∀ (l : List (Oper × Rec)) (i : Nat) (S : St) (j : Nat) (o : Oper) (r : Rec), l[j]? = some (o, r) → b ∈ r.wr → L (i + j) = true → b < (stL L i l S).heap.length
  | [], _, _, j, _, _, hj, _, _ => by simp at hj
  | (o, r) :: l, i, S, 0, o', r', hj, hb, hL => by
    simp only [List.getElem?_cons_zero, Option.some.injEq, Prod.mk.injEq] at hj
    obtain ⟨rfl, rfl⟩ := hj
    simp only [Nat.add_zero] at hL
    simp only [stL, hL, if_true]
    refine Nat.lt_of_lt_of_le ?_ (stL_len l (i + 1) _)
    rw [Rec.wr_eq] at hb
    exact puts_mem_lt _ _ _ hb
  | (o, r) :: l, i, S, j + 1, o', r', hj, hb, hL => by
    simp only [stL]
    exact stL_lt l (i + 1) _ j o' r' (by simpa using hj) hb (by rw [show i + 1 + j = i + (j + 1) by omega]; exact hL)

theorem stL_congr {L L' : Nat → Bool} : ∀ (l : List (Oper × Rec)) (i : Nat) (S : St), (∀ j, j < l.length → L (i + j) = L' (i + j)) → stL L i l S = stL L' i l S
  | [], _, _, _ => rfl
  | (o, r) :: l, i, S, h => by
    have h0 := h 0 (by simp)
    simp only [Nat.add_zero] at h0
    simp only [stL, h0]
    exact stL_congr l (i + 1) _ fun j hj => by
      have := h (j + 1) (by simpa using hj)
      rw [show i + 1 + j = i + (j + 1) by omega]; exact this

theorem stL_none {L : Nat → Bool} : ∀ (l : List (Oper × Rec)) (i : Nat) (S : St), (∀ j, j < l.length → L (i + j) = false) → stL L i l S = S
  | [], _, _, _ => rfl
  | (o, r) :: l, i, S, h => by
    have h0 := h 0 (by simp)
    simp only [Nat.add_zero] at h0
    simp only [stL, h0, Bool.false_eq_true, if_false]
    exact stL_none l (i + 1) _ fun j hj => by
      have := h (j + 1) (by simpa using hj)
      rw [show i + 1 + j = i + (j + 1) by omega]; exact this

theorem stL_take {L : Nat → Bool} : ∀ (l : List (Oper × Rec)) (i k : Nat) (S : St), (∀ j, j < l.length → L (i + j) = decide (j < k)) → stL L i l S = stL (fun _ => true) i (l.take k) S
  | l, i, 0, S, h => by
    rw [stL_none l i S fun j hj => by rw [h j hj]; simp]
    simp [stL]
  | [], _, _ + 1, _, _ => rfl
  | (o, r) :: l, i, k + 1, S, h => by
    have h0 := h 0 (by simp)
    simp only [Nat.add_zero, Nat.zero_lt_succ, decide_true] at h0
    simp only [stL, h0, if_true, List.take_succ_cons]
    exact stL_take l (i + 1) k _ fun j hj => by
      have := h (j + 1) (by simpa using hj)
      rw [show i + 1 + j = i + (j + 1) by omega, this]
      simp

/-! ## Two that touch nothing in common -/

theorem put_comm : ∀ (h : Heap) (i j : Nat) (x y : Blk), i ≠ j → (h.put i x).put j y = (h.put j y).put i x
  | [], 0, 0, _, _, hn => absurd rfl hn
  | [], 0, j + 1, x, y, _ => by simp [Heap.put]
  | [], i + 1, 0, x, y, _ => by simp [Heap.put]
  | [], i + 1, j + 1, x, y, hn => by
    simp only [Heap.put]
    rw [put_comm [] i j x y (fun h => hn (by omega))]
  | a :: h, 0, 0, _, _, hn => absurd rfl hn
  | a :: h, 0, j + 1, x, y, _ => by simp [Heap.put]
  | a :: h, i + 1, 0, x, y, _ => by simp [Heap.put]
  | a :: h, i + 1, j + 1, x, y, hn => by
    simp only [Heap.put]
    rw [put_comm h i j x y (fun h => hn (by omega))]

theorem puts_put_comm : ∀ (u : List (Nat × Blk)) (h : Heap) (i : Nat) (x : Blk), i ∉ u.map (·.1) → (h.put i x).puts u = (h.puts u).put i x
  | [], _, _, _, _ => rfl
  | (j, y) :: r, h, i, x, hn => by
    simp only [List.map_cons, List.mem_cons, not_or] at hn
    simp only [Heap.puts]
    rw [put_comm h i j x y hn.1, puts_put_comm r _ i x hn.2]

theorem puts_comm : ∀ (u u' : List (Nat × Blk)) (h : Heap), (∀ x ∈ u.map (·.1), x ∉ u'.map (·.1)) → (h.puts u).puts u' = (h.puts u').puts u
  | [], _, _, _ => rfl
  | (i, x) :: r, u', h, hn => by
    simp only [List.map_cons, List.mem_cons, forall_eq_or_imp] at hn
    simp only [Heap.puts]
    rw [puts_comm r u' _ hn.2, puts_put_comm u' h i x hn.1]

theorem putT_comm (tmps : Tms) {d e : Option Tmp} (v u : AV) (hn : ∀ t, d = some t → e ≠ some t) : putT (putT tmps d v) e u = putT (putT tmps e u) d v := by
  cases d with
  | none => rfl
  | some d =>
    cases e with
    | none => rfl
    | some e =>
      have hne : d ≠ e := fun he => hn d rfl (by rw [he])
      exact Tms.set_comm tmps v u hne

theorem Rec.put_comm {o o' : Oper} {r r' : Rec} (S : St) (hd : ∀ t, o.dst = some t → o'.dst ≠ some t) (hw : ∀ x ∈ r.wr, x ∉ r'.wr) : r'.put o' (r.put o S) = r.put o (r'.put o' S) := by
  rw [Rec.wr_eq, Rec.wr_eq] at hw
  simp only [Rec.put, putT_comm S.tmps r.val r'.val hd, puts_comm r.upd r'.upd S.heap hw]

theorem stL_put {L : Nat → Bool} {o : Oper} {r : Rec} : ∀ (l : List (Oper × Rec)) (i : Nat) (S : St),
    (∀ j o' r', l[j]? = some (o', r') → L (i + j) = true → (∀ t, o.dst = some t → o'.dst ≠ some t) ∧ ∀ x ∈ r.wr, x ∉ r'.wr) → stL L i l (r.put o S) = r.put o (stL L i l S)
  | [], _, _, _ => rfl
  | (o', r') :: l, i, S, h => by
    have hrest := stL_put (L := L) (o := o) (r := r) l (i + 1)
    have hh : ∀ j o'' r'', l[j]? = some (o'', r'') → L (i + 1 + j) = true → (∀ t, o.dst = some t → o''.dst ≠ some t) ∧ ∀ x ∈ r.wr, x ∉ r''.wr := fun j o'' r'' hj hL =>
      h (j + 1) o'' r'' (by simpa using hj) (by rw [show i + (j + 1) = i + 1 + j by omega]; exact hL)
    simp only [stL]
    by_cases h0 : L i = true
    · simp only [h0, if_true]
      obtain ⟨h1, h2⟩ := h 0 o' r' rfl (by simpa using h0)
      rw [Rec.put_comm S h1 h2, hrest _ hh]
    · simp only [h0]
      exact hrest S hh

/-- One more done. -/
theorem stL_add {L : Nat → Bool} {o : Oper} {r : Rec} {k : Nat} : ∀ (l : List (Oper × Rec)) (i : Nat) (S : St), i ≤ k → l[k - i]? = some (o, r) → L k = false →
    (∀ j o' r', k < i + j → l[j]? = some (o', r') → L (i + j) = true → (∀ t, o.dst = some t → o'.dst ≠ some t) ∧ ∀ x ∈ r.wr, x ∉ r'.wr) →
    stL (fun j => L j || decide (j = k)) i l S = r.put o (stL L i l S)
  | [], _, _, _, hk, _, _ => by simp at hk
  | (o', r') :: l, i, S, hi, hk, hL, h => by
    by_cases he : i = k
    · subst he
      simp only [Nat.sub_self, List.getElem?_cons_zero, Option.some.injEq, Prod.mk.injEq] at hk
      obtain ⟨rfl, rfl⟩ := hk
      simp only [stL, hL, decide_true, Bool.or_true, if_true, Bool.false_eq_true, if_false]
      rw [stL_congr (L := fun j => L j || decide (j = i)) (L' := L) l (i + 1) _ fun j hj => by
        have : i + 1 + j ≠ i := by omega
        simp [this]]
      exact stL_put l (i + 1) S fun j o'' r'' hj hLj => h (j + 1) o'' r'' (by omega) (by simpa using hj) (by rw [show i + (j + 1) = i + 1 + j by omega]; exact hLj)
    · have hlt : i + 1 ≤ k := by omega
      have e1 : (L i || decide (i = k)) = L i := by simp [he]
      simp only [stL, e1]
      refine stL_add l (i + 1) _ hlt ?_ hL fun j o'' r'' hj hjj hLj => h (j + 1) o'' r'' (by omega) (by simpa using hjj) (by rw [show i + (j + 1) = i + 1 + j by omega]; exact hLj)
      have : k - i = (k - (i + 1)) + 1 := by omega
      rw [this] at hk
      simpa using hk

end Go.Am
end
noncomputable section
namespace Go.Am

/-! ## Which operations come before one -/

theorem foldl_or {α : Type} {j : Nat} (f : Nat → α → Nat) (p : α → Prop) (hf : ∀ s e, (f s e).testBit j = true → s.testBit j = true ∨ p e) : ∀ (l : List α) (s : Nat),
    (l.foldl f s).testBit j = true → s.testBit j = true ∨ ∃ e ∈ l, p e
  | [], s, h => .inl h
  | e :: l, s, h => by
    rcases foldl_or f p hf l _ h with h1 | ⟨e', he, hp⟩
    · rcases hf _ _ h1 with h2 | h2
      · exact .inl h2
      · exact .inr ⟨e, by simp, h2⟩
    · exact .inr ⟨e', by simp [he], hp⟩

def BeforeSpec (ops : Array Oper) (acc : Array Nat) : Prop :=
  ∀ i j, (acc.getD i 0).testBit j = true → ∃ o e, ops[i]? = some o ∧ e ∈ o.after.toList ∧ Region.binds .any e = true ∧ (e.on = j ∨ (acc.getD e.on 0).testBit j = true)

theorem getD_push_ne {acc : Array Nat} {x i : Nat} (h : i ≠ acc.size) : (acc.push x).getD i 0 = acc.getD i 0 := by
  simp only [Array.getD_eq_getD_getElem?, Array.getElem?_push, if_neg h]

theorem before_spec (ops : Array Oper) : BeforeSpec ops (Region.before ops) := by
  unfold Region.before
  have := Array.foldl_induction (motive := fun k (acc : Array Nat) => acc.size = k ∧ BeforeSpec ops acc) (as := ops) (init := #[])
    (f := fun acc o => acc.push (o.after.foldl (fun s e => if Region.binds .any e then s ||| 2 ^ e.on ||| acc.getD e.on 0 else s) 0)) ⟨rfl, fun i j h => by simp at h⟩
    (fun k acc hh => by
      obtain ⟨hs, hb⟩ := hh
      refine ⟨by simp [hs], fun i j h => ?_⟩
      by_cases hi : i = acc.size
      · subst hi
        have hx : (acc.push ((ops[k]).after.foldl (fun s e => if Region.binds .any e then s ||| 2 ^ e.on ||| acc.getD e.on 0 else s) 0)).getD acc.size 0 =
            (ops[k]).after.foldl (fun s e => if Region.binds .any e then s ||| 2 ^ e.on ||| acc.getD e.on 0 else s) 0 := by
          simp [Array.getD_eq_getD_getElem?]
        rw [hx, ← Array.foldl_toList] at h
        rcases foldl_or (j := j) _ (fun e => Region.binds .any e = true ∧ (e.on = j ∨ (acc.getD e.on 0).testBit j = true)) (fun s e he => by
          split at he
          · rename_i hbd
            simp only [Nat.testBit_or, Bool.or_eq_true, Nat.testBit_two_pow, decide_eq_true_eq] at he
            rcases he with (he | he) | he
            · exact .inl he
            · exact .inr ⟨hbd, .inl he⟩
            · exact .inr ⟨hbd, .inr he⟩
          · exact .inl he) _ _ h with h1 | ⟨e, he, hbd, ho⟩
        · simp at h1
        · refine ⟨ops[k], e, by rw [hs]; simp, he, hbd, ?_⟩
          rcases ho with ho | ho
          · exact .inl ho
          · right
            have hne : e.on ≠ acc.size := by
              rintro hne
              rw [hne] at ho
              simp [Array.getD_eq_getD_getElem?] at ho
            rw [getD_push_ne hne]; exact ho
      · rw [getD_push_ne hi] at h
        obtain ⟨o, e, h1, h2, h3, h4⟩ := hb i j h
        refine ⟨o, e, h1, h2, h3, ?_⟩
        rcases h4 with h4 | h4
        · exact .inl h4
        · right
          have hne : e.on ≠ acc.size := by
            rintro hne
            rw [hne] at h4
            simp [Array.getD_eq_getD_getElem?] at h4
          rw [getD_push_ne hne]; exact h4)
  exact this.2

theorem drawOK_spec {ops : Array Oper} (hd : drawOK ops = true) {i : Nat} {o : Oper} (hi : ops[i]? = some o) :
    (∀ e ∈ o.after.toList, Region.binds .any e = true → e.on < i) ∧
    (∀ t ∈ o.looksAt ops, ∀ j o', ops[j]? = some o' → o'.dst = some t → ((Region.before ops).getD i 0).testBit j = true ∨ ((Region.before ops).getD j 0).testBit i = true ∨ j = i) ∧
    (∀ d, o.dst = some d → ∀ j o', ops[j]? = some o' → o'.dst = some d → j = i) := by
  have hlt : i < ops.size := (Array.getElem?_eq_some_iff.1 hi).1
  unfold drawOK at hd
  have := List.all_eq_true.1 hd i (List.mem_range.2 hlt)
  simp only [hi, Bool.and_eq_true] at this
  obtain ⟨h1, h2, h3⟩ := this
  refine ⟨fun e he hb => ?_, fun t ht j o' hj hdst => ?_, fun d hdd j o' hj hdst => ?_⟩
  · have := Array.all_eq_true'.1 h1 e (by simpa using he)
    simpa [hb] using this
  · have hjl : j < ops.size := (Array.getElem?_eq_some_iff.1 hj).1
    have := List.all_eq_true.1 (List.all_eq_true.1 h2 t ht) j (List.mem_range.2 hjl)
    simpa [hj, hdst] using this
  · have hjl : j < ops.size := (Array.getElem?_eq_some_iff.1 hj).1
    rw [hdd] at h3
    have := List.all_eq_true.1 h3 j (List.mem_range.2 hjl)
    simpa [hj, hdst] using this

theorem before_lt {ops : Array Oper} (hd : drawOK ops = true) : ∀ (i j : Nat), ((Region.before ops).getD i 0).testBit j = true → j < i := by
  intro i
  induction i using Nat.strongRecOn with
  | ind i ih =>
    intro j h
    obtain ⟨o, e, h1, h2, h3, h4⟩ := before_spec ops i j h
    have hlt := (drawOK_spec hd h1).1 e h2 h3
    rcases h4 with rfl | h4
    · exact hlt
    · exact Nat.lt_trans (ih _ hlt _ h4) hlt

/-- Closed: with an operation, all that it hangs on. -/
def Closed (ops : Array Oper) (L : Nat → Bool) : Prop := ∀ i o, ops[i]? = some o → L i = true → ∀ e ∈ o.after.toList, Region.binds .any e = true → L e.on = true

theorem Closed.before {ops : Array Oper} (hd : drawOK ops = true) {L : Nat → Bool} (hc : Closed ops L) : ∀ (i j : Nat),
    (∀ o, ops[i]? = some o → ∀ e ∈ o.after.toList, Region.binds .any e = true → L e.on = true) → ((Region.before ops).getD i 0).testBit j = true → L j = true := by
  intro i
  induction i using Nat.strongRecOn with
  | ind i ih =>
    intro j hi h
    obtain ⟨o, e, h1, h2, h3, h4⟩ := before_spec ops i j h
    have hlt := (drawOK_spec hd h1).1 e h2 h3
    have hon := hi o h1 e h2 h3
    rcases h4 with rfl | h4
    · exact hon
    · exact ih _ hlt j (fun o' ho' => hc _ o' ho' hon) h4

/-! ## What has been touched -/

def AP (bf : Array Nat) (a b : Foot) : Prop := a.apart b = true ∨ (bf.getD a.idx 0).testBit b.idx = true

theorem apartAll_pw {bf : Array Nat} : ∀ (l : List Foot), apartAll bf l = true → l.Pairwise (AP bf)
  | [], _ => .nil
  | f :: r, h => by
    simp only [apartAll, Bool.and_eq_true, List.all_eq_true, Bool.or_eq_true] at h
    exact .cons (fun g hg => h.1 g hg) (apartAll_pw r h.2)

def feet : Nat → List Rec → List Foot → List Foot
  | _, [], fs => fs
  | i, .skip :: l, fs => feet (i + 1) l fs
  | i, .did d b t t' :: l, fs => feet (i + 1) l (if d.rd.isEmpty && d.upd.isEmpty then fs else ⟨i, d.rd, d.upd.map (·.1)⟩ :: fs)

theorem AP.emptyL {bf : Array Nat} {a b : Foot} (h1 : a.rd = []) (h2 : a.wr = []) : AP bf a b := by
  left
  simp only [Foot.apart, h1, h2, Bool.and_eq_true, disjoint_iff]
  simp
theorem AP.emptyR {bf : Array Nat} {a b : Foot} (h1 : b.rd = []) (h2 : b.wr = []) : AP bf a b := by
  left
  simp only [Foot.apart, h1, h2, Bool.and_eq_true, disjoint_iff]
  simp

theorem AP.spec {bf : Array Nat} {a b : Foot} (h : AP bf a b) : (bf.getD a.idx 0).testBit b.idx = true ∨ ((∀ x ∈ a.wr, x ∉ b.rd) ∧ (∀ x ∈ a.wr, x ∉ b.wr) ∧ ∀ x ∈ b.wr, x ∉ a.rd) := by
  rcases h with h | h
  · simp only [Foot.apart, Bool.and_eq_true, disjoint_iff] at h
    exact .inr ⟨h.1.1, h.1.2, h.2⟩
  · exact .inl h

theorem feet_pw {bf : Array Nat} : ∀ (l : List Rec) (i : Nat) (fs : List Foot), (feet i l fs).Pairwise (AP bf) →
    fs.Pairwise (AP bf) ∧ (∀ (k : Nat) (r : Rec), l[k]? = some r → ∀ g ∈ fs, AP bf (r.foot (i + k)) g) ∧ (∀ (j k : Nat) (r s : Rec), j < k → l[j]? = some r → l[k]? = some s → AP bf (s.foot (i + k)) (r.foot (i + j)))
  | [], i, fs, h => ⟨h, fun k r hk => by simp at hk, fun j k r s _ hj => by simp at hj⟩
  | .skip :: l, i, fs, h => by
    obtain ⟨h1, h2, h3⟩ := feet_pw l (i + 1) fs h
    refine ⟨h1, fun k r hk g hg => ?_, fun j k r s hjk hj hk => ?_⟩
    · cases k with
      | zero =>
        simp only [List.getElem?_cons_zero, Option.some.injEq] at hk
        subst hk; exact .emptyL rfl rfl
      | succ k =>
        have := h2 k r (by simpa using hk) g hg
        rw [show i + (k + 1) = i + 1 + k by omega]; exact this
    · cases k with
      | zero => omega
      | succ k =>
        cases j with
        | zero =>
          simp only [List.getElem?_cons_zero, Option.some.injEq] at hj
          subst hj; exact .emptyR rfl rfl
        | succ j =>
          have := h3 j k r s (by omega) (by simpa using hj) (by simpa using hk)
          rw [show i + (k + 1) = i + 1 + k by omega, show i + (j + 1) = i + 1 + j by omega]; exact this
  | .did d b t t' :: l, i, fs, h => by
    simp only [feet] at h
    obtain ⟨h1, h2, h3⟩ := feet_pw l (i + 1) _ h
    by_cases he : (d.rd.isEmpty && d.upd.isEmpty) = true
    · rw [if_pos he] at h1 h2
      simp only [Bool.and_eq_true, List.isEmpty_iff] at he
      have e1 : (Rec.did d b t t').wr = [] := by simp [Rec.wr, he.2]
      refine ⟨h1, fun k r hk g hg => ?_, fun j k r s hjk hj hk => ?_⟩
      · cases k with
        | zero =>
          simp only [List.getElem?_cons_zero, Option.some.injEq] at hk
          subst hk; exact .emptyL he.1 e1
        | succ k =>
          have := h2 k r (by simpa using hk) g hg
          rw [show i + (k + 1) = i + 1 + k by omega]; exact this
      · cases k with
        | zero => omega
        | succ k =>
          cases j with
          | zero =>
            simp only [List.getElem?_cons_zero, Option.some.injEq] at hj
            subst hj; exact .emptyR he.1 e1
          | succ j =>
            have := h3 j k r s (by omega) (by simpa using hj) (by simpa using hk)
            rw [show i + (k + 1) = i + 1 + k by omega, show i + (j + 1) = i + 1 + j by omega]; exact this
    · rw [if_neg he] at h1 h2
      obtain ⟨h4, h5⟩ := List.pairwise_cons.1 h1
      refine ⟨h5, fun k r hk g hg => ?_, fun j k r s hjk hj hk => ?_⟩
      · cases k with
        | zero =>
          simp only [List.getElem?_cons_zero, Option.some.injEq] at hk
          subst hk; exact h4 g hg
        | succ k =>
          have := h2 k r (by simpa using hk) g (by simp [hg])
          rw [show i + (k + 1) = i + 1 + k by omega]; exact this
      · cases k with
        | zero => omega
        | succ k =>
          cases j with
          | zero =>
            simp only [List.getElem?_cons_zero, Option.some.injEq] at hj
            subst hj
            have := h2 k s (by simpa using hk) ⟨i, d.rd, d.upd.map (·.1)⟩ (by simp)
            rw [show i + (k + 1) = i + 1 + k by omega]; exact this
          | succ j =>
            have := h3 j k r s (by omega) (by simpa using hj) (by simpa using hk)
            rw [show i + (k + 1) = i + 1 + k by omega, show i + (j + 1) = i + 1 + j by omega]; exact this

/-! ## The run in the order of the text -/

section
variable {E : Env} {callF : CallF} {ops : Array Oper}

/-- What the run has shown of one operation. -/
def Good (E : Env) (callF : CallF) (ops : Array Oper) (o : Oper) (slot : Nat) (S : St) : Rec → Prop
  | .skip => ∃ t t', wantedA ops o S t = some ((false, S), t') ∧ t'.holds
  | .did d b t t' => (∃ t0, wantedA ops o S t0 = some ((true, S), t) ∧ t.holds) ∧ opA E callF o slot b S t = some (d, t') ∧ t'.holds ∧ d.dfr = [] ∧ updOk S.heap slot d.upd = true ∧ b = S.heap.length

theorem didPut_rec {o : Oper} {d : Did} {b : Nat} {t t' : Tr} {S : St} (h : d.dfr = []) : didPut o d S = (Rec.did d b t t').put o S := by
  unfold didPut
  rw [h]
  rfl

theorem drawA_inv (hM : MonoC callF) {base : Nat} : ∀ (l : List Oper) (i : Nat) (S : St) (fs : List Foot) (t : Tr) (S' : St) (fs' : List Foot) (t' : Tr),
    drawA E callF ops base i l S fs t = some ((S', fs'), t') → t'.holds →
    ∃ rs : List Rec, rs.length = l.length ∧ S' = stL (fun _ => true) i (l.zip rs) S ∧ fs' = feet i rs fs ∧
      ∀ k o r, (l.zip rs)[k]? = some (o, r) → Good E callF ops o (base + i + k) (stL (fun _ => true) i ((l.zip rs).take k) S) r
  | [], i, S, fs, t, S', fs', t', hb, ho => by
    obtain ⟨h1, rfl⟩ := pure_inv hb
    simp only [Prod.mk.injEq] at h1
    obtain ⟨rfl, rfl⟩ := h1
    exact ⟨[], rfl, rfl, rfl, fun k o r hk => by simp at hk⟩
  | o :: l, i, S, fs, t, S', fs', t', hb, ho => by
    unfold drawA at hb
    obtain ⟨⟨wnt, S1⟩, t1, h1, h2⟩ := bind_inv hb
    dsimp only at h2
    split at h2
    · rename_i hw
      obtain ⟨d, t2, h3, h4⟩ := bind_inv h2
      split at h4
      · exact (fail_inv h4).elim
      rename_i hdf
      simp only [Bool.not_eq_true', Bool.not_eq_false, Bool.and_eq_true, List.isEmpty_iff] at hdf
      have fin : ∀ fs1, drawA E callF ops base (i + 1) l (didPut o d S1) fs1 t2 = some ((S', fs'), t') → fs1 = (if d.rd.isEmpty && d.upd.isEmpty then fs else ⟨i, d.rd, d.upd.map (·.1)⟩ :: fs) →
          ∃ rs : List Rec, rs.length = (o :: l).length ∧ S' = stL (fun _ => true) i ((o :: l).zip rs) S ∧ fs' = feet i rs fs ∧
            ∀ k o' r, ((o :: l).zip rs)[k]? = some (o', r) → Good E callF ops o' (base + i + k) (stL (fun _ => true) i (((o :: l).zip rs).take k) S) r := by
        intro fs1 h4 hfs
        have ho2 : t2.holds := (mono_drawA E hM ops base l (i + 1) _ _).holds h4 ho
        have ho1 : t1.holds := (mono_opA E hM o _ _ S1).holds h3 ho2
        obtain ⟨rfl, -⟩ := wantedA_ok h1 ho1
        rw [didPut_rec (b := S1.heap.length) (t := t1) (t' := t2) hdf.1] at h4
        obtain ⟨rs, e1, e2, e3, e4⟩ := drawA_inv hM l (i + 1) _ _ _ _ _ _ h4 ho
        refine ⟨.did d S1.heap.length t1 t2 :: rs, by simp [e1], by rw [e2]; rfl, by rw [e3, hfs]; rfl, fun k o' r hk => ?_⟩
        cases k with
        | zero =>
          simp only [List.zip_cons_cons, List.getElem?_cons_zero, Option.some.injEq, Prod.mk.injEq] at hk
          obtain ⟨rfl, rfl⟩ := hk
          simp only [List.take_zero, stL, Nat.add_zero]
          have hw : wnt = true := hw
          subst hw
          exact ⟨⟨t, h1, ho1⟩, h3, ho2, hdf.1, hdf.2, rfl⟩
        | succ k =>
          have := e4 k o' r (by simpa using hk)
          rw [show base + i + (k + 1) = base + (i + 1) + k by omega]
          exact this
      split at h4
      · rename_i he
        exact fin _ h4 (by rw [if_pos he])
      · rename_i he
        exact fin _ h4 (by rw [if_neg he])
    · rename_i hw
      have ho1 : t1.holds := (mono_drawA E hM ops base l (i + 1) _ _).holds h2 ho
      obtain ⟨rfl, -⟩ := wantedA_ok h1 ho1
      obtain ⟨rs, e1, e2, e3, e4⟩ := drawA_inv hM l (i + 1) _ _ _ _ _ _ h2 ho
      refine ⟨.skip :: rs, by simp [e1], by rw [e2]; rfl, by rw [e3]; rfl, fun k o' r hk => ?_⟩
      cases k with
      | zero =>
        simp only [List.zip_cons_cons, List.getElem?_cons_zero, Option.some.injEq, Prod.mk.injEq] at hk
        obtain ⟨rfl, rfl⟩ := hk
        simp only [List.take_zero, stL]
        have hw : wnt = false := by simpa using hw
        subst hw
        exact ⟨t, t1, h1, ho1⟩
      | succ k =>
        have := e4 k o' r (by simpa using hk)
        rw [show base + i + (k + 1) = base + (i + 1) + k by omega]
        exact this

theorem wantedA_local {o : Oper} {S S' S1 : St} {wnt : Bool} {t t' : Tr} (hb : wantedA ops o S t = some ((wnt, S1), t'))
    (hg : ∀ j want d, o.guard = some (j, want) → (ops[j]?).bind (·.dst) = some d → Tms.at S'.tmps d = Tms.at S.tmps d) : ∃ S1', wantedA ops o S' t = some ((wnt, S1'), t') := by
  unfold wantedA at hb ⊢
  rcases ho : o.guard with _ | ⟨j, want⟩ <;> simp only [ho] at hb ⊢
  · obtain ⟨h1, rfl⟩ := pure_inv hb
    simp only [Prod.mk.injEq] at h1
    exact ⟨S', by rw [← h1.1]; rfl⟩
  · rcases hd : (ops[j]?).bind (·.dst) with _ | d <;> simp only [hd] at hb ⊢
    · obtain ⟨h1, rfl⟩ := pure_inv hb
      simp only [Prod.mk.injEq] at h1
      exact ⟨S', by rw [← h1.1]; rfl⟩
    · have := hg j want d ho hd
      rw [this]
      rcases hx : Tms.at S.tmps d with b | _ | _ | _ | _ | _ | _ | _ | _ | _ | _ | _ | _ | _ | _ | vs | _ | _ <;> simp only [hx] at hb ⊢ <;> (try exact (fail_inv hb).elim)
      · obtain ⟨c, t1, h1, h2⟩ := bind_inv hb
        obtain ⟨h3, rfl⟩ := pure_inv h2
        simp only [Prod.mk.injEq] at h3
        refine ⟨{ S' with tmps := Tms.set S'.tmps d (.bool c) }, ?_⟩
        rw [← h3.1]
        show M.bind (decideB b) _ t = _
        unfold M.bind
        rw [h1]
        rfl
      · cases vs with
        | nil =>
          dsimp only at hb ⊢
          obtain ⟨h3, rfl⟩ := pure_inv hb
          simp only [Prod.mk.injEq] at h3
          exact ⟨S', by rw [← h3.1]; rfl⟩
        | cons => exact (fail_inv hb).elim

theorem updOk_spec {h : Heap} {slot : Nat} : ∀ (u : List (Nat × Blk)), updOk h slot u = true → ∀ b ∈ u.map (·.1), b = slot ∨ h.length ≤ b ∨ ∃ x, h.at b = some x
  | [], _, b, hb => by simp at hb
  | (k, x) :: r, hu, b, hb => by
    simp only [updOk, Bool.and_eq_true, Bool.or_eq_true] at hu
    simp only [List.map_cons, List.mem_cons] at hb
    rcases hb with rfl | hb
    · rcases hu.1 with h1 | h1 | h1
      · exact .inl (Nat.eq_of_beq_eq_true h1)
      · exact .inr (.inl (Nat.le_of_ble_eq_true h1))
      · exact .inr (.inr (Option.isSome_iff_exists.1 h1))
    · exact updOk_spec r hu.2 b hb

end
end Go.Am
end
noncomputable section
namespace Go.Am

structure RunOf (E : Env) (callF : CallF) (ops : Array Oper) (base : Nat) (rs : List Rec) (S0 : St) : Prop where
  hd : drawOK ops = true
  len : rs.length = ops.size
  good : ∀ k o r, (ops.toList.zip rs)[k]? = some (o, r) → Good E callF ops o (base + k) (stL (fun _ => true) 0 ((ops.toList.zip rs).take k) S0) r
  ap : ∀ (j k : Nat) (r s : Rec), j < k → rs[j]? = some r → rs[k]? = some s → AP (Region.before ops) (s.foot k) (r.foot j)
  room : S0.heap.length = base + ops.size
  free : ∀ b, base ≤ b → S0.heap.at b = none

section
variable {E : Env} {callF : CallF} {ops : Array Oper} {base : Nat} {rs : List Rec} {S0 : St} (R : RunOf E callF ops base rs S0)

theorem zip_get {k : Nat} {o : Oper} {r : Rec} (h : (ops.toList.zip rs)[k]? = some (o, r)) : ops[k]? = some o ∧ rs[k]? = some r := by
  rw [List.getElem?_zip_eq_some] at h
  exact ⟨by rw [← Array.getElem?_toList]; exact h.1, h.2⟩
theorem zip_get' {k : Nat} {o : Oper} {r : Rec} (h1 : ops[k]? = some o) (h2 : rs[k]? = some r) : (ops.toList.zip rs)[k]? = some (o, r) := by
  rw [List.getElem?_zip_eq_some]
  exact ⟨by rw [Array.getElem?_toList]; exact h1, h2⟩

/-- The state ahead of an operation, in the order of the text. -/
abbrev txt (ops : Array Oper) (rs : List Rec) (S0 : St) (k : Nat) : St := stL (fun j => decide (j < k)) 0 (ops.toList.zip rs) S0

theorem txt_eq (k : Nat) : txt ops rs S0 k = stL (fun _ => true) 0 ((ops.toList.zip rs).take k) S0 :=
  stL_take _ 0 k S0 fun j _ => by simp

include R

theorem RunOf.clash {j k : Nat} {r s : Rec} (hjk : j < k) (hj : rs[j]? = some r) (hk : rs[k]? = some s) :
    ((Region.before ops).getD k 0).testBit j = true ∨ ((∀ x ∈ s.wr, x ∉ r.rd) ∧ (∀ x ∈ s.wr, x ∉ r.wr) ∧ ∀ x ∈ r.wr, x ∉ s.rd) := (R.ap j k r s hjk hj hk).spec

variable {L : Nat → Bool} (hL : Closed ops L) {i : Nat} (hi : L i = false) (hpre : ∀ o, ops[i]? = some o → ∀ e ∈ o.after.toList, Region.binds .any e = true → L e.on = true)

omit R in
theorem stL_lt_txt {k j b : Nat} {o : Oper} {r : Rec} (hj : (ops.toList.zip rs)[j]? = some (o, r)) (hb : b ∈ r.wr) (hjk : j < k) : b < (txt ops rs S0 k).heap.length :=
  stL_lt _ 0 S0 j o r hj hb (by simpa using hjk)

include hL hi

/-- What comes later and has been done already does not hang on i. -/
theorem RunOf.later {j : Nat} (hj : L j = true) : ((Region.before ops).getD j 0).testBit i ≠ true := by
  intro h
  have := Closed.before R.hd hL j i (fun o ho => hL j o ho hj) h
  rw [hi] at this
  cases this

omit hi in
include hpre in
theorem RunOf.earlier {j : Nat} (h : ((Region.before ops).getD i 0).testBit j = true) : L j = true ∧ j < i :=
  ⟨Closed.before R.hd hL i j hpre h, before_lt R.hd i j h⟩

include hpre in
theorem RunOf.tmps {o : Oper} (ho : ops[i]? = some o) {t : Tmp} (ht : t ∈ o.looksAt ops) : Tms.at (stL L 0 (ops.toList.zip rs) S0).tmps t = Tms.at (txt ops rs S0 i).tmps t := by
  refine stL_tmp _ 0 S0 S0 (fun _ => rfl) rfl fun j o' r' hj hdst => ?_
  simp only [Nat.zero_add]
  rcases (drawOK_spec R.hd ho).2.1 t ht j o' (zip_get hj).1 hdst with hb | hb | rfl
  · obtain ⟨h1, h2⟩ := R.earlier hL hpre hb
    simp [h1, h2]
  · have h2 := before_lt R.hd j i hb
    rw [decide_eq_false (by omega)]
    rcases hLj : L j with _ | _
    · rfl
    · exact absurd hb (R.later hL hi hLj)
  · rw [hi]; simp

include hpre in
theorem RunOf.heap {r : Rec} (hr : rs[i]? = some r) {b : Nat} (hb : b ∈ r.rd) : (stL L 0 (ops.toList.zip rs) S0).heap.at b = (txt ops rs S0 i).heap.at b := by
  refine stL_heap _ 0 S0 S0 rfl fun j o' r' hj hw => ?_
  have hrj := (zip_get hj).2
  simp only [Nat.zero_add]
  rcases Nat.lt_trichotomy j i with hlt | rfl | hgt
  · rw [decide_eq_true hlt]
    rcases R.clash hlt hrj hr with h | ⟨-, -, h⟩
    · exact (R.earlier hL hpre h).1
    · exact absurd hb (h b hw)
  · rw [hi]; simp
  · rw [decide_eq_false (by omega)]
    rcases hLj : L j with _ | _
    · rfl
    · rcases R.clash hgt hr hrj with h | ⟨h, -, -⟩
      · exact absurd h (R.later hL hi hLj)
      · exact absurd hb (h b hw)

/-- What i turns, no later one that has been done already has turned. -/
theorem RunOf.alone {r r' : Rec} {j : Nat} (hr : rs[i]? = some r) (hj : rs[j]? = some r') (hij : i < j) (hLj : L j = true) : ∀ x ∈ r'.wr, x ∉ r.wr := by
  rcases R.clash hij hr hj with h | ⟨-, h, -⟩
  · exact absurd h (R.later hL hi hLj)
  · exact h

omit hL hi in
/-- Who turns i's own place. -/
theorem RunOf.slotW {s : Rec} (hs : rs[i]? = some s) (hin : i < ops.size) : ∀ (j : Nat) (r : Rec), rs[j]? = some r → base + i ∈ r.wr → j = i ∨ (i < j ∧ base + i ∈ s.wr) := by
  intro j
  induction j using Nat.strongRecOn with
  | ind j ih =>
    intro r hj hw
    by_cases hji : j = i
    · exact .inl hji
    right
    have hjn : j < ops.size := by rw [← R.len]; exact (List.getElem?_eq_some_iff.1 hj).1
    have hz := zip_get' (ops := ops) (Array.getElem?_eq_getElem hjn) hj
    have hg := R.good j _ r hz
    cases r with
    | skip => simp [Rec.wr] at hw
    | did d b t t' =>
      obtain ⟨-, -, -, -, hu, -⟩ := hg
      rw [← txt_eq] at hu
      rcases updOk_spec _ hu _ hw with h1 | h1 | ⟨x, h1⟩
      · omega
      · have := stL_len (L := fun k => decide (k < j)) (ops.toList.zip rs) 0 S0
        rw [R.room] at this
        change base + ops.size ≤ (txt ops rs S0 j).heap.length at this
        omega
      · have h0 : S0.heap.at (base + i) = none := R.free _ (by omega)
        -- somebody before j has turned it
        have : ∃ j' r', rs[j']? = some r' ∧ base + i ∈ r'.wr ∧ j' < j := by
          refine Classical.byContradiction fun hno => ?_
          have : (txt ops rs S0 j).heap.at (base + i) = (stL (fun _ => false) 0 (ops.toList.zip rs) S0).heap.at (base + i) := by
            refine stL_heap _ 0 S0 S0 rfl fun k o r hk hkw => ?_
            simp only [Nat.zero_add]
            rw [decide_eq_false]
            intro hkj
            exact hno ⟨k, r, (zip_get hk).2, hkw, hkj⟩
          rw [stL_none _ _ _ (fun _ _ => rfl), h0, h1] at this
          cases this
        obtain ⟨j', r', hj', hw', hlt⟩ := this
        rcases ih j' hlt r' hj' hw' with rfl | ⟨h2, h3⟩
        · exact ⟨hlt, by rw [hs] at hj'; cases hj'; exact hw'⟩
        · exact ⟨by omega, h3⟩

theorem RunOf.slot {s : Rec} (hs : rs[i]? = some s) (hin : i < ops.size) : (stL L 0 (ops.toList.zip rs) S0).heap.at (base + i) = none := by
  have : (stL L 0 (ops.toList.zip rs) S0).heap.at (base + i) = (stL (fun _ => false) 0 (ops.toList.zip rs) S0).heap.at (base + i) := by
    refine stL_heap _ 0 S0 S0 rfl fun j o r hj hw => ?_
    simp only [Nat.zero_add]
    rcases hLj : L j with _ | _
    · rfl
    · rcases R.slotW hs hin j r (zip_get hj).2 hw with rfl | ⟨h1, h2⟩
      · rw [hi] at hLj; cases hLj
      · exact absurd h2 (R.alone hL hi hs (zip_get hj).2 h1 hLj _ hw)
  rw [this, stL_none _ _ _ (fun _ _ => rfl)]
  exact R.free _ (by omega)

theorem RunOf.fresh {d : Did} {b : Nat} {t t' : Tr} (hs : rs[i]? = some (.did d b t t')) (hb : b = (txt ops rs S0 i).heap.length) : ∀ x ∈ d.upd, b ≤ x.1 → (stL L 0 (ops.toList.zip rs) S0).heap.at x.1 = none := by
  intro x hx hle
  have hxw : x.1 ∈ (Rec.did d b t t').wr := List.mem_map.2 ⟨x, hx, rfl⟩
  have : (stL L 0 (ops.toList.zip rs) S0).heap.at x.1 = (stL (fun _ => false) 0 (ops.toList.zip rs) S0).heap.at x.1 := by
    refine stL_heap _ 0 S0 S0 rfl fun j o r hj hw => ?_
    simp only [Nat.zero_add]
    rcases hLj : L j with _ | _
    · rfl
    · rcases Nat.lt_trichotomy j i with hlt | rfl | hgt
      · have := stL_lt_txt (S0 := S0) hj hw hlt
        omega
      · rw [hi] at hLj; cases hLj
      · exact absurd hxw (R.alone hL hi hs (zip_get hj).2 hgt hLj _ hw)
  rw [this, stL_none _ _ _ (fun _ _ => rfl)]
  have hl := stL_len (L := fun k => decide (k < i)) (ops.toList.zip rs) 0 S0
  rw [R.room] at hl
  change base + ops.size ≤ (txt ops rs S0 i).heap.length at hl
  exact R.free _ (by omega)

theorem RunOf.add {o : Oper} {r : Rec} (ho : ops[i]? = some o) (hr : rs[i]? = some r) :
    stL (fun j => L j || decide (j = i)) 0 (ops.toList.zip rs) S0 = r.put o (stL L 0 (ops.toList.zip rs) S0) := by
  refine stL_add _ 0 S0 (Nat.zero_le _) (by simpa using zip_get' ho hr) hi fun j o' r' hij hj hLj => ⟨fun t ht h' => ?_, fun x hx hx' => ?_⟩
  · have := (drawOK_spec R.hd ho).2.2 t ht j o' (zip_get hj).1 h'
    omega
  · simp only [Nat.zero_add] at hij hLj
    exact R.alone hL hi hr (zip_get hj).2 hij hLj x hx' hx

end
end Go.Am
end
noncomputable section
namespace Go.Am

/-! ## Nothing but the list's length -/

theorem Stp.same {w w' : World} {g : Gh} {h h' : Heap} (he : ∀ b, h'.at b = h.at b) (hw : w'.heap = w.heap) (ht : w'.tape = w.tape) (ho : w'.os = w.os) (hu : w'.output = w.output) : Stp w g h w' g h' where
  size := by rw [hw]; exact Nat.le_refl _
  frame _ _ _ := by rw [hw]
  shape _ c _ fr hp := ⟨c, fr, by rw [hw]; exact hp, rfl⟩
  fst _ h := h
  fnew _ h := .inl h
  own p hp := by
    obtain ⟨b, x, h1, h2, h3⟩ := hp
    exact .inl ⟨b, x, by rw [← he]; exact h1, h2, h3⟩
  gens b n hn := ⟨n, by unfold Heap.gen? at hn ⊢; rw [he]; exact hn, Nat.le_refl _, fun _ => rfl⟩
  tape := ht
  os := ho
  output := hu

theorem HR.same {E : Env} {w w' : World} {g : Gh} {h h' : Heap} (hr : HR E w g h) (he : ∀ b, h'.at b = h.at b) (hw : w'.heap = w.heap) (ht : w'.tape = w.tape) (ho : w'.os = w.os) (hu : w'.output = w.output) :
    HR E w' g h' where
  blk b x hx := by
    rw [he] at hx
    exact BR.step hr (.same he hw ht ho hu) hx rfl (by rw [hw]) fun hro hF => hr.notOwn hF ⟨b, x, hx, hro, rfl⟩
  inj b c x y hx hy := by
    rw [he] at hx hy
    exact hr.inj b c x y hx hy
  lim p hp := by rw [hw]; exact hr.lim p hp
  glob n cells hn := by
    obtain ⟨hFn, c, e, fr, vs, h1, h2, h3⟩ := hr.glob n cells hn
    exact ⟨hFn, c, e, fr, vs, by rw [hw]; exact h1, h2.step hr (.same he hw ht ho hu), h3⟩

theorem at_reserve (h : Heap) (n b : Nat) : (h ++ reserve n : Heap).at b = h.at b := by
  rw [Heap.at_eq, Heap.at_eq]
  unfold reserve
  rcases Nat.lt_or_ge b h.length with hb | hb
  · rw [List.getElem?_append_left hb]
  · rw [List.getElem?_append_right hb, List.getElem?_eq_none hb, List.getElem?_replicate]
    split <;> rfl

section
variable {P : Program} {E : Env} (hE : EnvOK P E) (hm : P.follows .mixedOrders = true) {callF : CallF} (hD : DoCallOK P E callF) (hM : MonoC callF)

/-- How many are not done yet. -/
def left (n : Nat) (L : Nat → Bool) : Nat := ((List.range n).filter fun i => !L i).length

theorem left_zero {n : Nat} {L : Nat → Bool} (h : left n L = 0) : ∀ i, i < n → L i = true := by
  intro i hi
  unfold left at h
  have := List.length_eq_zero_iff.1 h
  have h2 := List.filter_eq_nil_iff.1 this i (List.mem_range.2 hi)
  simpa using h2

theorem filter_length_lt {α : Type} (p q : α → Bool) (x : α) : ∀ (l : List α), (∀ y ∈ l, q y = true → p y = true) → x ∈ l → p x = true → q x = false → (l.filter q).length < (l.filter p).length
  | [], _, hx, _, _ => by simp at hx
  | a :: l, h, hx, hp, hq => by
    have hle : (l.filter q).length ≤ (l.filter p).length := by
      clear hx
      have hh : ∀ y ∈ l, q y = true → p y = true := fun y hy => h y (by simp [hy])
      clear h
      induction l with
      | nil => simp
      | cons b l ih =>
        have := ih fun y hy => hh y (by simp [hy])
        have hb := hh b (by simp)
        simp only [List.filter_cons]
        split
        · rw [if_pos (hb ‹_›)]; simpa using this
        · split
          · simp; omega
          · exact this
    rcases List.mem_cons.1 hx with rfl | hx
    · simp only [List.filter_cons, hp, hq, if_true]
      simp; omega
    · have := filter_length_lt p q x l (fun y hy => h y (by simp [hy])) hx hp hq
      simp only [List.filter_cons]
      have ha := h a (by simp)
      split
      · rw [if_pos (ha ‹_›)]; simp; omega
      · split
        · simp; omega
        · exact this

theorem left_add {n : Nat} {L : Nat → Bool} {i : Nat} (hi : i < n) (hL : L i = false) : left n (fun j => L j || decide (j = i)) < left n L := by
  unfold left
  refine filter_length_lt _ _ i _ (fun y _ hy => ?_) (List.mem_range.2 hi) (by simp [hL]) (by simp)
  simp only [Bool.not_eq_true', Bool.or_eq_false_iff] at hy ⊢
  exact hy.1

theorem ready_mem {ops : Array Oper} {listed : Array Bool} {i : Nat} (h : i ∈ Region.ready .any ops listed) :
    ∃ o, ops[i]? = some o ∧ listed.getD i true = false ∧ ∀ e ∈ o.after.toList, Region.binds .any e = true → listed.getD e.on false = true := by
  unfold Region.ready at h
  obtain ⟨h1, h2⟩ := List.mem_filter.1 h
  have hlt := List.mem_range.1 h1
  rw [Array.getElem?_eq_getElem hlt] at h2
  simp only [Option.map_some, Option.getD_some, Bool.and_eq_true, Bool.not_eq_true'] at h2
  refine ⟨ops[i], Array.getElem?_eq_getElem hlt, h2.1, fun e he hb => ?_⟩
  have := Array.all_eq_true'.1 h2.2 e (by simpa using he)
  simpa [hb] using this

theorem ready_of {ops : Array Oper} {listed : Array Bool} {i : Nat} {o : Oper} (ho : ops[i]? = some o) (h1 : listed.getD i true = false) (h2 : ∀ e ∈ o.after.toList, Region.binds .any e = true → listed.getD e.on false = true) :
    i ∈ Region.ready .any ops listed := by
  unfold Region.ready
  have hlt : i < ops.size := (Array.getElem?_eq_some_iff.1 ho).1
  refine List.mem_filter.2 ⟨List.mem_range.2 hlt, ?_⟩
  rw [ho]
  simp only [Option.map_some, Option.getD_some, h1, Bool.not_false, Bool.true_and]
  refine Array.all_eq_true'.2 fun e he => ?_
  simp only [Bool.or_eq_true, Bool.not_eq_true']
  rcases hb : Region.binds .any e with _ | _
  · exact .inl rfl
  · exact .inr (h2 e (by simpa using he) hb)

/-- If none is ready, all are done. -/
theorem ready_nil {ops : Array Oper} (hd : drawOK ops = true) {listed : Array Bool} (hs : listed.size = ops.size) (h : Region.ready .any ops listed = []) : ∀ i, i < ops.size → listed.getD i false = true := by
  intro i
  induction i using Nat.strongRecOn with
  | ind i ih =>
    intro hi
    rcases hl : listed.getD i false with _ | _
    · exfalso
      have ho : ops[i]? = some ops[i] := Array.getElem?_eq_getElem hi
      have := ready_of (listed := listed) ho (by
        rw [Array.getD_eq_getD_getElem?] at hl ⊢
        rw [Array.getElem?_eq_getElem (by omega)] at hl ⊢
        exact hl) (fun e he hb => by
        have := (drawOK_spec hd ho).1 e he hb
        exact ih _ this (by omega))
      rw [h] at this
      cases this
    · rfl

include hE hD in
theorem any_ok {ops : Array Oper} {base : Nat} {rs : List Rec} {S S0 : St} (R : RunOf E callF ops base rs S0) (hdf : S0.defers = S.defers) {w0 : World} {g0 : Gh} {Q : Exit → Act → World → Prop}
    (hQ : Post E S w0 g0 .normal (stL (fun _ => true) 0 (ops.toList.zip rs) S0) Q) : ∀ (fuel : Nat) (listed : Array Bool), listed.size = ops.size → Closed ops (fun i => listed.getD i false) →
      left ops.size (fun i => listed.getD i false) ≤ fuel → ∀ (w : World) (g : Gh) (a : Act), HR E w g (stL (fun i => listed.getD i false) 0 (ops.toList.zip rs) S0).heap →
      ActR w g (stL (fun i => listed.getD i false) 0 (ops.toList.zip rs) S0) a → Stp w0 g0 S.heap w g (stL (fun i => listed.getD i false) 0 (ops.toList.zip rs) S0).heap →
      wpAny P .any ops Q fuel listed a w := by
  have fin : ∀ (listed : Array Bool), listed.size = ops.size → (∀ i, i < ops.size → listed.getD i false = true) → ∀ (w : World) (g : Gh) (a : Act),
      HR E w g (stL (fun i => listed.getD i false) 0 (ops.toList.zip rs) S0).heap → ActR w g (stL (fun i => listed.getD i false) 0 (ops.toList.zip rs) S0) a →
      Stp w0 g0 S.heap w g (stL (fun i => listed.getD i false) 0 (ops.toList.zip rs) S0).heap → Q .normal a w := by
    intro listed hs hall w g a hr ha hst
    have : stL (fun i => listed.getD i false) 0 (ops.toList.zip rs) S0 = stL (fun _ => true) 0 (ops.toList.zip rs) S0 := stL_congr _ 0 S0 fun j hj => by
      simp only [List.length_zip, Array.length_toList] at hj
      simpa using hall j (by omega)
    rw [this] at hr ha hst
    exact hQ w g a hr ha hst
  intro fuel
  induction fuel with
  | zero =>
    intro listed hs hc hl w g a hr ha hst
    have hall : ∀ i, i < ops.size → listed.getD i false = true := left_zero (by omega)
    refine ⟨?_, fin listed hs hall w g a hr ha hst⟩
    unfold Region.ready
    refine List.filter_eq_nil_iff.2 fun i hi => ?_
    have hlt := List.mem_range.1 hi
    have h1 := hall i hlt
    have : listed.getD i true = true := by
      rw [Array.getD_eq_getD_getElem?] at h1 ⊢
      rw [Array.getElem?_eq_getElem (by omega)] at h1 ⊢
      exact h1
    simp [this]
  | succ fuel ih =>
    intro listed hs hc hl w g a hr ha hst
    refine ⟨fun hrd => fin listed hs (ready_nil R.hd hs hrd) w g a hr ha hst, fun i hi => ?_⟩
    obtain ⟨o, ho, hli, hpre⟩ := ready_mem hi
    have hin : i < ops.size := (Array.getElem?_eq_some_iff.1 ho).1
    have hli : listed.getD i false = false := by
      rw [Array.getD_eq_getD_getElem?] at hli ⊢
      rw [Array.getElem?_eq_getElem (by omega)] at hli ⊢
      exact hli
    have hirs : i < rs.length := by rw [R.len]; exact hin
    obtain ⟨r, hri⟩ : ∃ r, rs[i]? = some r := ⟨rs[i], List.getElem?_eq_getElem hirs⟩
    have hpre' : ∀ o', ops[i]? = some o' → ∀ e ∈ o'.after.toList, Region.binds .any e = true → (fun i => listed.getD i false) e.on = true := by
      intro o' ho'
      rw [ho] at ho'
      cases ho'
      exact hpre
    have hset : (fun j => (listed.setIfInBounds i true).getD j false) = fun j => (fun i => listed.getD i false) j || decide (j = i) := by
      funext j
      simp only [Array.getD_eq_getD_getElem?, Array.getElem?_setIfInBounds]
      by_cases hji : i = j
      · subst hji
        simp [hs, hin]
      · rw [if_neg hji]
        simp [Ne.symm hji]
    have hadd := R.add hc hli ho hri
    have hc' : Closed ops (fun j => (fun i => listed.getD i false) j || decide (j = i)) := by
      intro j oj hoj hj e he hb
      simp only [Bool.or_eq_true, decide_eq_true_eq] at hj
      rcases hj with hj | rfl
      · have := hc j oj hoj hj e he hb
        simp only at this ⊢
        rw [this]; rfl
      · have := hpre' oj hoj e he hb
        simp only at this ⊢
        rw [this]; rfl
    have hl' : left ops.size (fun j => (fun i => listed.getD i false) j || decide (j = i)) ≤ fuel := by
      have := left_add (n := ops.size) (L := fun i => listed.getD i false) hin hli
      exact Nat.le_of_lt_succ (Nat.lt_of_lt_of_le this hl)
    have next := ih (listed.setIfInBounds i true) (by simpa using hs) (by rw [hset]; exact hc') (by rw [hset]; exact hl')
    rw [hset, hadd] at next
    have hgood := R.good i o r (zip_get' ho hri)
    rw [← txt_eq] at hgood
    have htmp : ∀ t ∈ o.looksAt ops, Tms.at (stL (fun i => listed.getD i false) 0 (ops.toList.zip rs) S0).tmps t = Tms.at (txt ops rs S0 i).tmps t := fun t ht => R.tmps hc hli hpre' ho ht
    have hguard : ∀ j want d, o.guard = some (j, want) → (ops[j]?).bind (·.dst) = some d → Tms.at (stL (fun i => listed.getD i false) 0 (ops.toList.zip rs) S0).tmps d = Tms.at (txt ops rs S0 i).tmps d := by
      intro j want d hg hdd
      refine htmp d ?_
      unfold Oper.looksAt
      rw [hg]
      exact List.mem_append_right _ (by simp [hdd])
    unfold wpOp
    rw [ho]
    dsimp only
    cases r with
    | skip =>
      obtain ⟨t, t', h1, h2⟩ := hgood
      obtain ⟨S1', h3⟩ := wantedA_local h1 hguard
      obtain ⟨-, hw⟩ := wantedA_ok h3 h2
      rw [hw w g a ha.tmps]
      simp only [Bool.false_eq_true, if_false]
      exact next w g _ hr (skip_rel ha o.dst) hst
    | did d b t t' =>
      obtain ⟨⟨t0, h1, h2⟩, h3, h4, h5, h6, h7⟩ := hgood
      obtain ⟨S1', h8⟩ := wantedA_local h1 hguard
      obtain ⟨-, hw⟩ := wantedA_ok h8 h2
      rw [hw w g a ha.tmps]
      simp only [if_true]
      left
      have h9 : opA E callF o (base + i) b (stL (fun i => listed.getD i false) 0 (ops.toList.zip rs) S0) t = some (d, t') := by
        refine opA_local h3 (fun x hx => ?_) fun b hb => R.heap hc hli hpre' hri hb
        cases x with
        | tmp y =>
          simp only [evalO]
          rw [htmp y (by
            unfold Oper.looksAt
            exact List.mem_append_left _ (List.mem_filterMap.2 ⟨.tmp y, hx, rfl⟩))]
        | _ => rfl
      refine opA_ok hE hD h9 h4 hr (R.slot hc hli hri hin) ha.tmps (R.fresh hc hli hri h7) fun v w' g' ds m1 m2 m3 m4 => ?_
      have hrel := didPut_rel (o := o) hr ha m4 m2 m3
      rw [didPut_rec (b := b) (t := t) (t' := t') h5] at hrel
      exact next w' g' _ m1 hrel (hst.trans m4)

include hE hm hD hM in
/-- REGIONS THAT LEAVE THEIR ORDER OPEN. -/
theorem draws_ok : DrawsOK P E callF := by
  intro id ops S t S' t' hd hb ho w g a Q hr ha hQ
  unfold regionA at hb
  simp only [if_true] at hb
  obtain ⟨⟨S1, fs⟩, t1, h1, h2⟩ := bind_inv hb
  dsimp only at h2
  split at h2
  · rename_i hap
    obtain ⟨rfl, rfl⟩ := pure_inv h2
    obtain ⟨rs, e1, e2, e3, e4⟩ := drawA_inv hM ops.toList 0 _ _ _ _ _ _ h1 ho
    have hpw := feet_pw rs 0 [] (by rw [← e3]; exact apartAll_pw fs hap)
    have R : RunOf E callF ops S.heap.length rs { S with heap := S.heap ++ reserve ops.size } := {
      hd := hd
      len := by simpa using e1
      good := fun k o r hk => by simpa using e4 k o r hk
      ap := fun j k r s hjk hj hk => by simpa using hpw.2.2 j k r s hjk hj hk
      room := by simp [reserve]
      free := fun b hb => by
        show (S.heap ++ reserve ops.size : Heap).at b = none
        rw [at_reserve, at_length S.heap hb] }
    subst e2
    have hz : stL (fun i => (Array.replicate ops.size false).getD i false) 0 (ops.toList.zip rs) { S with heap := S.heap ++ reserve ops.size } = { S with heap := S.heap ++ reserve ops.size } :=
      stL_none _ 0 _ fun j _ => by
        rw [Array.getD_eq_getD_getElem?, Array.getElem?_replicate]
        split <;> rfl
    have hw0 : Stp w g S.heap { w with drawn := w.drawn + 1 } g (S.heap ++ reserve ops.size) := .same (fun b => at_reserve _ _ b) rfl rfl rfl rfl
    refine wp_region_any hm (any_ok hE hD (S := S) R rfl hQ ops.size (Array.replicate ops.size false) (by simp) (fun i o _ hi => ?_) ?_ { w with drawn := w.drawn + 1 } g a ?_ ?_ ?_)
    · exfalso
      dsimp only at hi
      rw [Array.getD_eq_getD_getElem?, Array.getElem?_replicate] at hi
      split at hi <;> cases hi
    · unfold left
      exact Nat.le_trans (List.length_filter_le _ _) (by simp)
    · rw [hz]
      exact hr.same (fun b => at_reserve _ _ b) rfl rfl rfl rfl
    · rw [hz]
      exact ⟨ha.tmps.step hr hw0, ha.dfr.step hr hw0⟩
    · rw [hz]
      exact hw0
  · exact (fail_inv h2).elim

end

/-- WHAT THE EXECUTOR RECKONS, THE MACHINE DOES. -/
theorem am_ok {P : Program} {E : Env} (hE : EnvOK P E) (hT : DrawTab E) (hm : P.follows .mixedOrders = true)
    (hS : ∀ f args v, shortOf E f args = some v → ∀ h, OK P E f args h v h) (n k : Nat) : CallOK P E (callN (OK P E) (LoopOK P E) E n k) :=
  callN_ok hE hT (fun _ hD hM => draws_ok hE hm hD hM) hS n k

end Go.Am
end
noncomputable section
namespace Go.Am

/-! ## Tables as trees, and what is shown of each entry -/

def Tree.All {α : Type} (Q : Nat → α → Prop) : Tree α → Prop
  | .leaf => True
  | .node l k v r => l.All Q ∧ Q k v ∧ r.All Q

theorem Tree.All.get {α : Type} {Q : Nat → α → Prop} : ∀ {t : Tree α}, t.All Q → ∀ {n : Nat} {v : α}, t.get n = some v → Q n v
  | .leaf, _, _, _, h => by cases h
  | .node l k x r, ⟨h1, h2, h3⟩, n, v, h => by
    simp only [Tree.get] at h
    split at h
    · rename_i hb
      obtain rfl := Nat.eq_of_beq_eq_true hb
      simp only [Option.some.injEq] at h
      exact h ▸ h2
    · split at h
      · exact h1.get h
      · exact h3.get h

def Tree.allB {α : Type} (q : Nat → α → Bool) : Tree α → Bool
  | .leaf => true
  | .node l k v r => l.allB q && (q k v && r.allB q)

theorem Tree.All.of {α : Type} {q : Nat → α → Bool} {Q : Nat → α → Prop} (hq : ∀ n v, q n v = true → Q n v) : ∀ {t : Tree α}, t.allB q = true → t.All Q
  | .leaf, _ => trivial
  | .node l k v r, h => by
    simp only [Tree.allB, Bool.and_eq_true] at h
    exact ⟨Tree.All.of hq h.1, hq _ _ h.2.1, Tree.All.of hq h.2.2⟩

/-! ## Functions -/

def fiOf (fn : Func) : FI := ⟨fn.ntmps, fn.results.toList, match fn.body with | some b => b | none => .skip⟩

def FnOK (P : Program) (f : Nat) (i : FI) : Prop := ∃ fn, P.funcs[f]? = some fn ∧ fn.body = some i.body ∧ fn.ntmps = i.ntmps ∧ fn.results.toList = i.results ∧ (fn.name == "runtime.NumGoroutine") = false

theorem FnOK.of {P : Program} {f : Nat} {fn : Func} (h : P.funcs[f]? = some fn) (hb : fn.body.isSome = true) (hn : (fn.name == "runtime.NumGoroutine") = false) : FnOK P f (fiOf fn) := by
  obtain ⟨b, hb⟩ := Option.isSome_iff_exists.1 hb
  exact ⟨fn, h, by simp [fiOf, hb], rfl, rfl, hn⟩

def DrOK (_ : Nat) (i : FI) : Prop := codeDraws i.body = true

/-! ## Types -/

def zB1 : AV → Value → Bool
  | .bool a, .bool b => a == b
  | .int k a, .int j b => decide (k = j) && (a == b)
  | .str a, .string s => eqNats a (bytesOf s)
  | .nilptr, .pointer none => true
  | .nilslice, .slice none 0 0 => true
  | .nilfunc, .nilFunc => true
  | .niliface, .nilIface => true
  | _, _ => false

theorem zB1_ok {a : AV} {v : Value} (h : zB1 a v = true) : a = cv0 v := by
  unfold zB1 at h
  split at h
  · simp only [beq_iff_eq] at h; rw [h]; rfl
  · simp only [Bool.and_eq_true, decide_eq_true_eq, beq_iff_eq] at h; rw [h.1, h.2]; rfl
  · rw [(eqNats_iff _ _).1 h]; rfl
  · rfl
  · rfl
  · rfl
  · rfl
  · cases h

def zB : List AV → List Value → Bool
  | [], [] => true
  | a :: r, v :: s => zB1 a v && zB r s
  | _, _ => false

theorem zB_ok : ∀ {as : List AV} {vs : List Value}, zB as vs = true → as = vs.map cv0
  | [], [], _ => rfl
  | [], _ :: _, h => by cases h
  | _ :: _, [], h => by cases h
  | a :: r, v :: s, h => by
    simp only [zB, Bool.and_eq_true] at h
    rw [zB1_ok h.1, zB_ok h.2]; rfl

def pairsB : List (Nat × Nat) → List Field → Bool
  | [], [] => true
  | (a, b) :: r, f :: s => Nat.beq f.type a && (Nat.beq f.offset b && pairsB r s)
  | _, _ => false

theorem pairsB_ok : ∀ {as : List (Nat × Nat)} {fs : List Field}, pairsB as fs = true → fs.map (fun f => (f.type, f.offset)) = as
  | [], [], _ => rfl
  | [], _ :: _, h => by cases h
  | _ :: _, [], h => by cases h
  | (a, b) :: r, f :: s, h => by
    simp only [pairsB, Bool.and_eq_true] at h
    obtain ⟨h1, h2, h3⟩ := h
    rw [List.map_cons, pairsB_ok h3, Nat.eq_of_beq_eq_true h1, Nat.eq_of_beq_eq_true h2]

def tdB : TD → TypeDesc → Bool
  | .bool, .bool => true
  | .int k, .int k' => decide (k = k')
  | .string, .string => true
  | .ptr e, .pointer e' => Nat.beq e e'
  | .upt, .unsafePointer => true
  | .slice e, .slice e' => Nat.beq e e'
  | .array n e, .array n' e' => Nat.beq n n' && Nat.beq e e'
  | .struct fs, .struct fields => pairsB fs fields.toList
  | .iface b, .interface ms => b == ms.isEmpty
  | .func, .func _ _ _ => true
  | .other, d => match d with
    | .interface _ | .struct _ | .array _ _ => false
    | _ => true
  | _, _ => false

theorem tdB_ok {d : TD} {d' : TypeDesc} (h : tdB d d' = true) : TDok d d' := by
  unfold tdB at h
  unfold TDok
  split at h <;> simp_all
  · exact pairsB_ok h
  · cases d' <;> simp_all

def fldB (P : Program) : List (Nat × Nat) → Bool
  | [] => true
  | (t, _) :: r => (P.info? t).isSome && fldB P r

theorem fldB_ok {P : Program} : ∀ {fs : List (Nat × Nat)}, fldB P fs = true → ∀ x ∈ fs, ∃ inf, P.info? x.1 = some inf
  | [], _, x, hx => by simp at hx
  | (t, o) :: r, h, x, hx => by
    simp only [fldB, Bool.and_eq_true] at h
    rcases List.mem_cons.1 hx with rfl | hx
    · exact Option.isSome_iff_exists.1 h.1
    · exact fldB_ok h.2 x hx

def aggB (d : TD) : Value → Bool
  | .agg _ => d.agg
  | .tuple _ => false
  | _ => !d.agg

def tiB (P : Program) (t : Nat) (i : TI) : Bool :=
  match P.info? t with
  | none => false
  | some info => match P.underlying t with
    | none => false
    | some d => match info.zero with
      | none => false
      | some z => Nat.beq info.size i.size && (Nat.beq info.bytes i.bytes && (zB i.zero z.cells.toList && (tdB i.desc d && (aggB i.desc z && ((!i.cmp || info.comparable) &&
          (isPure.allPure i.zero && (Nat.beq i.zero.length i.size && (match i.desc with | .struct fs => fldB P fs | _ => true))))))))

theorem tiB_ok {P : Program} {t : Nat} {i : TI} (h : tiB P t i = true) : TIok P t i := by
  unfold tiB at h
  rcases h1 : P.info? t with _ | info <;> simp only [h1] at h
  · cases h
  rcases h2 : P.underlying t with _ | d <;> simp only [h2] at h
  · cases h
  rcases h3 : info.zero with _ | z <;> simp only [h3] at h
  · cases h
  simp only [Bool.and_eq_true] at h
  obtain ⟨a1, a2, a3, a4, a5, a6, a7, a8, a9⟩ := h
  refine ⟨⟨info, z, d, h1, Nat.eq_of_beq_eq_true a1, Nat.eq_of_beq_eq_true a2, h3, zB_ok a3, h2, tdB_ok a4, fun ha => ?_, fun ha => ?_, fun hc => ?_⟩, a7, Nat.eq_of_beq_eq_true a8, fun fs hfs => ?_⟩
  · cases z <;> simp_all [aggB, Value.cells]
  · cases z <;> simp_all [aggB, Value.cells]
  · simpa [hc] using a6
  · rw [hfs] at a9
    exact fldB_ok a9

/-! ## Structs of whole numbers, held against one another -/

theorem eqCells_cons {k : IntKind} {ks : List (Option IntKind)} {ps qs : List AV} {r : Bool} (h : eqCells (some k :: ks) ps qs = some r) :
    ∃ a b ps' qs' r', ps = .int k a :: ps' ∧ qs = .int k b :: qs' ∧ eqCells ks ps' qs' = some r' ∧ r = ((a == b) && r') := by
  unfold eqCells at h
  split at h
  · rename_i heq; exact absurd heq (by simp)
  · rename_i heq; exact absurd heq (by simp)
  · rename_i heq
    simp only [List.cons.injEq, Option.some.injEq] at heq
    obtain ⟨rfl, rfl⟩ := heq
    split at h
    · rename_i hk
      simp only [Bool.and_eq_true, decide_eq_true_eq] at hk
      obtain ⟨rfl, rfl⟩ := hk
      split at h
      · rename_i r' hr
        simp only [Option.some.injEq] at h
        exact ⟨_, _, _, _, r', rfl, rfl, hr, h.symm⟩
      · cases h
    · cases h
  · cases h

theorem eqCells_nil {ps qs : List AV} {r : Bool} (h : eqCells [] ps qs = some r) : ps = [] ∧ qs = [] ∧ r = true := by
  cases ps <;> cases qs <;> simp_all [eqCells]

/-- Two words in a struct. -/
theorem eqTwo_ok {P : Program} {t u : Nat} (hg : P.eqGuardType P.depth t = false) (ht : P.underlying t = some (.struct (P.fieldsOf t))) (hs : P.stoodInHeld t = false)
    (hf : (P.fieldsOf t).toList.map (fun f => (f.name == "_", f.type, f.offset)) = [(false, u, 0), (false, u, 1)]) (hu : P.underlying u = some (.int .u64)) (ha : ∀ w, (isAgg u).run P w = .ok false w)
    (xs ys : List Value) (ps qs : List AV) (r : Bool) (w : World) (x y : Operand) (he : eqCells [some .u64, some .u64] ps qs = some r)
    (h1 : ps.map (fun a => (match a with | .bool b => some (Value.bool b) | .int k n => some (Value.int k n) | _ => none)) = xs.map some)
    (h2 : qs.map (fun a => (match a with | .bool b => some (Value.bool b) | .int k n => some (Value.int k n) | _ => none)) = ys.map some) :
    (do eqGuard .eql t x y (.agg xs.toArray) (.agg ys.toArray); Op.equal t (.agg xs.toArray) (.agg ys.toArray) : Sem Bool).run P w = .ok r w ∧
    (do eqGuard .neq t x y (.agg xs.toArray) (.agg ys.toArray); Op.equal t (.agg xs.toArray) (.agg ys.toArray) : Sem Bool).run P w = .ok r w := by
  obtain ⟨a, c, ps1, qs1, r1, rfl, rfl, he1, rfl⟩ := eqCells_cons he
  obtain ⟨b, d, ps2, qs2, r2, rfl, rfl, he2, rfl⟩ := eqCells_cons he1
  obtain ⟨rfl, rfl, rfl⟩ := eqCells_nil he2
  rcases xs with _ | ⟨v1, _ | ⟨v2, _ | ⟨v3, xs⟩⟩⟩ <;> simp at h1
  rcases ys with _ | ⟨u1, _ | ⟨u2, _ | ⟨u3, ys⟩⟩⟩ <;> simp at h2
  obtain ⟨rfl, rfl⟩ := h1
  obtain ⟨rfl, rfl⟩ := h2
  have key : (Op.equal t (.agg #[.int .u64 a, .int .u64 b]) (.agg #[.int .u64 c, .int .u64 d])).run P w = .ok ((a == c) && ((b == d) && true)) w := by
    show (Op.equalIn (9999 + 1) t _ _).run _ _ = _
    rw [run_equalIn_agg w 9999 t _ _ ht hs]
    rcases hh : (P.fieldsOf t).toList with _ | ⟨f1, _ | ⟨f2, _ | ⟨f3, l⟩⟩⟩ <;> rw [hh] at hf <;> simp at hf
    obtain ⟨⟨n1, t1, o1⟩, n2, t2, o2⟩ := hf
    have p : ∀ (o : Nat) (xs : Array Value) (v : Value), xs[o]? = some v → (part u xs o).run P w = .ok v w := by
      intro o xs v ho
      simp [part, ha w, ho]
    simp only [Op.eqFields, n1, n2, t1, t2, o1, o2, Sem.run_bind, ne_eq, not_false_eq_true, if_true]
    rw [p 0 #[.int .u64 a, .int .u64 b] (.int .u64 a) rfl, Result.andThen_ok, p 0 #[.int .u64 c, .int .u64 d] (.int .u64 c) rfl, Result.andThen_ok, run_equalIn_int w 9998 u .u64 .u64 a c hu, Result.andThen_ok]
    rcases hac : (a == c) with _ | _
    · simp
    · simp only [Bool.not_true, Bool.false_eq_true, if_false, Sem.run_bind]
      rw [p 1 #[.int .u64 a, .int .u64 b] (.int .u64 b) rfl, Result.andThen_ok, p 1 #[.int .u64 c, .int .u64 d] (.int .u64 d) rfl, Result.andThen_ok, run_equalIn_int w 9998 u .u64 .u64 b d hu, Result.andThen_ok]
      rcases hbd : (b == d) with _ | _ <;> simp
  refine ⟨?_, ?_⟩
  · rw [Sem.run_bind, run_eqGuard_agg w .eql t x y _ _ hg]
    exact key
  · rw [Sem.run_bind, run_eqGuard_agg w .neq t x y _ _ hg]
    exact key

theorem eqCells_bool {ks : List (Option IntKind)} {ps qs : List AV} {r : Bool} (h : eqCells (none :: ks) ps qs = some r) :
    ∃ a b ps' qs' r', ps = .bool a :: ps' ∧ qs = .bool b :: qs' ∧ eqCells ks ps' qs' = some r' ∧ r = ((a == b) && r') := by
  unfold eqCells at h
  split at h
  · rename_i heq; exact absurd heq (by simp)
  · rename_i heq
    simp only [List.cons.injEq, true_and] at heq
    subst heq
    split at h
    · rename_i r' hr
      simp only [Option.some.injEq] at h
      exact ⟨_, _, _, _, r', rfl, rfl, hr, h.symm⟩
    · cases h
  · rename_i heq; exact absurd heq (by simp)
  · cases h

/-- Two bools in an array. -/
theorem eqBools_ok {P : Program} {t u : Nat} {i : TypeInfo} (hg : P.eqGuardType P.depth t = false) (ht : P.underlying t = some (.array 2 u)) (hi : P.info? u = some i) (hc : P.cellsOf u = 1)
    (hu : P.underlying u = some .bool) (ha : ∀ w, (isAgg u).run P w = .ok false w)
    (xs ys : List Value) (ps qs : List AV) (r : Bool) (w : World) (x y : Operand) (he : eqCells [none, none] ps qs = some r)
    (h1 : ps.map (fun a => (match a with | .bool b => some (Value.bool b) | .int k n => some (Value.int k n) | _ => none)) = xs.map some)
    (h2 : qs.map (fun a => (match a with | .bool b => some (Value.bool b) | .int k n => some (Value.int k n) | _ => none)) = ys.map some) :
    (do eqGuard .eql t x y (.agg xs.toArray) (.agg ys.toArray); Op.equal t (.agg xs.toArray) (.agg ys.toArray) : Sem Bool).run P w = .ok r w ∧
    (do eqGuard .neq t x y (.agg xs.toArray) (.agg ys.toArray); Op.equal t (.agg xs.toArray) (.agg ys.toArray) : Sem Bool).run P w = .ok r w := by
  obtain ⟨a, c, ps1, qs1, r1, rfl, rfl, he1, rfl⟩ := eqCells_bool he
  obtain ⟨b, d, ps2, qs2, r2, rfl, rfl, he2, rfl⟩ := eqCells_bool he1
  obtain ⟨rfl, rfl, rfl⟩ := eqCells_nil he2
  rcases xs with _ | ⟨v1, _ | ⟨v2, _ | ⟨v3, xs⟩⟩⟩ <;> simp at h1
  rcases ys with _ | ⟨u1, _ | ⟨u2, _ | ⟨u3, ys⟩⟩⟩ <;> simp at h2
  obtain ⟨rfl, rfl⟩ := h1
  obtain ⟨rfl, rfl⟩ := h2
  have key : (Op.equal t (.agg #[.bool a, .bool b]) (.agg #[.bool c, .bool d])).run P w = .ok ((a == c) && ((b == d) && true)) w := by
    show (Op.equalIn (9999 + 1) t _ _).run _ _ = _
    rw [run_equalIn_array w 9999 _ _ ht hi, hc]
    have p : ∀ (o : Nat) (xs : Array Value) (v : Value), xs[o]? = some v → (part u xs o).run P w = .ok v w := by
      intro o xs v ho
      simp [part, ha w, ho]
    show (Op.eqItems 9999 u 1 _ _ [0, 1]).run P w = _
    simp only [Op.eqItems, Sem.run_bind]
    rw [p (0 * 1) #[.bool a, .bool b] (.bool a) rfl, Result.andThen_ok, p (0 * 1) #[.bool c, .bool d] (.bool c) rfl, Result.andThen_ok, run_equalIn_bool' w 9998 u a c hu, Result.andThen_ok]
    rcases hac : (a == c) with _ | _
    · simp
    · simp only [Bool.not_true, Bool.false_eq_true, if_false, Sem.run_bind]
      rw [p (1 * 1) #[.bool a, .bool b] (.bool b) rfl, Result.andThen_ok, p (1 * 1) #[.bool c, .bool d] (.bool d) rfl, Result.andThen_ok, run_equalIn_bool' w 9998 u b d hu, Result.andThen_ok]
      rcases hbd : (b == d) with _ | _ <;> simp
  refine ⟨?_, ?_⟩
  · rw [Sem.run_bind, run_eqGuard_agg w .eql t x y _ _ hg]
    exact key
  · rw [Sem.run_bind, run_eqGuard_agg w .neq t x y _ _ hg]
    exact key

/-! ## Functions without bodies -/

theorem prim_of {P : Program} {f : Nat} {fn : Func} {e : Array Value → Sem Value} (hf : P.funcs[f]? = some fn) (hname : (fn.name == "runtime.NumGoroutine") = false)
    (hb : fn.body.isNone = true) (hn : Extern.findNext fn = none) (he : Extern.find fn = some e) (args : Array Value) (w : World) :
    (callFunc f args).run P w = (do let v ← e args; pure (Next.value v) : Sem Next).run P w := by
  rw [run_callFunc_extern hf hname hb hn he]
  simp only [Sem.run_bind, Sem.run_pure]

end Go.Am
end
noncomputable section
namespace Go.Am

/-! ## Summaries -/

theorem HR.env {E E' : Env} (he : E.glob = E'.glob) {w : World} {g : Gh} {h : Heap} (hr : HR E w g h) : HR E' w g h :=
  ⟨hr.blk, hr.inj, hr.lim, fun n cells hn => hr.glob n cells (by rw [he]; exact hn)⟩

theorem OK.env {P : Program} {E E' : Env} (he : E.glob = E'.glob) {f : Nat} {args : List AV} {h : Heap} {r : AV} {h' : Heap} (ho : OK P E f args h r h') : OK P E' f args h r h' := by
  intro w g vs hr hv
  refine Calls.mono (ho w g vs (hr.env he.symm) hv) ?_
  rintro e w' ⟨v, g', rfl, m1, m2, m3⟩
  exact ⟨v, g', rfl, m1.env he, m2, m3⟩

def AllP : List Prop → Prop
  | [] => True
  | p :: r => p ∧ AllP r

theorem AllP.holds : ∀ {l : List Prop}, AllP l → ∀ p ∈ l, p
  | [], _, p, hp => by simp at hp
  | q :: r, ⟨h1, h2⟩, p, hp => by
    rcases List.mem_cons.1 hp with rfl | hp
    · exact h1
    · exact AllP.holds h2 p hp

/-- What a run of the executor shows of a call: it gives v, and nothing in memory is turned. -/
theorem OK.of_run {P : Program} {E : Env} {callF : CallF} (hc : CallOK P E callF) {f : Nat} {args : List AV} {h : Heap} {scr rest : List Cmd} {v : AV} {rd : List Nat} {obs : List Prop}
    (hb : doCall E callF f args h 0 ⟨scr, []⟩ = some (⟨v, [], rd⟩, ⟨rest, obs⟩)) (ho : AllP obs) : OK P E f args h v h := by
  intro w g vs hr hv
  have := doCall_ok hc f args h 0 ⟨scr, []⟩ _ _ hb (fun p hp => ho.holds p hp) w g vs hr hv (fun x hx => by simp at hx)
  simpa [Heap.puts] using this

end Go.Am
end
