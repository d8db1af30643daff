/-
  Part of the proof of TopDays: lemmas that the others lean on.
-/
import Derived.Test.YtmekaipcoghlfaaGreatDoorEnvP
import Derived.Test.YtmekaipcoghlfaaGreatDoorAe
set_option linter.all false
set_option linter.unusedVariables false
set_option linter.unusedSimpArgs false
noncomputable section
namespace Go.Proofs.YtmekaipcoghlfaaGreatDoor
open Go Go.Am Go.Proofs
noncomputable abbrev PR : Program := Tryz.prog
noncomputable def gl4 : List AV := [.int .u64 1, .int .u64 10, .int .u64 100, .int .u64 1000, .int .u64 10000, .int .u64 100000, .int .u64 1000000, .int .u64 10000000, .int .u64 100000000, .int .u64 1000000000, .int .u64 10000000000, .int .u64 100000000000, .int .u64 1000000000000, .int .u64 10000000000000, .int .u64 100000000000000, .int .u64 1000000000000000, .int .u64 10000000000000000, .int .u64 100000000000000000, .int .u64 1000000000000000000, .int .u64 10000000000000000000]
noncomputable def gl6 : List AV := [.int .u8 0, .int .u8 1, .int .u8 28, .int .u8 2, .int .u8 29, .int .u8 14, .int .u8 24, .int .u8 3, .int .u8 30, .int .u8 22, .int .u8 20, .int .u8 15, .int .u8 25, .int .u8 17, .int .u8 4, .int .u8 8, .int .u8 31, .int .u8 27, .int .u8 13, .int .u8 23, .int .u8 21, .int .u8 19, .int .u8 16, .int .u8 7, .int .u8 26, .int .u8 12, .int .u8 18, .int .u8 6, .int .u8 11, .int .u8 5, .int .u8 10, .int .u8 9]
noncomputable def gl7 : List AV := [.int .u8 0, .int .u8 1, .int .u8 56, .int .u8 2, .int .u8 57, .int .u8 49, .int .u8 28, .int .u8 3, .int .u8 61, .int .u8 58, .int .u8 42, .int .u8 50, .int .u8 38, .int .u8 29, .int .u8 17, .int .u8 4, .int .u8 62, .int .u8 47, .int .u8 59, .int .u8 36, .int .u8 45, .int .u8 43, .int .u8 51, .int .u8 22, .int .u8 53, .int .u8 39, .int .u8 33, .int .u8 30, .int .u8 24, .int .u8 18, .int .u8 12, .int .u8 5, .int .u8 63, .int .u8 55, .int .u8 48, .int .u8 27, .int .u8 60, .int .u8 41, .int .u8 37, .int .u8 16, .int .u8 46, .int .u8 35, .int .u8 44, .int .u8 21, .int .u8 52, .int .u8 32, .int .u8 23, .int .u8 11, .int .u8 54, .int .u8 26, .int .u8 40, .int .u8 15, .int .u8 34, .int .u8 20, .int .u8 31, .int .u8 10, .int .u8 25, .int .u8 14, .int .u8 19, .int .u8 9, .int .u8 13, .int .u8 8, .int .u8 7, .int .u8 6]
noncomputable def gl8 : List AV := [.iface 545 (.fptr [.str [105, 110, 118, 97, 108, 105, 100, 32, 115, 121, 110, 116, 97, 120]] 0)]
noncomputable def gl9 : List AV := [.iface 545 (.fptr [.str [118, 97, 108, 117, 101, 32, 111, 117, 116, 32, 111, 102, 32, 114, 97, 110, 103, 101]] 0)]
/-- What the package-level variables hold. -/
noncomputable def gl : Nat → Option (List AV) := fun n => match n with
  | 4 => some gl4
  | 6 => some gl6
  | 7 => some gl7
  | 8 => some gl8
  | 9 => some gl9
  | _ => none
noncomputable def E0 : Env := env gl fun _ => none
noncomputable def K0 : CallF := callN (OK PR E0) (LoopOK PR E0) E0 100000 2000
theorem K0_ok : CallOK PR E0 K0 := am_ok (env_ok _ _) (env_draws _ _) mixed (fun f args v h => by simp [shortOf, E0, env] at h) _ _
/-- A summary: a call with these arguments gives this, whatever the memory is, and turns nothing. -/
def Sm (f : Nat) (args : List AV) (v : AV) : Prop := ∀ h, OK PR E0 f args h v h
theorem Sm.of {f : Nat} {args : List AV} {scr rest : List Cmd} {v : AV} {rd : List Nat} {obs : List Prop}
    (hb : ∀ h, doCall E0 K0 f args h 0 ⟨scr, []⟩ = some (⟨v, [], rd⟩, ⟨rest, obs⟩)) (ho : AllP obs) : Sm f args v := fun h => .of_run K0_ok (hb h) ho
theorem most_ok : Sm 352 [] (.agg [.int .u64 542101086242752, .int .u64 4003012203950112768]) := .of (scr := []) (rest := []) (rd := []) (obs := []) (fun h => by kernel_rfl) trivial
/-- What is known of some functions, so that they are not run. -/
noncomputable def short1 : Nat → Option (List AV → Option AV) := fun f => match Nat.beq f 352 with
  | true => some fun a => match a with
    | [] => some (.agg [.int .u64 542101086242752, .int .u64 4003012203950112768])
    | _ => none
  | false => none
noncomputable def E1 : Env := env gl short1
noncomputable def K1 : CallF := callN (OK PR E1) (LoopOK PR E1) E1 100000 2000
theorem K1_ok : CallOK PR E1 K1 := am_ok (env_ok _ _) (env_draws _ _) mixed (fun f args v hs h => by
  have hs' : shortOf (env gl short1) f args = some v := hs
  unfold shortOf env short1 at hs'
  dsimp only at hs'
  rcases hb : Nat.beq f 352 with _ | _ <;> simp only [hb] at hs'
  · cases hs'
  · obtain rfl := Nat.eq_of_beq_eq_true hb
    split at hs'
    · simp only [Option.some.injEq] at hs'
      subst hs'
      exact OK.env (E := E0) (E' := env gl short1) rfl (most_ok h)
    · cases hs') _ _
theorem Sm.of1 {f : Nat} {args : List AV} {scr rest : List Cmd} {v : AV} {rd : List Nat} {obs : List Prop}
    (hb : ∀ h, doCall E1 K1 f args h 0 ⟨scr, []⟩ = some (⟨v, [], rd⟩, ⟨rest, obs⟩)) (ho : AllP obs) : Sm f args v := fun h => OK.env (E := E1) (E' := E0) rfl (OK.of_run K1_ok (hb h) ho)
theorem Sm.e1 {f : Nat} {args : List AV} {v : AV} (hs : Sm f args v) : OK PR E1 f args [] v [] := OK.env (E := E0) (E' := E1) rfl (hs [])
/-! ## What is owed, one by one -/
theorem an : AllP [] := trivial
theorem ac1 {p0 : Prop} {l : List Prop} (h0 : p0) (r : AllP l) : AllP (p0 :: l) := ⟨h0, r⟩
theorem ac2 {p0 p1 : Prop} {l : List Prop} (h0 : p0) (h1 : p1) (r : AllP l) : AllP (p0 :: p1 :: l) := ⟨h0, h1, r⟩
theorem ac4 {p0 p1 p2 p3 : Prop} {l : List Prop} (h0 : p0) (h1 : p1) (h2 : p2) (h3 : p3) (r : AllP l) : AllP (p0 :: p1 :: p2 :: p3 :: l) := ⟨h0, h1, h2, h3, r⟩
theorem ac8 {p0 p1 p2 p3 p4 p5 p6 p7 : Prop} {l : List Prop} (h0 : p0) (h1 : p1) (h2 : p2) (h3 : p3) (h4 : p4) (h5 : p5) (h6 : p6) (h7 : p7) (r : AllP l) : AllP (p0 :: p1 :: p2 :: p3 :: p4 :: p5 :: p6 :: p7 :: l) := ⟨h0, h1, h2, h3, h4, h5, h6, h7, r⟩
theorem ac16 {p0 p1 p2 p3 p4 p5 p6 p7 p8 p9 p10 p11 p12 p13 p14 p15 : Prop} {l : List Prop} (h0 : p0) (h1 : p1) (h2 : p2) (h3 : p3) (h4 : p4) (h5 : p5) (h6 : p6) (h7 : p7) (h8 : p8) (h9 : p9) (h10 : p10) (h11 : p11) (h12 : p12) (h13 : p13) (h14 : p14) (h15 : p15) (r : AllP l) : AllP (p0 :: p1 :: p2 :: p3 :: p4 :: p5 :: p6 :: p7 :: p8 :: p9 :: p10 :: p11 :: p12 :: p13 :: p14 :: p15 :: l) := ⟨h0, h1, h2, h3, h4, h5, h6, h7, h8, h9, h10, h11, h12, h13, h14, h15, r⟩
/-- A byte below 128 is a rune. -/
def U8 (l : List Nat) (i r : Nat) : Prop := Utf8.decode ⟨(List.map UInt8.ofNat l).toArray⟩ i = (r, 1)
/-- At which place a byte is. -/
def FI (c : Int) (l : List Nat) : Int := match List.findIdx? (fun (b : Nat) => (b : Int) == c) l with | some i => (i : Int) | none => -1
end Go.Proofs.YtmekaipcoghlfaaGreatDoor
end
noncomputable section
namespace Go.Proofs.YtmekaipcoghlfaaGreatDoor
open Go Go.Am Go.Proofs
noncomputable def X1 : Ctx := ⟨E1, K1, 100000, LoopOK PR E1⟩
/-- A loop's rounds, from any state. -/
theorem LoopOK.of {c : Code} {S S' : St} {x : X} {n : Nat} {scr rest : List Cmd} {obs : List Prop} (hd : codeDraws c = true)
    (hb : loopA (LoopOK PR E1 c) (execA X1 c) n S ⟨scr, []⟩ = some ((x, S'), ⟨rest, obs⟩)) (ho : AllP obs) : LoopOK PR E1 c S x S' := by
  intro w g a Q hr ha hQ
  have hE : EnvOK PR E1 := env_ok _ _
  have hD : DoCallOK PR E1 K1 := doCall_ok K1_ok
  have hM : MonoC K1 := mono_callN _ _ _ _ _
  have hDr : DrawsOK PR E1 K1 := draws_ok hE mixed hD hM
  have ho' : Tr.holds ⟨rest, obs⟩ := fun p hp => ho.holds p hp
  revert w g a
  generalize (⟨scr, []⟩ : Tr) = t at hb
  generalize (⟨rest, obs⟩ : Tr) = t' at hb ho'
  induction n generalizing S t with
  | zero => exact (fail_inv hb).elim
  | succ n ih =>
    intro w g a hr ha hQ
    unfold loopA at hb
    split at hb
    · rename_i x1 S1 r hn
      simp only [Option.some.injEq, Prod.mk.injEq] at hb
      obtain ⟨⟨rfl, rfl⟩, rfl⟩ := hb
      exact ho' (LoopOK PR E1 c S x1 S1) (List.mem_cons_self ..) w g a Q hr ha hQ
    · rename_i r hn
      split at hb
      · rename_i S1 t1 h1
        have ho1 : t1.holds := (mono_loopA (fun S => mono_execA X1 hM c S) n S1).holds hb ho'
        refine LoopWp.round (execA_ok (C := X1) hE hD hM hDr (fun _ _ _ _ h => h) c S _ _ S1 t1 hd h1 ho1 w g a _ hr ha fun w1 g1 a1 m1 m2 m3 => ?_)
        exact ih t1 hb w1 g1 a1 m1 m2 fun w2 g2 a2 n1 n2 n3 => hQ w2 g2 a2 n1 n2 (m3.trans n3)
      · rename_i hnn
        refine LoopWp.round (execA_ok (C := X1) hE hD hM hDr (fun _ _ _ _ h => h) c S _ x S' t' hd hb ho' w g a _ hr ha fun w1 g1 a1 m1 m2 m3 => ?_)
        have hx : x ≠ .normal := by
          rintro rfl
          exact hnn _ _ hb
        cases x with
        | normal => exact absurd rfl hx
        | exit id => exact hQ w1 g1 a1 m1 m2 m3
        | ret => exact hQ w1 g1 a1 m1 m2 m3
    · cases hb
/-- The loops of a code, as they stand. -/
def loopsOf : Code → List Code
  | .seq a b => loopsOf a ++ loopsOf b
  | .cond _ a b => loopsOf a ++ loopsOf b
  | .block _ c => loopsOf c
  | .loop c => c :: loopsOf c
  | _ => []
/-- The k-th loop of a function. -/
def lc (f k : Nat) : Code := match E1.fn f with
  | some i => (loopsOf i.body).getD k .skip
  | none => .skip
def bOr (k : IntKind) (a b : Int) : Int := k.wrap ((BitVec.ofInt k.bits a ||| BitVec.ofInt k.bits b).toNat : Nat)
def bAnd (k : IntKind) (a b : Int) : Int := k.wrap ((BitVec.ofInt k.bits a &&& BitVec.ofInt k.bits b).toNat : Nat)
/-- Some temporaries as junk. -/
def junkT : List Nat → Tms → Tms
  | [], s => s
  | k :: r, s => junkT r (Tms.set s k .junk)
theorem trJunk {w : World} {g : Gh} {h : Heap} {a : Array Value} : ∀ (ks : List Nat) {s : Tms}, TR w g h s a → TR w g h (junkT ks s) a
  | [], _, ht => ht
  | k :: r, s, ht => by
    refine trJunk r ?_
    have := ht.set (x := .junk) (v := a.getD k undef) (.junk _) k
    have e : a.setIfInBounds k (a.getD k undef) = a := by
      apply Array.ext_getElem?
      intro i
      rw [Array.getElem?_setIfInBounds]
      split
      · rename_i hk
        subst hk
        split
        · rename_i hlt
          simp [Array.getD_eq_getD_getElem?, hlt]
        · rename_i hlt
          rw [Array.getElem?_eq_none (by omega)]
      · rfl
    rwa [e] at this
/-- Temporaries that are not looked at again may be anything. -/
theorem LoopOK.junk {c : Code} {S S' : St} {x : X} (ks : List Nat) (h : LoopOK PR E1 c ⟨junkT ks S.tmps, S.heap, S.defers⟩ x S') : LoopOK PR E1 c S x S' :=
  fun w g a Q hr ha hQ => h w g a Q hr ⟨trJunk ks ha.tmps, ha.dfr⟩ hQ
/-- So may those of a loop's end. -/
theorem LoopOK.junk' {c : Code} {S S' : St} {x : X} (ks : List Nat) (h : LoopOK PR E1 c S x S') : LoopOK PR E1 c S x ⟨junkT ks S'.tmps, S'.heap, S'.defers⟩ :=
  fun w g a Q hr ha hQ => h w g a Q hr ha fun w1 g1 a1 m1 m2 m3 => hQ w1 g1 a1 m1 ⟨trJunk ks m2.tmps, m2.dfr⟩ m3
end Go.Proofs.YtmekaipcoghlfaaGreatDoor
end
