/- Of every drawn letter: RuneBidi, RuneLine and RuneWide are the reference's and lie in their reaches, and no width is left exactly for marks, for what bounds and for line ends: the law FnRuneTables answers true; no condition. -/
import Derived.Test.YtgcjhenfggcbmaaPFnRuneTablesx7
namespace Go.Proofs.Ytgcjhenfggcbmaa.Pure
open Go.RowKit Go.Proofs.Ytgcjhenfggcbmaa.PFnRuneTables Go.Proofs.YtgcjhenfggcbmaaW.PrintWords Go.Proofs.YtgcjhenfggcbmaaW.PrintLast Go.Proofs.YtgcjhenfggcbmaaW.PrintMore
set_option linter.unusedVariables false
set_option linter.unusedSimpArgs false

/-! small lemmas on whole numbers, lists and rounds -/
theorem w64 {x : Int} (h : -9223372036854775808 ≤ x) (h' : x ≤ 9223372036854775807) : wrap64 x = x := by
  unfold wrap64
  omega
theorem in_i64 {x : Int} (h : (Lit.int .i64 x).wf = true) : -9223372036854775808 ≤ x ∧ x ≤ 9223372036854775807 := by
  simpa [Lit.wf, IntKind.min, IntKind.max, IntKind.bits, IntKind.signed] using h
theorem in_u8 {x : Int} (h : (Lit.int .u8 x).wf = true) : 0 ≤ x ∧ x ≤ 255 := by
  simpa [Lit.wf, IntKind.min, IntKind.max, IntKind.bits, IntKind.signed] using h
theorem rd_nat (l : List Int) (i : Nat) : rd l (i : Int) = l.getD i 0 := by
  unfold rd
  rw [Int.toNat_natCast]

/-- the class of a letter for its side -/
def bidi (a : Int) : Int :=
  if (97 ≤ a ∧ a ≤ 122) ∨ (65 ≤ a ∧ a ≤ 90) ∨ (19968 ≤ a ∧ a ≤ 40959) then 1 else if 1488 ≤ a ∧ a ≤ 1514 then 2 else if 1569 ≤ a ∧ a ≤ 1610 then 3
  else if 48 ≤ a ∧ a ≤ 57 then 4 else if 1632 ≤ a ∧ a ≤ 1641 then 7 else if a = 43 ∨ a = 45 then 5 else if 35 ≤ a ∧ a ≤ 37 then 6
  else if a = 44 ∨ a = 46 ∨ a = 47 ∨ a = 58 then 8 else if 768 ≤ a ∧ a ≤ 879 then 9 else if a = 8203 ∨ a = 8205 ∨ a = 173 then 10
  else if a = 9 then 11 else if a = 32 then 12 else if 8234 ≤ a ∧ a ≤ 8238 then a - 8220 else if 8294 ≤ a ∧ a ≤ 8297 then a - 8275 else 13
theorem or_ite {α : Type} {p q : Prop} [Decidable p] [Decidable q] (x y : α) : (if p ∨ q then x else y) = if p then x else if q then x else y := by
  by_cases h1 : p <;> by_cases h2 : q <;> simp [h1, h2]

theorem specIn (a b c : Int) : spec_l1In.f a b c = some (decide (b ≤ a ∧ a ≤ c)) := by
  unfold spec_l1In.f
  by_cases h1 : b ≤ a <;> by_cases h2 : a ≤ c <;> simp [h1, h2]

theorem specMoves (a : Int) (k : Nat) (hk : 12 ≤ k) : spec_l1Moves.f k a = some (if 8234 ≤ a ∧ a ≤ 8238 then a - 8220 else if 8294 ≤ a ∧ a ≤ 8297 then a - 8275 else 13) := by
  obtain ⟨k, rfl⟩ : ∃ m, k = m + 12 := ⟨k - 12, by omega⟩
  unfold spec_l1Moves.f
  by_cases h1 : a = 8234
  · subst h1; simp [spec_l1Moves.l0, rd, wrap64]
  by_cases h2 : a = 8235
  · subst h2; simp [spec_l1Moves.l0, rd, wrap64]
  by_cases h3 : a = 8236
  · subst h3; simp [spec_l1Moves.l0, rd, wrap64]
  by_cases h4 : a = 8237
  · subst h4; simp [spec_l1Moves.l0, rd, wrap64]
  by_cases h5 : a = 8238
  · subst h5; simp [spec_l1Moves.l0, rd, wrap64]
  by_cases h6 : a = 8294
  · subst h6; simp [spec_l1Moves.l0, rd, wrap64]
  by_cases h7 : a = 8295
  · subst h7; simp [spec_l1Moves.l0, rd, wrap64]
  by_cases h8 : a = 8296
  · subst h8; simp [spec_l1Moves.l0, rd, wrap64]
  by_cases h9 : a = 8297
  · subst h9; simp [spec_l1Moves.l0, rd, wrap64]
  rw [if_neg (by omega), if_neg (by omega)]
  simp [spec_l1Moves.l0, rd, wrap64, Ne.symm h1, Ne.symm h2, Ne.symm h3, Ne.symm h4, Ne.symm h5, Ne.symm h6, Ne.symm h7, Ne.symm h8, Ne.symm h9, eq_comm, h1, h2, h3, h4, h5, h6, h7, h8, h9]
/-- the class of a sign -/
def bsign (a : Int) : Int :=
  if a = 43 ∨ a = 45 then 5 else if 35 ≤ a ∧ a ≤ 37 then 6
  else if a = 44 ∨ a = 46 ∨ a = 47 ∨ a = 58 then 8 else if 768 ≤ a ∧ a ≤ 879 then 9 else if a = 8203 ∨ a = 8205 ∨ a = 173 then 10
  else if a = 9 then 11 else if a = 32 then 12 else if 8234 ≤ a ∧ a ≤ 8238 then a - 8220 else if 8294 ≤ a ∧ a ≤ 8297 then a - 8275 else 13
theorem specSigns (a : Int) (k : Nat) (hk : 20 ≤ k) : spec_l1Signs.f k a = some (bsign a) := by
  obtain ⟨k, rfl⟩ : ∃ m, k = m + 20 := ⟨k - 20, by omega⟩
  unfold spec_l1Signs.f bsign
  simp only [spec_l1Signs.j0, spec_l1Signs.j1, spec_l1Signs.j2, specIn, specMoves a _ (show 12 ≤ k + 17 by omega), Option.bind_some, decide_eq_true_eq, beq_iff_eq, if_true, ↓reduceIte]
  simp only [or_ite, apply_ite some]
theorem specBidi (a : Int) (k : Nat) (hk : 30 ≤ k) : spec_RuneBidi.f k a = some (bidi a) := by
  obtain ⟨k, rfl⟩ : ∃ m, k = m + 30 := ⟨k - 30, by omega⟩
  unfold spec_RuneBidi.f bidi
  simp only [spec_RuneBidi.j0, specIn, specSigns a _ (show 20 ≤ k + 29 by omega), Option.bind_some, decide_eq_true_eq, if_true, ↓reduceIte, bsign]
  simp only [or_ite, apply_ite some]

theorem lookR_is {l : List _} {a o b : Int} (h1 : ∀ x ∈ l, hitR x a = true → x.f2 = b) (h2 : (∀ x ∈ l, hitR x a = false) → o = b) : lookR l a o = b := by
  induction l with
  | nil => exact h2 (fun x hx => by cases hx)
  | cons x xs ih =>
    cases hh : hitR x a with
    | true =>
      have : lookR (x :: xs) a o = x.f2 := by simp [lookR, List.find?_cons, hh]
      rw [this]
      exact h1 x List.mem_cons_self hh
    | false =>
      have : lookR (x :: xs) a o = lookR xs a o := by simp [lookR, List.find?_cons, hh]
      rw [this]
      exact ih (fun y hy => h1 y (List.mem_cons_of_mem _ hy)) (fun hn => h2 (fun y hy => by
        rcases List.mem_cons.1 hy with rfl | hy
        · exact hh
        · exact hn y hy))
theorem bidi_none {a : Int} (h1 : ¬ (9 ≤ a ∧ a ≤ 9)) (h2 : ¬ (32 ≤ a ∧ a ≤ 32)) (h3 : ¬ (35 ≤ a ∧ a ≤ 37)) (h4 : ¬ (43 ≤ a ∧ a ≤ 43)) (h5 : ¬ (44 ≤ a ∧ a ≤ 44)) (h6 : ¬ (45 ≤ a ∧ a ≤ 45)) (h7 : ¬ (46 ≤ a ∧ a ≤ 47)) (h8 : ¬ (48 ≤ a ∧ a ≤ 57)) (h9 : ¬ (58 ≤ a ∧ a ≤ 58)) (h10 : ¬ (65 ≤ a ∧ a ≤ 90)) (h11 : ¬ (97 ≤ a ∧ a ≤ 122)) (h12 : ¬ (173 ≤ a ∧ a ≤ 173)) (h13 : ¬ (768 ≤ a ∧ a ≤ 879)) (h14 : ¬ (1488 ≤ a ∧ a ≤ 1514)) (h15 : ¬ (1569 ≤ a ∧ a ≤ 1610)) (h16 : ¬ (1632 ≤ a ∧ a ≤ 1641)) (h17 : ¬ (8203 ≤ a ∧ a ≤ 8203)) (h18 : ¬ (8205 ≤ a ∧ a ≤ 8205)) (h19 : ¬ (8234 ≤ a ∧ a ≤ 8234)) (h20 : ¬ (8235 ≤ a ∧ a ≤ 8235)) (h21 : ¬ (8236 ≤ a ∧ a ≤ 8236)) (h22 : ¬ (8237 ≤ a ∧ a ≤ 8237)) (h23 : ¬ (8238 ≤ a ∧ a ≤ 8238)) (h24 : ¬ (8294 ≤ a ∧ a ≤ 8294)) (h25 : ¬ (8295 ≤ a ∧ a ≤ 8295)) (h26 : ¬ (8296 ≤ a ∧ a ≤ 8296)) (h27 : ¬ (8297 ≤ a ∧ a ≤ 8297)) (h28 : ¬ (19968 ≤ a ∧ a ≤ 40959)) : bidi a = 13 := by
  have e43 : ¬ a = 43 := (fun e => h4 ⟨by omega, by omega⟩)
  have e45 : ¬ a = 45 := (fun e => h6 ⟨by omega, by omega⟩)
  have e44 : ¬ a = 44 := (fun e => h5 ⟨by omega, by omega⟩)
  have e58 : ¬ a = 58 := (fun e => h9 ⟨by omega, by omega⟩)
  have e8203 : ¬ a = 8203 := (fun e => h17 ⟨by omega, by omega⟩)
  have e8205 : ¬ a = 8205 := (fun e => h18 ⟨by omega, by omega⟩)
  have e173 : ¬ a = 173 := (fun e => h12 ⟨by omega, by omega⟩)
  have e9 : ¬ a = 9 := (fun e => h1 ⟨by omega, by omega⟩)
  have e32 : ¬ a = 32 := (fun e => h2 ⟨by omega, by omega⟩)
  have e8234 : ¬ a = 8234 := (fun e => h19 ⟨by omega, by omega⟩)
  have e8235 : ¬ a = 8235 := (fun e => h20 ⟨by omega, by omega⟩)
  have e8236 : ¬ a = 8236 := (fun e => h21 ⟨by omega, by omega⟩)
  have e8237 : ¬ a = 8237 := (fun e => h22 ⟨by omega, by omega⟩)
  have e8238 : ¬ a = 8238 := (fun e => h23 ⟨by omega, by omega⟩)
  have e8294 : ¬ a = 8294 := (fun e => h24 ⟨by omega, by omega⟩)
  have e8295 : ¬ a = 8295 := (fun e => h25 ⟨by omega, by omega⟩)
  have e8296 : ¬ a = 8296 := (fun e => h26 ⟨by omega, by omega⟩)
  have e8297 : ¬ a = 8297 := (fun e => h27 ⟨by omega, by omega⟩)
  have e46 : ¬ a = 46 := (fun e => h7 ⟨by omega, by omega⟩)
  have e47 : ¬ a = 47 := (fun e => h7 ⟨by omega, by omega⟩)
  have g1 : ¬ (8234 ≤ a ∧ a ≤ 8238) := by clear h1 h2 h3 h4 h5 h6 h7 h8 h9 h10 h11 h12 h13 h14 h15 h16 h17 h18 h19 h20 h21 h22 h23 h24 h25 h26 h27 h28; omega
  have g2 : ¬ (8294 ≤ a ∧ a ≤ 8297) := by clear h1 h2 h3 h4 h5 h6 h7 h8 h9 h10 h11 h12 h13 h14 h15 h16 h17 h18 h19 h20 h21 h22 h23 h24 h25 h26 h27 h28 g1; omega
  unfold bidi
  simp only [h1, h2, h3, h4, h5, h6, h7, h8, h9, h10, h11, h12, h13, h14, h15, h16, h17, h18, h19, h20, h21, h22, h23, h24, h25, h26, h27, h28, e43, e45, e44, e58, e8203, e8205, e173, e9, e32, e46, e47, g1, g2, or_self, if_false, ↓reduceIte]
theorem implBidi (a : Int) : impl_RuneBidi.f a = some (bidi a) := by
  unfold impl_RuneBidi.f impl_bidiReaches.f impl_find.f
  simp only [Option.bind_some]
  rw [if_pos ⟨by decide, by decide⟩]
  simp only [Option.bind_some, Option.some.injEq]
  apply lookR_is
  · intro x hx hh
    unfold hitR at hh
    simp only [List.mem_cons, List.not_mem_nil, or_false] at hx
    simp only [Bool.and_eq_true, decide_eq_true_eq] at hh
    obtain ⟨h1, h2⟩ := hh
    unfold bidi
    rcases hx with rfl | rfl | rfl | rfl | rfl | rfl | rfl | rfl | rfl | rfl | rfl | rfl | rfl | rfl | rfl | rfl | rfl | rfl | rfl | rfl | rfl | rfl | rfl | rfl | rfl | rfl | rfl | rfl
    all_goals
      simp only [] at h1 h2 ⊢
      simp (disch := omega) only [if_pos, if_neg]
      try omega
  · intro hn
    simp only [List.mem_cons, List.not_mem_nil, or_false, forall_eq_or_imp, forall_eq, hitR, Bool.and_eq_false_iff, decide_eq_false_iff_not, ← Classical.not_and_iff_not_or_not] at hn
    obtain ⟨h1, h2, h3, h4, h5, h6, h7, h8, h9, h10, h11, h12, h13, h14, h15, h16, h17, h18, h19, h20, h21, h22, h23, h24, h25, h26, h27, h28⟩ := hn
    exact (bidi_none h1 h2 h3 h4 h5 h6 h7 h8 h9 h10 h11 h12 h13 h14 h15 h16 h17 h18 h19 h20 h21 h22 h23 h24 h25 h26 h27 h28).symm

/-! the class of a letter -/

theorem and_ite {α : Type} {p q : Prop} [Decidable p] [Decidable q] (x y : α) : (if p ∧ q then x else y) = if p then (if q then x else y) else y := by
  by_cases h1 : p <;> by_cases h2 : q <;> simp [h1, h2]
theorem dup_ite {α : Type} {p : Prop} [Decidable p] (x y z : α) : (if p then (if p then x else y) else z) = if p then x else z := by
  by_cases h1 : p <;> simp [h1]

def lsign (a : Int) : Int :=
  if a = 40 ∨ a = 91 ∨ a = 123 then 8 else if a = 41 ∨ a = 93 ∨ a = 125 then 9 else if a = 33 ∨ a = 63 then 10 else if a = 34 then 11
  else if a = 45 then 12 else if a = 44 ∨ a = 46 ∨ a = 58 ∨ a = 59 ∨ a = 47 then 13 else if a = 9 ∨ a = 173 then 14 else 1
/-- the class of a letter for the line -/
def lineC (a : Int) : Int :=
  if a = 10 then 4 else if a = 32 then 3 else if a = 160 then 5 else if a = 8203 then 6 else if bidi a = 9 ∨ a = 8205 ∨ 14 ≤ bidi a then 7
  else if (48 ≤ a ∧ a ≤ 57) ∨ (1632 ≤ a ∧ a ≤ 1641) then 2 else if 19968 ≤ a ∧ a ≤ 40959 then 15 else lsign a
theorem specLSigns (a : Int) (k : Nat) (hk : 20 ≤ k) : spec_l5Signs.f k a = some (lsign a) := by
  obtain ⟨k, rfl⟩ : ∃ m, k = m + 20 := ⟨k - 20, by omega⟩
  unfold spec_l5Signs.f lsign
  simp only [spec_l5Signs.j0, spec_l5Signs.j1, spec_l5Signs.j2, spec_l5Signs.j3, Option.bind_some, beq_iff_eq]
  simp only [dup_ite, or_ite, apply_ite some]
theorem specLine (a : Int) (k : Nat) (hk : 40 ≤ k) : spec_RuneLine.f k a = some (lineC a) := by
  obtain ⟨k, rfl⟩ : ∃ m, k = m + 40 := ⟨k - 40, by omega⟩
  unfold spec_RuneLine.f lineC
  rw [specBidi a _ (by omega)]
  generalize bidi a = c
  simp only [spec_RuneLine.j0, spec_RuneLine.j1, specIn, specLSigns a _ (show 20 ≤ k + 38 by omega), Option.bind_some, decide_eq_true_eq, if_true, ↓reduceIte, ge_iff_le]
  simp only [or_ite, apply_ite some]
theorem line_none {a : Int} (hb : ¬ bidi a = 9) (hb' : ¬ 14 ≤ bidi a) (h1 : ¬ (9 ≤ a ∧ a ≤ 9)) (h2 : ¬ (10 ≤ a ∧ a ≤ 10)) (h3 : ¬ (32 ≤ a ∧ a ≤ 32)) (h4 : ¬ (33 ≤ a ∧ a ≤ 33)) (h5 : ¬ (34 ≤ a ∧ a ≤ 34)) (h6 : ¬ (40 ≤ a ∧ a ≤ 40)) (h7 : ¬ (41 ≤ a ∧ a ≤ 41)) (h8 : ¬ (44 ≤ a ∧ a ≤ 44)) (h9 : ¬ (45 ≤ a ∧ a ≤ 45)) (h10 : ¬ (46 ≤ a ∧ a ≤ 47)) (h11 : ¬ (48 ≤ a ∧ a ≤ 57)) (h12 : ¬ (58 ≤ a ∧ a ≤ 59)) (h13 : ¬ (63 ≤ a ∧ a ≤ 63)) (h14 : ¬ (91 ≤ a ∧ a ≤ 91)) (h15 : ¬ (93 ≤ a ∧ a ≤ 93)) (h16 : ¬ (123 ≤ a ∧ a ≤ 123)) (h17 : ¬ (125 ≤ a ∧ a ≤ 125)) (h18 : ¬ (160 ≤ a ∧ a ≤ 160)) (h19 : ¬ (173 ≤ a ∧ a ≤ 173)) (h20 : ¬ (1632 ≤ a ∧ a ≤ 1641)) (h21 : ¬ (8203 ≤ a ∧ a ≤ 8203)) (h22 : ¬ (8205 ≤ a ∧ a ≤ 8205)) (h23 : ¬ (19968 ≤ a ∧ a ≤ 40959)) : lineC a = 1 := by
  have g : ∀ z : Int, ¬ (z ≤ a ∧ a ≤ z) → ¬ a = z := fun z h e => h ⟨by omega, by omega⟩
  have e46 : ¬ a = 46 := fun e => h10 ⟨by omega, by omega⟩
  have e47 : ¬ a = 47 := fun e => h10 ⟨by omega, by omega⟩
  have e58 : ¬ a = 58 := fun e => h12 ⟨by omega, by omega⟩
  have e59 : ¬ a = 59 := fun e => h12 ⟨by omega, by omega⟩
  unfold lineC lsign
  simp only [hb, hb', g 9 h1, g 10 h2, g 32 h3, g 33 h4, g 34 h5, g 40 h6, g 41 h7, g 44 h8, g 45 h9, e46, e47, h11, e58, e59, g 63 h13, g 91 h14, g 93 h15, g 123 h16, g 125 h17, g 160 h18, g 173 h19, h20, g 8203 h21, g 8205 h22, h23, or_self, if_false, ↓reduceIte]
theorem implLine (a : Int) (k : Nat) (hk : 2 ≤ k) : impl_RuneLine.f k a = some (lineC a) := by
  obtain ⟨k, rfl⟩ : ∃ m, k = m + 2 := ⟨k - 2, by omega⟩
  unfold impl_RuneLine.f
  rw [implBidi a]
  simp only [impl_RuneLine.j0, Option.bind_some, decide_eq_true_eq, ge_iff_le, if_true]
  by_cases hb : bidi a = 9 ∨ 14 ≤ bidi a
  · have n10 : ¬ a = 10 := by rintro rfl; exact absurd hb (by decide)
    have n32 : ¬ a = 32 := by rintro rfl; exact absurd hb (by decide)
    have n160 : ¬ a = 160 := by rintro rfl; exact absurd hb (by decide)
    have n8203 : ¬ a = 8203 := by rintro rfl; exact absurd hb (by decide)
    have e : lineC a = 7 := by
      unfold lineC
      rw [if_neg n10, if_neg n32, if_neg n160, if_neg n8203, if_pos (by omega)]
    rw [e]
    rcases hb with h | h
    · rw [if_pos h]
    · rw [if_neg (by omega), if_pos h]
  have hb9 : ¬ bidi a = 9 := fun h => hb (.inl h)
  have hb14 : ¬ 14 ≤ bidi a := fun h => hb (.inr h)
  rw [if_neg hb9, if_neg hb14]
  unfold impl_lineReaches.f impl_find.f
  simp only [Option.bind_some]
  rw [if_pos ⟨by decide, by decide⟩]
  simp only [Option.bind_some, Option.some.injEq]
  clear hb
  apply lookR_is
  · intro x hx hh
    unfold hitR at hh
    simp only [List.mem_cons, List.not_mem_nil, or_false] at hx
    simp only [Bool.and_eq_true, decide_eq_true_eq] at hh
    obtain ⟨h1, h2⟩ := hh
    generalize hc : bidi a = c at hb9 hb14
    unfold lineC lsign
    rw [hc]
    clear hc
    rcases hx with rfl | rfl | rfl | rfl | rfl | rfl | rfl | rfl | rfl | rfl | rfl | rfl | rfl | rfl | rfl | rfl | rfl | rfl | rfl | rfl | rfl | rfl | rfl
    all_goals
      simp only [] at h1 h2 ⊢
      simp (disch := omega) only [if_pos, if_neg]
      try omega
  · intro hn
    simp only [List.mem_cons, List.not_mem_nil, or_false, forall_eq_or_imp, forall_eq, hitR, Bool.and_eq_false_iff, decide_eq_false_iff_not, ← Classical.not_and_iff_not_or_not] at hn
    obtain ⟨h1, h2, h3, h4, h5, h6, h7, h8, h9, h10, h11, h12, h13, h14, h15, h16, h17, h18, h19, h20, h21, h22, h23⟩ := hn
    exact (line_none hb9 hb14 h1 h2 h3 h4 h5 h6 h7 h8 h9 h10 h11 h12 h13 h14 h15 h16 h17 h18 h19 h20 h21 h22 h23).symm

/-- how wide a letter is -/
def rwide (a : Int) : Int :=
  if bidi a = 9 ∨ bidi a = 10 ∨ 14 ≤ bidi a ∨ a = 10 ∨ a = 13 then 0
  else if a = 105 ∨ a = 106 ∨ a = 108 ∨ a = 102 ∨ a = 116 then 6
  else if a = 109 ∨ a = 119 then 16
  else if 19968 ≤ a ∧ a ≤ 40959 then 20
  else if bidi a = 2 ∨ bidi a = 3 then 12
  else if bidi a = 11 then 40
  else if bidi a = 12 ∨ bidi a = 8 then 6 else 10
theorem implWide (a : Int) (k : Nat) (hk : 10 ≤ k) : impl_RuneWide.f k a = some (rwide a) := by
  obtain ⟨k, rfl⟩ : ∃ m, k = m + 10 := ⟨k - 10, by omega⟩
  unfold impl_RuneWide.f rwide
  rw [implBidi a]
  generalize bidi a = c
  simp only [impl_RuneWide.j0, impl_RuneWide.j1, impl_RuneWide.j2, impl_RuneWide.j3, impl_RuneWide.j4, Option.bind_some, decide_eq_true_eq, beq_iff_eq, if_true, ↓reduceIte, ge_iff_le, Bool.false_eq_true, if_false]
  simp only [dup_ite, or_ite, and_ite, apply_ite some]

theorem specHas5 (a : Int) (k : Nat) (hk : 8 ≤ k) : spec_l1Has.f k [105, 106, 108, 102, 116] a = some (decide (a = 105 ∨ a = 106 ∨ a = 108 ∨ a = 102 ∨ a = 116)) := by
  obtain ⟨k, rfl⟩ : ∃ m, k = m + 8 := ⟨k - 8, by omega⟩
  unfold spec_l1Has.f
  by_cases h1 : a = 105
  · subst h1; simp [spec_l1Has.l0, rd, wrap64]
  by_cases h2 : a = 106
  · subst h2; simp [spec_l1Has.l0, rd, wrap64]
  by_cases h3 : a = 108
  · subst h3; simp [spec_l1Has.l0, rd, wrap64]
  by_cases h4 : a = 102
  · subst h4; simp [spec_l1Has.l0, rd, wrap64]
  by_cases h5 : a = 116
  · subst h5; simp [spec_l1Has.l0, rd, wrap64]
  have g1 : ¬ (105 = a) := fun h => h1 h.symm
  have g2 : ¬ (106 = a) := fun h => h2 h.symm
  have g3 : ¬ (108 = a) := fun h => h3 h.symm
  have g4 : ¬ (102 = a) := fun h => h4 h.symm
  have g5 : ¬ (116 = a) := fun h => h5 h.symm
  simp [spec_l1Has.l0, rd, wrap64, h1, h2, h3, h4, h5, g1, g2, g3, g4, g5]
theorem specWide (a : Int) (k : Nat) (hk : 40 ≤ k) : spec_RuneWide.f k a = some (rwide a) := by
  obtain ⟨k, rfl⟩ : ∃ m, k = m + 40 := ⟨k - 40, by omega⟩
  unfold spec_RuneWide.f rwide
  rw [specBidi a _ (by omega)]
  generalize bidi a = c
  simp only [spec_RuneWide.j0, spec_RuneWide.j1, spec_RuneWide.j2, specIn, specHas5 a _ (show 8 ≤ k + 39 by omega), Option.bind_some, decide_eq_true_eq, beq_iff_eq, if_true, ↓reduceIte, ge_iff_le]
  simp only [or_ite, apply_ite some]



/-! what is drawn: a reader of bytes -/
theorem xor_i64 (a b : Nat) (ha : a < 2 ^ 40) (hb : b < 2 ^ 40) : bits .xor .i64 (a : Int) (b : Int) = ((a ^^^ b : Nat) : Int) := by
  have hp : (2 : Nat) ^ 40 ≤ 2 ^ IntKind.i64.bits := by decide
  have ha' : a % 2 ^ IntKind.i64.bits = a := Nat.mod_eq_of_lt (Nat.lt_of_lt_of_le ha hp)
  have hb' : b % 2 ^ IntKind.i64.bits = b := Nat.mod_eq_of_lt (Nat.lt_of_lt_of_le hb hp)
  simp only [bits, BitVec.ofInt_natCast, BitVec.toNat_xor, BitVec.toNat_ofNat, ha', hb']
  have h := Nat.xor_lt_two_pow ha hb
  rw [IntKind.wrap_i64]
  omega
theorem xor_pos {x y : Int} (hx : 0 ≤ x) (hx' : x < 1099511627776) (hy : 0 ≤ y) (hy' : y < 1099511627776) : 0 ≤ bits .xor .i64 x y ∧ bits .xor .i64 x y < 1099511627776 := by
  obtain ⟨a, rfl⟩ := Int.eq_ofNat_of_zero_le hx
  obtain ⟨b, rfl⟩ := Int.eq_ofNat_of_zero_le hy
  have ha : a < 2 ^ 40 := by omega
  have hb : b < 2 ^ 40 := by omega
  rw [xor_i64 a b ha hb]
  have h := Nat.xor_lt_two_pow ha hb
  omega
theorem tmod_in {x n : Int} (hx : 0 ≤ x) (hn : 0 < n) : 0 ≤ Int.tmod x n ∧ Int.tmod x n < n := by
  rw [Int.tmod_eq_emod_of_nonneg hx]
  exact ⟨Int.emod_nonneg _ (by omega), Int.emod_lt_of_pos _ hn⟩
theorem tdiv_in {x n : Int} (hx : 0 ≤ x) (hn : 0 < n) : 0 ≤ Int.tdiv x n ∧ Int.tdiv x n ≤ x := by
  rw [Int.tdiv_eq_ediv_of_nonneg hx]
  exact ⟨Int.ediv_nonneg hx (by omega), Int.ediv_le_self _ hx⟩
/-- bytes -/
def Bytes (b : List Int) : Prop := b.length ≤ 2000 ∧ ∀ x ∈ b, 0 ≤ x ∧ x ≤ 255
theorem rd_byte {b : List Int} (hb : Bytes b) {i : Int} (h : i < b.length) (h0 : 0 ≤ i) : 0 ≤ rd b i ∧ rd b i ≤ 255 := by
  unfold rd
  have hi : i.toNat < b.length := by omega
  rw [List.getD_eq_getElem?_getD, List.getElem?_eq_getElem hi]
  exact hb.2 _ (List.getElem_mem hi)
theorem pick_ok {b : List Int} (hb : Bytes b) (p n : Int) (hp : 0 ≤ p) (hp' : p ≤ 1000000) (k : Nat) (hk : 1 ≤ k) :
    ∃ v, spec_l1Rd_pick.f k b p n = some (v, p + 1) ∧ 0 ≤ v ∧ (1 ≤ n → v < n) ∧ (n < 1 → v = 0) := by
  obtain ⟨k, rfl⟩ : ∃ m, k = m + 1 := ⟨k - 1, by omega⟩
  have hl := hb.1
  have e1 : wrap64 (p + 1) = p + 1 := w64 (by omega) (by omega)
  have e2 : wrap64 (p + 1 - 1) = p := by rw [w64 (by omega) (by omega)]; omega
  unfold spec_l1Rd_pick.f
  by_cases hn : n < 1
  · rw [if_pos hn, e1]
    simp only [spec_l1Rd_pick.j0, if_true]
    exact ⟨0, rfl, by omega, by omega, fun _ => rfl⟩
  · rw [if_neg hn, e1]
    by_cases h0 : b.length = 0
    · have e0 : ((b.length : Int) == 0) = true := by simp [h0]
      simp only [spec_l1Rd_pick.j0, e0, if_true]
      exact ⟨0, rfl, by omega, by omega, fun _ => rfl⟩
    · have e0 : ((b.length : Int) == 0) = false := by simp; intro h; exact h0 (by rw [h]; rfl)
      have hlen : (0 : Int) < b.length := by omega
      simp only [spec_l1Rd_pick.j0, e0, e2, Bool.false_eq_true, if_false]
      have hn0 : ¬ n = 0 := by omega
      by_cases hlt : p < (b.length : Int)
      · rw [if_pos hlt, if_pos hp, if_neg hn0]
        obtain ⟨r0, r1⟩ := rd_byte hb hlt hp
        rw [w64 (by omega) (by omega)]
        have h := tmod_in r0 (show 0 < n by omega)
        exact ⟨_, rfl, h.1, fun _ => h.2, fun h' => absurd h' hn⟩
      · have m1 := tmod_in hp hlen
        have e7 : wrap64 (wrap64 (p * 7) + 3) = p * 7 + 3 := by rw [w64 (x := p * 7) (by omega) (by omega), w64 (by omega) (by omega)]
        have m2 := tmod_in (show 0 ≤ p * 7 + 3 by omega) hlen
        have r1 := rd_byte hb m1.2 m1.1
        have r2 := rd_byte hb m2.2 m2.1
        have d1 := tdiv_in hp hlen
        rw [if_neg hlt, if_neg (by omega), if_pos m1.1, if_pos m1.2, e7, if_pos m2.1, if_pos m2.2, if_neg hn0]
        generalize rd b (Int.tmod p (b.length : Int)) = x1 at *
        generalize rd b (Int.tmod (p * 7 + 3) (b.length : Int)) = x2 at *
        generalize Int.tdiv p (b.length : Int) = x3 at *
        have eX : wrap64 (wrap64 (wrap64 (wrap64 (wrap64 x1 * 131) + wrap64 (wrap64 x2 * 1117)) + wrap64 (p * 29)) + wrap64 (wrap64 x3 * 53)) = x1 * 131 + x2 * 1117 + p * 29 + x3 * 53 := by
          rw [w64 (x := x1) (by omega) (by omega), w64 (x := x2) (by omega) (by omega), w64 (x := x3) (by omega) (by omega), w64 (x := x1 * 131) (by omega) (by omega), w64 (x := x2 * 1117) (by omega) (by omega), w64 (x := p * 29) (by omega) (by omega), w64 (x := x3 * 53) (by omega) (by omega), w64 (x := x1 * 131 + x2 * 1117) (by omega) (by omega), w64 (x := x1 * 131 + x2 * 1117 + p * 29) (by omega) (by omega), w64 (by omega) (by omega)]
        rw [eX]
        have hX0 : 0 ≤ x1 * 131 + x2 * 1117 + p * 29 + x3 * 53 := by omega
        have hX1 : x1 * 131 + x2 * 1117 + p * 29 + x3 * 53 < 1000000000 := by omega
        generalize x1 * 131 + x2 * 1117 + p * 29 + x3 * 53 = X at *
        have d2 := tdiv_in hX0 (show (0 : Int) < 64 by omega)
        rw [w64 (x := Int.tdiv X 64) (by omega) (by omega)]
        have hx := xor_pos hX0 (by omega) d2.1 (by omega)
        have h := tmod_in hx.1 (show 0 < n by omega)
        exact ⟨_, rfl, h.1, fun _ => h.2, fun h' => absurd h' hn⟩
theorem open_ok {l : List Int} (h : ∀ x ∈ l, (Lit.int .u8 x).wf = true) : ∃ b, spec_l1Open.f l = some (b, 0) ∧ Bytes b := by
  unfold spec_l1Open.f
  by_cases h1 : (l.length : Int) > 2000
  · rw [if_pos h1, if_pos (by omega)]
    exact ⟨_, rfl, by rw [List.length_take]; omega, fun x hx => in_u8 (h x (List.mem_of_mem_take hx))⟩
  · rw [if_neg h1]
    exact ⟨_, rfl, by omega, fun x hx => in_u8 (h x hx)⟩

theorem one_ok {b : List Int} (hb : Bytes b) (p : Int) (hp : 0 ≤ p) (hp' : p ≤ 1000000) (l : List Int) (hl : 1 ≤ l.length) (k : Nat) (hk : 1 ≤ k) :
    ∃ v, spec_l1Rd_one.f k b p l = some (v, p + 1) ∧ v ∈ l := by
  obtain ⟨v, e, h0, h1, _⟩ := pick_ok hb p (l.length : Int) hp hp' k hk
  unfold spec_l1Rd_one.f
  rw [e]
  simp only [Option.bind_some]
  have h2 := h1 (by omega)
  rw [if_pos h0, if_pos h2]
  refine ⟨_, rfl, ?_⟩
  unfold rd
  have hi : v.toNat < l.length := by omega
  rw [List.getD_eq_getElem?_getD, List.getElem?_eq_getElem hi]
  exact List.getElem_mem hi

/-- a number that is drawn as a letter -/
def LRange (v : Int) : Prop := 0 ≤ v ∧ v ≤ 1114111
theorem rune_ok {b : List Int} (hb : Bytes b) (p : Int) (hp : 0 ≤ p) (hp' : p ≤ 900000) (k : Nat) (hk : 10 ≤ k) :
    ∃ v q, spec_l13Rune.f k b p = some (v, q) ∧ p ≤ q ∧ q ≤ p + 2 ∧ LRange v := by
  obtain ⟨k, rfl⟩ : ∃ m, k = m + 10 := ⟨k - 10, by omega⟩
  obtain ⟨v, e, h0, h1, _⟩ := pick_ok hb p 16 hp (by omega) (k + 10) (by omega)
  have h2 := h1 (by omega)
  unfold spec_l13Rune.f
  rw [e]
  have one : ∀ (l : List Int) (j : Nat), 1 ≤ l.length → 1 ≤ j → (∀ x ∈ l, LRange x) → ∃ u q, ((spec_l1Rd_one.f j b (p + 1) l).bind fun bt => some (bt.1, bt.2)) = some (u, q) ∧ p ≤ q ∧ q ≤ p + 2 ∧ LRange u := by
    intro l j h3 h4 h5
    obtain ⟨u, e1, h6⟩ := one_ok hb (p + 1) (by omega) (by omega) l h3 j h4
    exact ⟨u, p + 1 + 1, by rw [e1]; rfl, by omega, by omega, h5 u h6⟩
  simp only [Option.bind_some]
  have hv : v = 0 ∨ v = 1 ∨ v = 2 ∨ v = 3 ∨ v = 4 ∨ v = 5 ∨ v = 6 ∨ v = 7 ∨ v = 8 ∨ v = 9 ∨ v = 10 ∨ v = 11 ∨ v = 12 ∨ v = 13 ∨ v = 14 ∨ v = 15 := by omega
  rcases hv with rfl | rfl | rfl | rfl | rfl | rfl | rfl | rfl | rfl | rfl | rfl | rfl | rfl | rfl | rfl | rfl
  all_goals simp only [spec_l13Rune.j0, spec_l13Rune.j1, spec_l13Rune.j2, Int.reduceEq, Int.reduceBEq, if_true, if_false, ↓reduceIte, Bool.false_eq_true, beq_self_eq_true]
  all_goals first
    | exact ⟨32, p + 1, rfl, by omega, by omega, by unfold LRange; omega⟩
    | exact one _ _ (by simp) (by omega) (by simp [LRange])

theorem bidi_in (a : Int) : 1 ≤ bidi a ∧ bidi a ≤ 22 := by
  unfold bidi
  repeat' split
  all_goals omega
theorem lsign_in (a : Int) : 1 ≤ lsign a ∧ lsign a ≤ 15 := by
  unfold lsign
  repeat' split
  all_goals omega
theorem lineC_in (a : Int) : 1 ≤ lineC a ∧ lineC a ≤ 15 := by
  have := lsign_in a
  unfold lineC
  repeat' split
  all_goals omega
theorem rwide_zero (a : Int) (h : bidi a = 9 ∨ bidi a = 10 ∨ 14 ≤ bidi a ∨ a = 10 ∨ a = 13) : rwide a = 0 := by
  unfold rwide
  rw [if_pos h]
theorem rwide_pos (a : Int) (h : ¬ (bidi a = 9 ∨ bidi a = 10 ∨ 14 ≤ bidi a ∨ a = 10 ∨ a = 13)) : 1 ≤ rwide a ∧ rwide a ≤ 40 := by
  unfold rwide
  rw [if_neg h]
  repeat' split
  all_goals omega
theorem wcIn (a b c : Int) : laws_wcIn.f a b c = some (decide (b ≤ a ∧ a ≤ c)) := by
  unfold laws_wcIn.f
  by_cases h1 : b ≤ a <;> by_cases h2 : a ≤ c <;> simp [h1, h2]
theorem FnRuneTables : laws_FnRuneTables.Pure := by
  intro l _ _ hl
  refine ⟨100, ?_⟩
  unfold laws_FnRuneTables.f
  by_cases h0 : (l.length : Int) > 1048576
  · rw [if_pos h0]
  rw [if_neg h0]
  obtain ⟨b, e, hb⟩ := open_ok hl
  have hd : ∃ v, spec_DrawRuneBidi.f 100 l = some v := by
    unfold spec_DrawRuneBidi.f
    rw [e]
    simp only [Option.bind_some]
    obtain ⟨v1, q, e1, g1, g2, _⟩ := rune_ok hb 0 (by omega) (by omega) 100 (by omega)
    rw [e1]
    simp only [Option.bind_some]
    obtain ⟨v2, e2, _, _, _⟩ := pick_ok hb q 300 (by omega) (by omega) 100 (by omega)
    rw [e2]
    simp only [Option.bind_some]
    obtain ⟨v3, e3, _, _, _⟩ := pick_ok hb (q + 1) 120 (by omega) (by omega) 100 (by omega)
    rw [e3]
    simp only [Option.bind_some]
    obtain ⟨v4, e4, _, _, _⟩ := pick_ok hb (q + 1 + 1) 140 (by omega) (by omega) 100 (by omega)
    rw [e4]
    simp only [Option.bind_some]
    obtain ⟨v5, e5, h5, h6, _⟩ := pick_ok hb (q + 1 + 1 + 1) 5 (by omega) (by omega) 100 (by omega)
    rw [e5]
    simp only [Option.bind_some]
    rw [if_pos h5, if_pos (by simpa using h6 (by omega))]
    exact ⟨_, rfl⟩
  obtain ⟨a, e1⟩ := hd
  rw [e1]
  simp only [Option.bind_some]
  rw [implBidi, implLine a _ (by omega), implWide a _ (by omega), specBidi a _ (by omega), specLine a _ (by omega), specWide a _ (by omega)]
  simp only [Option.bind_some, if_true, bne_self_eq_false]
  rw [show (100 : Nat) = 99 + 1 from rfl]
  have h1 := bidi_in a
  have h2 := lineC_in a
  have h3 : 0 ≤ rwide a ∧ rwide a ≤ 40 := by
    by_cases h : bidi a = 9 ∨ bidi a = 10 ∨ 14 ≤ bidi a ∨ a = 10 ∨ a = 13
    · rw [rwide_zero a h]; omega
    · have := rwide_pos a h; omega
  simp only [laws_FnRuneTables.j0, wcIn, Option.bind_some, Bool.false_eq_true, if_false]
  rw [if_pos (decide_eq_true h1), if_pos (decide_eq_true h2), if_pos (decide_eq_true h3)]
  by_cases h : bidi a = 9 ∨ bidi a = 10 ∨ 14 ≤ bidi a ∨ a = 10 ∨ a = 13
  · have hz := rwide_zero a h
    rw [hz]
    by_cases q1 : bidi a = 9
    · simp [q1]
    by_cases q2 : bidi a = 10
    · simp [q2]
    by_cases q3 : 14 ≤ bidi a
    · rw [if_neg q1, if_neg q2, if_pos (by omega)]
      rfl
    by_cases q4 : a = 10
    · rw [if_neg q1, if_neg q2, if_neg (by omega), if_pos q4]
      rfl
    · have q5 : a = 13 := by omega
      rw [if_neg q1, if_neg q2, if_neg (by omega), if_neg q4, q5]
      rfl
  · have hp := rwide_pos a h
    have hz : (rwide a == 0) = false := by
      rw [beq_eq_false_iff_ne]
      omega
    have ha : (a == 13) = false := by
      rw [beq_eq_false_iff_ne]
      omega
    rw [if_neg (by omega), if_neg (by omega), if_neg (by omega), if_neg (by omega), hz, ha]
    rfl

end Go.Proofs.Ytgcjhenfggcbmaa.Pure
