/- Of drawn letters, widths and a line: LineWide is the reference's, never negative, never more than the sum of the line's widths, and a letter less never makes it more: the law FnLineWide answers true; no condition. -/
import Derived.Test.YtmjhdgofepdgkaaPFnLineWidex11
namespace Go.Proofs.Ytmjhdgofepdgkaa.Pure
open Go.RowKit Go.Proofs.Ytmjhdgofepdgkaa.PFnLineWide Go.Proofs.YtmjhdgofepdgkaaW.PrintWords Go.Proofs.YtmjhdgofepdgkaaW.PrintLast Go.Proofs.YtmjhdgofepdgkaaW.PrintMore
set_option linter.unusedVariables false
set_option linter.unusedSimpArgs false

/-! small lemmas on whole numbers, lists and rounds -/
theorem w64 {x : Int} (h : -9223372036854775808 ≤ x) (h' : x ≤ 9223372036854775807) : wrap64 x = x := by
  unfold wrap64
  omega
theorem in_i64 {x : Int} (h : (Lit.int .i64 x).wf = true) : -9223372036854775808 ≤ x ∧ x ≤ 9223372036854775807 := by
  simpa [Lit.wf, IntKind.min, IntKind.max, IntKind.bits, IntKind.signed] using h
theorem in_u8 {x : Int} (h : (Lit.int .u8 x).wf = true) : 0 ≤ x ∧ x ≤ 255 := by
  simpa [Lit.wf, IntKind.min, IntKind.max, IntKind.bits, IntKind.signed] using h
theorem rd_nat (l : List Int) (i : Nat) : rd l (i : Int) = l.getD i 0 := by
  unfold rd
  rw [Int.toNat_natCast]

/-- the class of a letter for its side -/
def bidi (a : Int) : Int :=
  if (97 ≤ a ∧ a ≤ 122) ∨ (65 ≤ a ∧ a ≤ 90) ∨ (19968 ≤ a ∧ a ≤ 40959) then 1 else if 1488 ≤ a ∧ a ≤ 1514 then 2 else if 1569 ≤ a ∧ a ≤ 1610 then 3
  else if 48 ≤ a ∧ a ≤ 57 then 4 else if 1632 ≤ a ∧ a ≤ 1641 then 7 else if a = 43 ∨ a = 45 then 5 else if 35 ≤ a ∧ a ≤ 37 then 6
  else if a = 44 ∨ a = 46 ∨ a = 47 ∨ a = 58 then 8 else if 768 ≤ a ∧ a ≤ 879 then 9 else if a = 8203 ∨ a = 8205 ∨ a = 173 then 10
  else if a = 9 then 11 else if a = 32 then 12 else if 8234 ≤ a ∧ a ≤ 8238 then a - 8220 else if 8294 ≤ a ∧ a ≤ 8297 then a - 8275 else 13
theorem or_ite {α : Type} {p q : Prop} [Decidable p] [Decidable q] (x y : α) : (if p ∨ q then x else y) = if p then x else if q then x else y := by
  by_cases h1 : p <;> by_cases h2 : q <;> simp [h1, h2]

theorem specIn (a b c : Int) : spec_l1In.f a b c = some (decide (b ≤ a ∧ a ≤ c)) := by
  unfold spec_l1In.f
  by_cases h1 : b ≤ a <;> by_cases h2 : a ≤ c <;> simp [h1, h2]

theorem specMoves (a : Int) (k : Nat) (hk : 12 ≤ k) : spec_l1Moves.f k a = some (if 8234 ≤ a ∧ a ≤ 8238 then a - 8220 else if 8294 ≤ a ∧ a ≤ 8297 then a - 8275 else 13) := by
  obtain ⟨k, rfl⟩ : ∃ m, k = m + 12 := ⟨k - 12, by omega⟩
  unfold spec_l1Moves.f
  by_cases h1 : a = 8234
  · subst h1; simp [spec_l1Moves.l0, rd, wrap64]
  by_cases h2 : a = 8235
  · subst h2; simp [spec_l1Moves.l0, rd, wrap64]
  by_cases h3 : a = 8236
  · subst h3; simp [spec_l1Moves.l0, rd, wrap64]
  by_cases h4 : a = 8237
  · subst h4; simp [spec_l1Moves.l0, rd, wrap64]
  by_cases h5 : a = 8238
  · subst h5; simp [spec_l1Moves.l0, rd, wrap64]
  by_cases h6 : a = 8294
  · subst h6; simp [spec_l1Moves.l0, rd, wrap64]
  by_cases h7 : a = 8295
  · subst h7; simp [spec_l1Moves.l0, rd, wrap64]
  by_cases h8 : a = 8296
  · subst h8; simp [spec_l1Moves.l0, rd, wrap64]
  by_cases h9 : a = 8297
  · subst h9; simp [spec_l1Moves.l0, rd, wrap64]
  rw [if_neg (by omega), if_neg (by omega)]
  simp [spec_l1Moves.l0, rd, wrap64, Ne.symm h1, Ne.symm h2, Ne.symm h3, Ne.symm h4, Ne.symm h5, Ne.symm h6, Ne.symm h7, Ne.symm h8, Ne.symm h9, eq_comm, h1, h2, h3, h4, h5, h6, h7, h8, h9]
/-- the class of a sign -/
def bsign (a : Int) : Int :=
  if a = 43 ∨ a = 45 then 5 else if 35 ≤ a ∧ a ≤ 37 then 6
  else if a = 44 ∨ a = 46 ∨ a = 47 ∨ a = 58 then 8 else if 768 ≤ a ∧ a ≤ 879 then 9 else if a = 8203 ∨ a = 8205 ∨ a = 173 then 10
  else if a = 9 then 11 else if a = 32 then 12 else if 8234 ≤ a ∧ a ≤ 8238 then a - 8220 else if 8294 ≤ a ∧ a ≤ 8297 then a - 8275 else 13
theorem specSigns (a : Int) (k : Nat) (hk : 20 ≤ k) : spec_l1Signs.f k a = some (bsign a) := by
  obtain ⟨k, rfl⟩ : ∃ m, k = m + 20 := ⟨k - 20, by omega⟩
  unfold spec_l1Signs.f bsign
  simp only [spec_l1Signs.j0, spec_l1Signs.j1, spec_l1Signs.j2, specIn, specMoves a _ (show 12 ≤ k + 17 by omega), Option.bind_some, decide_eq_true_eq, beq_iff_eq, if_true, ↓reduceIte]
  simp only [or_ite, apply_ite some]
theorem specBidi (a : Int) (k : Nat) (hk : 30 ≤ k) : spec_RuneBidi.f k a = some (bidi a) := by
  obtain ⟨k, rfl⟩ : ∃ m, k = m + 30 := ⟨k - 30, by omega⟩
  unfold spec_RuneBidi.f bidi
  simp only [spec_RuneBidi.j0, specIn, specSigns a _ (show 20 ≤ k + 29 by omega), Option.bind_some, decide_eq_true_eq, if_true, ↓reduceIte, bsign]
  simp only [or_ite, apply_ite some]

theorem lookR_is {l : List _} {a o b : Int} (h1 : ∀ x ∈ l, hitR x a = true → x.f2 = b) (h2 : (∀ x ∈ l, hitR x a = false) → o = b) : lookR l a o = b := by
  induction l with
  | nil => exact h2 (fun x hx => by cases hx)
  | cons x xs ih =>
    cases hh : hitR x a with
    | true =>
      have : lookR (x :: xs) a o = x.f2 := by simp [lookR, List.find?_cons, hh]
      rw [this]
      exact h1 x List.mem_cons_self hh
    | false =>
      have : lookR (x :: xs) a o = lookR xs a o := by simp [lookR, List.find?_cons, hh]
      rw [this]
      exact ih (fun y hy => h1 y (List.mem_cons_of_mem _ hy)) (fun hn => h2 (fun y hy => by
        rcases List.mem_cons.1 hy with rfl | hy
        · exact hh
        · exact hn y hy))
theorem bidi_none {a : Int} (h1 : ¬ (9 ≤ a ∧ a ≤ 9)) (h2 : ¬ (32 ≤ a ∧ a ≤ 32)) (h3 : ¬ (35 ≤ a ∧ a ≤ 37)) (h4 : ¬ (43 ≤ a ∧ a ≤ 43)) (h5 : ¬ (44 ≤ a ∧ a ≤ 44)) (h6 : ¬ (45 ≤ a ∧ a ≤ 45)) (h7 : ¬ (46 ≤ a ∧ a ≤ 47)) (h8 : ¬ (48 ≤ a ∧ a ≤ 57)) (h9 : ¬ (58 ≤ a ∧ a ≤ 58)) (h10 : ¬ (65 ≤ a ∧ a ≤ 90)) (h11 : ¬ (97 ≤ a ∧ a ≤ 122)) (h12 : ¬ (173 ≤ a ∧ a ≤ 173)) (h13 : ¬ (768 ≤ a ∧ a ≤ 879)) (h14 : ¬ (1488 ≤ a ∧ a ≤ 1514)) (h15 : ¬ (1569 ≤ a ∧ a ≤ 1610)) (h16 : ¬ (1632 ≤ a ∧ a ≤ 1641)) (h17 : ¬ (8203 ≤ a ∧ a ≤ 8203)) (h18 : ¬ (8205 ≤ a ∧ a ≤ 8205)) (h19 : ¬ (8234 ≤ a ∧ a ≤ 8234)) (h20 : ¬ (8235 ≤ a ∧ a ≤ 8235)) (h21 : ¬ (8236 ≤ a ∧ a ≤ 8236)) (h22 : ¬ (8237 ≤ a ∧ a ≤ 8237)) (h23 : ¬ (8238 ≤ a ∧ a ≤ 8238)) (h24 : ¬ (8294 ≤ a ∧ a ≤ 8294)) (h25 : ¬ (8295 ≤ a ∧ a ≤ 8295)) (h26 : ¬ (8296 ≤ a ∧ a ≤ 8296)) (h27 : ¬ (8297 ≤ a ∧ a ≤ 8297)) (h28 : ¬ (19968 ≤ a ∧ a ≤ 40959)) : bidi a = 13 := by
  have e43 : ¬ a = 43 := (fun e => h4 ⟨by omega, by omega⟩)
  have e45 : ¬ a = 45 := (fun e => h6 ⟨by omega, by omega⟩)
  have e44 : ¬ a = 44 := (fun e => h5 ⟨by omega, by omega⟩)
  have e58 : ¬ a = 58 := (fun e => h9 ⟨by omega, by omega⟩)
  have e8203 : ¬ a = 8203 := (fun e => h17 ⟨by omega, by omega⟩)
  have e8205 : ¬ a = 8205 := (fun e => h18 ⟨by omega, by omega⟩)
  have e173 : ¬ a = 173 := (fun e => h12 ⟨by omega, by omega⟩)
  have e9 : ¬ a = 9 := (fun e => h1 ⟨by omega, by omega⟩)
  have e32 : ¬ a = 32 := (fun e => h2 ⟨by omega, by omega⟩)
  have e8234 : ¬ a = 8234 := (fun e => h19 ⟨by omega, by omega⟩)
  have e8235 : ¬ a = 8235 := (fun e => h20 ⟨by omega, by omega⟩)
  have e8236 : ¬ a = 8236 := (fun e => h21 ⟨by omega, by omega⟩)
  have e8237 : ¬ a = 8237 := (fun e => h22 ⟨by omega, by omega⟩)
  have e8238 : ¬ a = 8238 := (fun e => h23 ⟨by omega, by omega⟩)
  have e8294 : ¬ a = 8294 := (fun e => h24 ⟨by omega, by omega⟩)
  have e8295 : ¬ a = 8295 := (fun e => h25 ⟨by omega, by omega⟩)
  have e8296 : ¬ a = 8296 := (fun e => h26 ⟨by omega, by omega⟩)
  have e8297 : ¬ a = 8297 := (fun e => h27 ⟨by omega, by omega⟩)
  have e46 : ¬ a = 46 := (fun e => h7 ⟨by omega, by omega⟩)
  have e47 : ¬ a = 47 := (fun e => h7 ⟨by omega, by omega⟩)
  have g1 : ¬ (8234 ≤ a ∧ a ≤ 8238) := by clear h1 h2 h3 h4 h5 h6 h7 h8 h9 h10 h11 h12 h13 h14 h15 h16 h17 h18 h19 h20 h21 h22 h23 h24 h25 h26 h27 h28; omega
  have g2 : ¬ (8294 ≤ a ∧ a ≤ 8297) := by clear h1 h2 h3 h4 h5 h6 h7 h8 h9 h10 h11 h12 h13 h14 h15 h16 h17 h18 h19 h20 h21 h22 h23 h24 h25 h26 h27 h28 g1; omega
  unfold bidi
  simp only [h1, h2, h3, h4, h5, h6, h7, h8, h9, h10, h11, h12, h13, h14, h15, h16, h17, h18, h19, h20, h21, h22, h23, h24, h25, h26, h27, h28, e43, e45, e44, e58, e8203, e8205, e173, e9, e32, e46, e47, g1, g2, or_self, if_false, ↓reduceIte]
theorem implBidi (a : Int) : impl_RuneBidi.f a = some (bidi a) := by
  unfold impl_RuneBidi.f impl_bidiReaches.f impl_find.f
  simp only [Option.bind_some]
  rw [if_pos ⟨by decide, by decide⟩]
  simp only [Option.bind_some, Option.some.injEq]
  apply lookR_is
  · intro x hx hh
    unfold hitR at hh
    simp only [List.mem_cons, List.not_mem_nil, or_false] at hx
    simp only [Bool.and_eq_true, decide_eq_true_eq] at hh
    obtain ⟨h1, h2⟩ := hh
    unfold bidi
    rcases hx with rfl | rfl | rfl | rfl | rfl | rfl | rfl | rfl | rfl | rfl | rfl | rfl | rfl | rfl | rfl | rfl | rfl | rfl | rfl | rfl | rfl | rfl | rfl | rfl | rfl | rfl | rfl | rfl
    all_goals
      simp only [] at h1 h2 ⊢
      simp (disch := omega) only [if_pos, if_neg]
      try omega
  · intro hn
    simp only [List.mem_cons, List.not_mem_nil, or_false, forall_eq_or_imp, forall_eq, hitR, Bool.and_eq_false_iff, decide_eq_false_iff_not, ← Classical.not_and_iff_not_or_not] at hn
    obtain ⟨h1, h2, h3, h4, h5, h6, h7, h8, h9, h10, h11, h12, h13, h14, h15, h16, h17, h18, h19, h20, h21, h22, h23, h24, h25, h26, h27, h28⟩ := hn
    exact (bidi_none h1 h2 h3 h4 h5 h6 h7 h8 h9 h10 h11 h12 h13 h14 h15 h16 h17 h18 h19 h20 h21 h22 h23 h24 h25 h26 h27 h28).symm

/-! the class of a letter -/

theorem and_ite {α : Type} {p q : Prop} [Decidable p] [Decidable q] (x y : α) : (if p ∧ q then x else y) = if p then (if q then x else y) else y := by
  by_cases h1 : p <;> by_cases h2 : q <;> simp [h1, h2]
theorem dup_ite {α : Type} {p : Prop} [Decidable p] (x y z : α) : (if p then (if p then x else y) else z) = if p then x else z := by
  by_cases h1 : p <;> simp [h1]

/-- how wide a letter is -/
def rwide (a : Int) : Int :=
  if bidi a = 9 ∨ bidi a = 10 ∨ 14 ≤ bidi a ∨ a = 10 ∨ a = 13 then 0
  else if a = 105 ∨ a = 106 ∨ a = 108 ∨ a = 102 ∨ a = 116 then 6
  else if a = 109 ∨ a = 119 then 16
  else if 19968 ≤ a ∧ a ≤ 40959 then 20
  else if bidi a = 2 ∨ bidi a = 3 then 12
  else if bidi a = 11 then 40
  else if bidi a = 12 ∨ bidi a = 8 then 6 else 10
theorem implWide (a : Int) (k : Nat) (hk : 10 ≤ k) : impl_RuneWide.f k a = some (rwide a) := by
  obtain ⟨k, rfl⟩ : ∃ m, k = m + 10 := ⟨k - 10, by omega⟩
  unfold impl_RuneWide.f rwide
  rw [implBidi a]
  generalize bidi a = c
  simp only [impl_RuneWide.j0, impl_RuneWide.j1, impl_RuneWide.j2, impl_RuneWide.j3, impl_RuneWide.j4, Option.bind_some, decide_eq_true_eq, beq_iff_eq, if_true, ↓reduceIte, ge_iff_le, Bool.false_eq_true, if_false]
  simp only [dup_ite, or_ite, and_ite, apply_ite some]

theorem specHas5 (a : Int) (k : Nat) (hk : 8 ≤ k) : spec_l1Has.f k [105, 106, 108, 102, 116] a = some (decide (a = 105 ∨ a = 106 ∨ a = 108 ∨ a = 102 ∨ a = 116)) := by
  obtain ⟨k, rfl⟩ : ∃ m, k = m + 8 := ⟨k - 8, by omega⟩
  unfold spec_l1Has.f
  by_cases h1 : a = 105
  · subst h1; simp [spec_l1Has.l0, rd, wrap64]
  by_cases h2 : a = 106
  · subst h2; simp [spec_l1Has.l0, rd, wrap64]
  by_cases h3 : a = 108
  · subst h3; simp [spec_l1Has.l0, rd, wrap64]
  by_cases h4 : a = 102
  · subst h4; simp [spec_l1Has.l0, rd, wrap64]
  by_cases h5 : a = 116
  · subst h5; simp [spec_l1Has.l0, rd, wrap64]
  have g1 : ¬ (105 = a) := fun h => h1 h.symm
  have g2 : ¬ (106 = a) := fun h => h2 h.symm
  have g3 : ¬ (108 = a) := fun h => h3 h.symm
  have g4 : ¬ (102 = a) := fun h => h4 h.symm
  have g5 : ¬ (116 = a) := fun h => h5 h.symm
  simp [spec_l1Has.l0, rd, wrap64, h1, h2, h3, h4, h5, g1, g2, g3, g4, g5]
theorem specWide (a : Int) (k : Nat) (hk : 40 ≤ k) : spec_RuneWide.f k a = some (rwide a) := by
  obtain ⟨k, rfl⟩ : ∃ m, k = m + 40 := ⟨k - 40, by omega⟩
  unfold spec_RuneWide.f rwide
  rw [specBidi a _ (by omega)]
  generalize bidi a = c
  simp only [spec_RuneWide.j0, spec_RuneWide.j1, spec_RuneWide.j2, specIn, specHas5 a _ (show 8 ≤ k + 39 by omega), Option.bind_some, decide_eq_true_eq, beq_iff_eq, if_true, ↓reduceIte, ge_iff_le]
  simp only [or_ite, apply_ite some]



/-! lists, place by place: what lies ahead of a place, the place, what lies behind -/
theorem getD_mid {α : Type} (pre : List α) (x : α) (suf : List α) (d : α) : (pre ++ x :: suf).getD ((pre.length : Int)).toNat d = x := by
  rw [Int.toNat_natCast, List.getD_eq_getElem?_getD]
  simp
theorem set_mid {α : Type} (pre : List α) (x y : α) (suf : List α) : (pre ++ x :: suf).set ((pre.length : Int)).toNat y = pre ++ y :: suf := by
  rw [Int.toNat_natCast]
  simp
theorem rd_mid (pre : List Int) (x : Int) (suf : List Int) : rd (pre ++ x :: suf) (pre.length : Int) = x := getD_mid pre x suf 0
theorem len_mid {α : Type} (pre : List α) (x : α) (suf : List α) : (pre.length : Int) < ((pre ++ x :: suf).length : Int) := by
  simp only [List.length_append, List.length_cons]
  omega
theorem len_end {α : Type} (pre : List α) : ¬ (pre.length : Int) < ((pre ++ []).length : Int) := by simp
theorem len_snoc {α : Type} (pre : List α) (x : α) : ((pre ++ [x]).length : Int) = (pre.length : Int) + 1 := by simp
theorem app_cons {α : Type} (pre : List α) (x : α) (suf : List α) : pre ++ x :: suf = (pre ++ [x]) ++ suf := by simp
theorem w64_len {n : Int} (h0 : 0 ≤ n) (h : n ≤ 9000000000000000000) : wrap64 (n + 1) = n + 1 := w64 (by omega) (by omega)

/-- letters that may be clustered -/
def okT (l : List Int) : Bool := decide ((l.length : Int) ≤ 80) && l.all isL
theorem implLettersOk (l : List Int) : impl_lettersOk.f l = some (okT l) := by
  unfold impl_lettersOk.f okT
  congr 2
  induction l with
  | nil => rfl
  | cons x r ih => simp only [List.any_cons, List.all_cons, Bool.not_or, Bool.not_not, ih]
theorem specSize (x : Int) : ∃ n, spec_l1Size.f x = some n ∧ (n = 0 ↔ isL x = false) := by
  unfold spec_l1Size.f isL
  simp only [specIn, Option.bind_some, decide_eq_true_eq]
  by_cases h1 : 0 ≤ x ∧ x ≤ 127
  · exact ⟨1, by rw [if_pos h1], by simp; omega⟩
  by_cases h2 : 128 ≤ x ∧ x ≤ 2047
  · exact ⟨2, by rw [if_neg h1, if_pos h2], by simp; omega⟩
  by_cases h3 : 55296 ≤ x ∧ x ≤ 57343
  · exact ⟨0, by rw [if_neg h1, if_neg h2, if_pos h3], by simp; omega⟩
  by_cases h4 : 2048 ≤ x ∧ x ≤ 65535
  · exact ⟨3, by rw [if_neg h1, if_neg h2, if_neg h3, if_pos h4], by simp; omega⟩
  by_cases h5 : 65536 ≤ x ∧ x ≤ 1114111
  · exact ⟨4, by rw [if_neg h1, if_neg h2, if_neg h3, if_neg h4, if_pos h5], by simp; omega⟩
  · exact ⟨0, by rw [if_neg h1, if_neg h2, if_neg h3, if_neg h4, if_neg h5], by simp; omega⟩
theorem specL1Ok_l0 : ∀ (suf pre : List Int) (k : Nat), (pre ++ suf).length ≤ 1048576 → suf.length + 1 ≤ k →
    spec_l1Ok.l0 k (pre ++ suf) (pre.length : Int) = some (decide (((pre ++ suf).length : Int) ≤ 80) && suf.all isL)
  | [], pre, k, hl, hk => by
    obtain ⟨k, rfl⟩ : ∃ m, k = m + 1 := ⟨k - 1, by simp at hk; omega⟩
    simp only [spec_l1Ok.l0]
    rw [if_neg (len_end pre)]
    simp
  | x :: suf, pre, k, hl, hk => by
    obtain ⟨k, rfl⟩ : ∃ m, k = m + 1 := ⟨k - 1, by simp at hk; omega⟩
    have hp : (pre.length : Int) ≤ 1048576 := by simp at hl; omega
    have ih := specL1Ok_l0 suf (pre ++ [x]) k (by simpa using hl) (by simp at hk; omega)
    rw [len_snoc, ← app_cons] at ih
    obtain ⟨n, e, hn⟩ := specSize x
    simp only [spec_l1Ok.l0]
    rw [if_pos (len_mid pre x suf), if_pos (by omega), rd_mid, e, w64_len (by omega) (by omega), ih]
    simp only [Option.bind_some, List.all_cons]
    cases h : isL x with
    | false => rw [if_pos (hn.2 h)]; simp
    | true => rw [if_neg (fun g => by rw [hn.1 g] at h; cases h)]; simp
theorem specL1Ok (l : List Int) (hl : l.length ≤ 1048576) (k : Nat) (hk : l.length + 1 ≤ k) : spec_l1Ok.f k l = some (okT l) := specL1Ok_l0 l [] k (by simpa using hl) hk
theorem okT_len {l : List Int} (h : okT l = true) : l.length ≤ 80 := by
  unfold okT at h
  simp only [Bool.and_eq_true, decide_eq_true_eq] at h
  omega

/-- does a letter not count at the end of a line -/
def emp (x : Int) : Prop := x = 32 ∨ x = 10 ∨ rwide x = 0
instance (x : Int) : Decidable (emp x) := by unfold emp; infer_instance
/-- where what does not count at the end begins -/
def bodyN (l : List Int) (f : Nat) : Nat → Nat
  | 0 => 0
  | t + 1 => if f < t + 1 ∧ emp (l.getD t 0) then bodyN l f t else t + 1
theorem bodyN_le (l : List Int) (f : Nat) : ∀ t, bodyN l f t ≤ t
  | 0 => Nat.le_refl _
  | t + 1 => by
    have := bodyN_le l f t
    unfold bodyN
    split <;> omega
theorem bodyN_ge (l : List Int) (f : Nat) : ∀ t, f ≤ t → f ≤ bodyN l f t
  | 0, h => h
  | t + 1, h => by
    unfold bodyN
    split
    · exact bodyN_ge l f t (by omega)
    · exact h
theorem implBody_l0 (l : List Int) (f : Nat) (hl : l.length ≤ 1048576) : ∀ (t k : Nat), t ≤ l.length → t + 11 ≤ k → impl_body.l0 k l (f : Int) (t : Int) = some (bodyN l f t : Int)
  | 0, k, ht, hk => by
    obtain ⟨k, rfl⟩ : ∃ m, k = m + 1 := ⟨k - 1, by omega⟩
    simp only [impl_body.l0]
    rw [if_neg (by omega)]
    rfl
  | t + 1, k, ht, hk => by
    obtain ⟨k, rfl⟩ : ∃ m, k = m + 1 := ⟨k - 1, by omega⟩
    have ih := implBody_l0 l f hl t k (by omega) (by omega)
    have e : wrap64 (((t + 1 : Nat) : Int) - 1) = (t : Int) := by rw [w64 (by omega) (by omega)]; omega
    simp only [impl_body.l0, bodyN]
    rw [e, ih, rd_nat, implWide _ k (by omega)]
    simp only [Option.bind_some]
    by_cases h : f < t + 1
    · rw [if_pos (by omega), if_pos (by omega), if_pos (by omega)]
      by_cases h1 : l.getD t 0 = 32
      · rw [if_pos h1, if_pos ⟨h, .inl h1⟩]
      · rw [if_neg h1]
        by_cases h2 : l.getD t 0 = 10
        · rw [if_pos h2, if_pos ⟨h, .inr (.inl h2)⟩]
        · rw [if_neg h2]
          by_cases h3 : rwide (l.getD t 0) = 0
          · rw [if_pos h3, if_pos ⟨h, .inr (.inr h3)⟩]
          · rw [if_neg h3, if_neg (fun g => by rcases g.2 with g | g | g <;> contradiction)]
    · rw [if_neg (by omega), if_neg (fun g => h g.1)]
theorem specEmpty (x : Int) (k : Nat) (hk : 40 ≤ k) : spec_l7Empty.f k x = some (decide (emp x)) := by
  unfold spec_l7Empty.f emp
  rw [specWide x k hk]
  simp only [Option.bind_some]
  by_cases h1 : x = 32
  · simp [h1]
  by_cases h2 : x = 10
  · simp [h2]
  by_cases h3 : rwide x = 0 <;> simp [h1, h2, h3]
/-- all widths are ones -/
def okW (ws : List Int) : Bool := ws.all fun x => decide (0 ≤ x) && decide (x ≤ 20000)
theorem okW_mem {ws : List Int} (h : okW ws = true) : ∀ x ∈ ws, 0 ≤ x ∧ x ≤ 20000 := by
  intro x hx
  have := List.all_eq_true.1 h x hx
  simpa using this
theorem any_noW (ws : List Int) : (ws.any fun x => noW x) = !okW ws := by
  unfold okW
  induction ws with
  | nil => rfl
  | cons x r ih =>
    rw [List.any_cons, List.all_cons, ih, Bool.not_and]
    congr 1
    unfold noW
    by_cases h1 : 0 ≤ x
    · rw [decide_eq_true h1, decide_eq_false (show ¬ x < 0 by omega)]
      by_cases h2 : x ≤ 20000
      · rw [decide_eq_true h2, decide_eq_false (show ¬ 20000 < x by omega)]; rfl
      · rw [decide_eq_false h2, decide_eq_true (show 20000 < x by omega)]; rfl
    · rw [decide_eq_false h1, decide_eq_true (show x < 0 by omega)]; rfl
theorem implSum_l0 : ∀ (suf pre : List Int) (a : Int) (k : Nat), (∀ x ∈ suf, 0 ≤ x ∧ x ≤ 20000) → 0 ≤ a → a + 20000 * suf.length ≤ 90000000000 → (pre ++ suf).length ≤ 1048576 → suf.length + 1 ≤ k →
    impl_lineWide.l0 k a (pre ++ suf) ((pre ++ suf).length : Int) (pre.length : Int) = some (a + suf.sum)
  | [], pre, a, k, hs, h0, h1, hl, hk => by
    obtain ⟨k, rfl⟩ : ∃ m, k = m + 1 := ⟨k - 1, by simp at hk; omega⟩
    simp only [impl_lineWide.l0]
    rw [if_neg (len_end pre)]
    simp
  | x :: suf, pre, a, k, hs, h0, h1, hl, hk => by
    obtain ⟨k, rfl⟩ : ∃ m, k = m + 1 := ⟨k - 1, by simp at hk; omega⟩
    have hx := hs x List.mem_cons_self
    have hp : (pre.length : Int) ≤ 1048576 := by simp at hl; omega
    simp only [List.length_cons] at h1
    have ih := implSum_l0 suf (pre ++ [x]) (a + x) k (fun y hy => hs y (List.mem_cons_of_mem _ hy)) (by omega) (by omega) (by simpa using hl) (by simp at hk; omega)
    rw [len_snoc, ← app_cons] at ih
    simp only [impl_lineWide.l0]
    rw [if_pos (len_mid pre x suf), if_pos (by omega), if_pos (len_mid pre x suf), rd_mid, w64 (x := a + x) (by omega) (by omega), w64_len (by omega) (by omega), ih, List.sum_cons]
    congr 1
    omega
theorem specSum_l1 : ∀ (mid pre post : List Int) (a : Int) (k : Nat), (∀ x ∈ mid, 0 ≤ x ∧ x ≤ 20000) → 0 ≤ a → a + 20000 * mid.length ≤ 90000000000 → (pre ++ (mid ++ post)).length ≤ 1048576 → mid.length + 1 ≤ k →
    spec_l7Wide.l1 k (pre ++ (mid ++ post)) (((pre ++ mid).length : Nat) : Int) a (pre.length : Int) = some (a + mid.sum)
  | [], pre, post, a, k, hs, h0, h1, hl, hk => by
    obtain ⟨k, rfl⟩ : ∃ m, k = m + 1 := ⟨k - 1, by simp at hk; omega⟩
    simp only [spec_l7Wide.l1]
    rw [if_neg (by simp)]
    simp
  | x :: mid, pre, post, a, k, hs, h0, h1, hl, hk => by
    obtain ⟨k, rfl⟩ : ∃ m, k = m + 1 := ⟨k - 1, by simp at hk; omega⟩
    have hx := hs x List.mem_cons_self
    have hp : (pre.length : Int) ≤ 1048576 := by simp at hl; omega
    simp only [List.length_cons] at h1
    have ih := specSum_l1 mid (pre ++ [x]) post (a + x) k (fun y hy => hs y (List.mem_cons_of_mem _ hy)) (by omega) (by omega) (by simpa using hl) (by simp at hk; omega)
    rw [len_snoc, ← app_cons, ← app_cons] at ih
    simp only [spec_l7Wide.l1, List.cons_append]
    rw [if_pos (by simp; omega), if_pos (by omega), if_pos (len_mid pre x _), rd_mid, w64 (x := a + x) (by omega) (by omega), w64_len (by omega) (by omega), ih, List.sum_cons]
    congr 1
    omega
/-- how wide the letters are from one up to another one, without what does not count at the end -/
def lineW (l ws : List Int) (f t : Nat) : Int := ((ws.take (bodyN l f t)).drop f).sum
theorem implLineW (l ws : List Int) (f t : Nat) (hl : l.length ≤ 80) (hw : ws.length = l.length) (hs : okW ws = true) (hf : f ≤ t) (ht : t ≤ l.length) (k : Nat) (hk : 100 ≤ k) : impl_lineWide.f k l ws (f : Int) (t : Int) = some (lineW l ws f t) := by
  have h1 := bodyN_le l f t
  have h2 := bodyN_ge l f t hf
  unfold impl_lineWide.f impl_body.f lineW
  rw [implBody_l0 l f (by omega) t k ht (by omega)]
  simp only [Option.bind_some]
  rw [if_pos (by omega), if_pos (by omega), if_pos (by omega), Int.toNat_natCast, Int.toNat_natCast]
  have hlen : ((ws.take (bodyN l f t)).drop f).length ≤ 80 := by simp; omega
  have := implSum_l0 ((ws.take (bodyN l f t)).drop f) [] 0 k (fun x hx => okW_mem hs x (List.mem_of_mem_take (List.mem_of_mem_drop hx))) (by omega) (by omega) (by simp; omega) (by omega)
  rw [Int.zero_add] at this
  exact this
theorem specLineW_j1 (ws : List Int) (f : Nat) (hw : ws.length ≤ 80) (hs : okW ws = true) (b : Nat) (h1 : f ≤ b) (h2 : b ≤ ws.length) (k : Nat) (hk : 90 ≤ k) : spec_l7Wide.j1 k ws (f : Int) (b : Int) = some ((ws.take b).drop f).sum := by
  obtain ⟨k, rfl⟩ : ∃ m, k = m + 1 := ⟨k - 1, by omega⟩
  simp only [spec_l7Wide.j1]
  have hlen : ((ws.take b).drop f).length ≤ 80 := by simp; omega
  have := specSum_l1 ((ws.take b).drop f) (ws.take f) (ws.drop b) 0 k (fun x hx => okW_mem hs x (List.mem_of_mem_take (List.mem_of_mem_drop hx))) (by omega) (by omega) (by simp; omega) (by omega)
  have e1 : ws.take f ++ ((ws.take b).drop f ++ ws.drop b) = ws := by
    rw [← List.append_assoc]
    have : ws.take f ++ (ws.take b).drop f = ws.take b := by
      have := List.take_append_drop f (ws.take b)
      rw [List.take_take, Nat.min_eq_left h1] at this
      exact this
    rw [this, List.take_append_drop]
  have e2 : (ws.take f ++ (ws.take b).drop f).length = b := by simp; omega
  have e3 : (ws.take f).length = f := by simp; omega
  rw [e1, e2, e3, Int.zero_add] at this
  exact this
theorem specLineW_l0 (l ws : List Int) (f : Nat) (hl : l.length ≤ 80) (hw : ws.length = l.length) (hs : okW ws = true) : ∀ (t k : Nat), f ≤ t → t ≤ l.length → t + 150 ≤ k → spec_l7Wide.l0 k l ws (f : Int) (t : Int) = some (lineW l ws f t)
  | 0, k, hf, ht, hk => by
    obtain ⟨k, rfl⟩ : ∃ m, k = m + 1 := ⟨k - 1, by omega⟩
    simp only [spec_l7Wide.l0]
    rw [if_neg (by omega)]
    exact specLineW_j1 ws f (by omega) hs 0 (by omega) (by omega) k (by omega)
  | t + 1, k, hf, ht, hk => by
    obtain ⟨k, rfl⟩ : ∃ m, k = m + 1 := ⟨k - 1, by omega⟩
    have key := specLineW_j1 ws f (by omega) hs (t + 1) hf (by omega) k (by omega)
    have e : wrap64 (((t + 1 : Nat) : Int) - 1) = (t : Int) := by rw [w64 (by omega) (by omega)]; omega
    simp only [spec_l7Wide.l0]
    rw [e, rd_nat, specEmpty _ k (by omega)]
    simp only [Option.bind_some, decide_eq_true_eq]
    unfold lineW
    simp only [bodyN]
    by_cases h : f < t + 1
    · have ih := specLineW_l0 l ws f hl hw hs t k (by omega) (by omega) (by omega)
      rw [if_pos (by omega), if_pos (by omega), if_pos (by omega)]
      by_cases h2 : emp (l.getD t 0)
      · rw [if_pos h2, ih, if_pos ⟨h, h2⟩]
        rfl
      · rw [if_neg h2, key, if_neg (fun g => h2 g.2)]
    · rw [if_neg (by omega), key, if_neg (fun g => h g.1)]
def lineWideL (l ws : List Int) (f t : Int) : Int := if okT l = true ∧ ws.length = l.length ∧ okW ws = true ∧ 0 ≤ f ∧ f ≤ t ∧ t ≤ (l.length : Int) then lineW l ws f.toNat t.toNat else 0
theorem implLineWide (l ws : List Int) (f t : Int) (k : Nat) (hk : 100 ≤ k) : impl_LineWide.f k l ws f t = some (lineWideL l ws f t) := by
  unfold impl_LineWide.f lineWideL impl_isLine.f
  rw [implLettersOk, any_noW]
  simp only [Option.bind_some]
  by_cases h1 : okT l = true
  · rw [if_pos h1]
    by_cases h2 : ws.length = l.length
    · rw [if_pos h2]
      by_cases h3 : okW ws = true
      · rw [if_neg (by simp [h3])]
        by_cases h4 : 0 ≤ f
        · rw [if_pos (by omega)]
          by_cases h5 : f ≤ t
          · rw [if_pos h5]
            simp only [Option.bind_some, decide_eq_true_eq]
            by_cases h6 : t ≤ (l.length : Int)
            · rw [if_pos h6, if_pos ⟨h1, h2, h3, h4, h5, h6⟩]
              obtain ⟨n, rfl⟩ := Int.eq_ofNat_of_zero_le h4
              obtain ⟨m, rfl⟩ := Int.eq_ofNat_of_zero_le (show 0 ≤ t by omega)
              exact implLineW l ws n m (okT_len h1) h2 h3 (by omega) (by omega) k hk
            · rw [if_neg h6, if_neg (fun g => h6 g.2.2.2.2.2)]
          · rw [if_neg h5, if_neg (fun g => h5 g.2.2.2.2.1)]
            simp
        · rw [if_neg (by omega), if_neg (fun g => h4 g.2.2.2.1)]
          simp
      · rw [if_pos (by simp [h3]), if_neg (fun g => h3 g.2.2.1)]
    · rw [if_neg h2, if_neg (fun g => h2 g.2.1)]
  · rw [if_neg h1, if_neg (fun g => h1 g.1)]
theorem specL7Ok_l0 (l : List Int) (hl : l.length ≤ 1048576) : ∀ (suf pre : List Int) (k : Nat), (pre ++ suf).length ≤ 1048576 → suf.length + l.length + 5 ≤ k →
    spec_l7Ok.l0 k l (pre ++ suf) (pre.length : Int) = some (okW suf && (okT l && decide ((pre ++ suf).length = l.length)))
  | [], pre, k, hp, hk => by
    obtain ⟨k, rfl⟩ : ∃ m, k = m + 1 := ⟨k - 1, by omega⟩
    simp only [spec_l7Ok.l0]
    rw [if_neg (len_end pre), specL1Ok l hl k (by simp at hk; omega)]
    simp only [Option.bind_some, okW, List.all_nil, Bool.true_and]
    cases okT l with
    | true =>
      simp only [if_true, Bool.true_and, Option.some.injEq]
      rw [Bool.eq_iff_iff, beq_iff_eq, decide_eq_true_eq]
      omega
    | false => simp
  | x :: suf, pre, k, hp, hk => by
    obtain ⟨k, rfl⟩ : ∃ m, k = m + 1 := ⟨k - 1, by omega⟩
    have hp' : (pre.length : Int) ≤ 1048576 := by simp at hp; omega
    have ih := specL7Ok_l0 l hl suf (pre ++ [x]) k (by simpa using hp) (by simp at hk; omega)
    rw [len_snoc, ← app_cons] at ih
    simp only [spec_l7Ok.l0]
    rw [if_pos (len_mid pre x suf), if_pos (by omega), rd_mid, specIn]
    simp only [Option.bind_some, decide_eq_true_eq]
    rw [w64_len (by omega) (by omega), ih]
    unfold okW
    rw [List.all_cons]
    by_cases h : 0 ≤ x ∧ x ≤ 20000
    · rw [if_pos h, decide_eq_true h.1, decide_eq_true h.2]
      rfl
    · rw [if_neg h]
      have : (decide (0 ≤ x) && decide (x ≤ 20000)) = false := by
        rw [Bool.and_eq_false_iff, decide_eq_false_iff_not, decide_eq_false_iff_not]
        omega
      rw [this]
      rfl
theorem specLineWide (l ws : List Int) (f t : Int) (hl : l.length ≤ 1048576) (hw : ws.length ≤ 1048576) (k : Nat) (hk : l.length + ws.length + 300 ≤ k) : spec_LineWide.f k l ws f t = some (lineWideL l ws f t) := by
  unfold spec_LineWide.f lineWideL spec_l7Ok.f spec_l7Wide.f
  have e := specL7Ok_l0 l hl ws [] k (by simpa using hw) (by omega)
  simp only [List.nil_append, List.length_nil, Int.ofNat_zero] at e
  rw [e]
  simp only [Option.bind_some]
  by_cases h : okW ws = true ∧ okT l = true ∧ ws.length = l.length
  · obtain ⟨h3, h1, h2⟩ := h
    rw [if_pos (by simp [h1, h2, h3]), specIn, specIn]
    simp only [Option.bind_some, decide_eq_true_eq]
    by_cases h4 : 0 ≤ f ∧ f ≤ (l.length : Int)
    · rw [if_pos h4]
      by_cases h5 : f ≤ t ∧ t ≤ (l.length : Int)
      · rw [if_pos h5, if_pos ⟨h1, h2, h3, h4.1, h5.1, h5.2⟩]
        have h80 := okT_len h1
        obtain ⟨n, rfl⟩ := Int.eq_ofNat_of_zero_le h4.1
        obtain ⟨m, rfl⟩ := Int.eq_ofNat_of_zero_le (show 0 ≤ t by omega)
        rw [specLineW_l0 l ws n h80 h2 h3 m k (by omega) (by omega) (by omega)]
        rfl
      · rw [if_neg h5, if_neg (fun g => h5 ⟨g.2.2.2.2.1, g.2.2.2.2.2⟩)]
    · rw [if_neg h4, if_neg (fun g => h4 ⟨g.2.2.2.1, Int.le_trans g.2.2.2.2.1 g.2.2.2.2.2⟩)]
  · rw [if_neg (by simpa using h), if_neg (fun g => h ⟨g.2.2.1, g.1, g.2.1⟩)]

abbrev Sp := S40
abbrev zSp : Sp := z40
theorem rdSp_mid (pre : List Sp) (x : Sp) (suf : List Sp) : rd_T40 (pre ++ x :: suf) (pre.length : Int) = x := getD_mid pre x suf _

/-! the reference's widths are there, one for each letter (no more is said) -/
theorem joins_l0_some (l : List Int) (x : Int) (hl : l.length ≤ 1048576) : ∀ (n : Nat) (c : Int) (k : Nat), n ≤ l.length → n + 1 ≤ k → ∃ b, spec_l2Joins.l0 k l x c ((n : Int) - 1) = some b
  | 0, c, k, hn, hk => by
    obtain ⟨k, rfl⟩ : ∃ m, k = m + 1 := ⟨k - 1, by omega⟩
    simp only [spec_l2Joins.l0, spec_l2Flag.f, specIn, Option.bind_some]
    rw [if_neg (by omega)]
    split <;> exact ⟨_, rfl⟩
  | n + 1, c, k, hn, hk => by
    obtain ⟨k, rfl⟩ : ∃ m, k = m + 1 := ⟨k - 1, by omega⟩
    obtain ⟨b, hb⟩ := joins_l0_some l x hl n (wrap64 (c + 1)) k (by omega) (by omega)
    have e : wrap64 (((n + 1 : Nat) : Int) - 1 - 1) = (n : Int) - 1 := by rw [w64 (by omega) (by omega)]; omega
    simp only [spec_l2Joins.l0, spec_l2Flag.f, specIn, Option.bind_some]
    rw [if_pos (by omega), if_pos (by omega), if_pos (by omega), e, hb]
    split
    · exact ⟨_, rfl⟩
    · split <;> exact ⟨_, rfl⟩
theorem joins_some (l : List Int) (hl : l.length ≤ 1048576) (n : Nat) (hn : n + 1 < l.length) (k : Nat) (hk : l.length + 100 ≤ k) : ∃ b, spec_l2Joins.f k l ((n : Int) + 1) = some b := by
  have e : wrap64 ((n : Int) + 1 - 1) = (n : Int) := by rw [w64 (by omega) (by omega)]; omega
  have key : ∀ x : Bool, ∃ b, spec_l2Joins.j0 k l ((n : Int) + 1) (rd l ((n : Int) + 1)) x = some b := by
    intro x
    obtain ⟨k, rfl⟩ : ∃ m, k = m + 2 := ⟨k - 2, by omega⟩
    obtain ⟨b, hb⟩ := joins_l0_some l (rd l ((n : Int) + 1)) hl (n + 1) 0 k (by omega) (by omega)
    rw [show ((n + 1 : Nat) : Int) - 1 = (n : Int) from by omega] at hb
    cases x with
    | true =>
      simp only [spec_l2Joins.j0, e, if_true]
      rw [if_pos (by omega), if_pos (by omega)]
      split <;> exact ⟨_, rfl⟩
    | false =>
      simp only [spec_l2Joins.j0, Bool.false_eq_true, if_false]
      rw [specBidi _ _ (by omega)]
      simp only [Option.bind_some, spec_l2Joins.j1, e, hb]
      repeat' split
      all_goals exact ⟨_, rfl⟩
  unfold spec_l2Joins.f
  rw [if_pos (by omega), if_pos (by omega), e]
  obtain ⟨b1, h1⟩ := key true
  obtain ⟨b2, h2⟩ := key (rd l (n : Int) == 10)
  split
  · exact ⟨b1, h1⟩
  · rw [if_pos (by omega), if_pos (by omega)]
    exact ⟨b2, h2⟩
theorem at_some (l : List Int) (hl : l.length ≤ 1048576) : ∀ (n k : Nat), n < l.length → n + l.length + 101 ≤ k → ∃ v, spec_l2At.l0 k l (n : Int) = some v
  | 0, k, hn, hk => by
    obtain ⟨k, rfl⟩ : ∃ m, k = m + 1 := ⟨k - 1, by omega⟩
    simp only [spec_l2At.l0]
    rw [if_neg (by omega)]
    exact ⟨_, rfl⟩
  | n + 1, k, hn, hk => by
    obtain ⟨k, rfl⟩ : ∃ m, k = m + 1 := ⟨k - 1, by omega⟩
    obtain ⟨v, hv⟩ := at_some l hl n k (by omega) (by omega)
    obtain ⟨b, hb⟩ := joins_some l hl n hn k (by omega)
    have e : wrap64 ((n : Int) + 1 - 1) = (n : Int) := by rw [w64 (by omega) (by omega)]; omega
    simp only [spec_l2At.l0]
    rw [show ((n + 1 : Nat) : Int) = (n : Int) + 1 from by omega, if_pos (by omega), hb, e, hv]
    simp only [Option.bind_some]
    split <;> exact ⟨_, rfl⟩
theorem cw_some (l : List Int) (hl : l.length ≤ 1048576) : ∀ (n i k : Nat) (m : Int), i + 1 + n = l.length → 2 * n + l.length + 200 ≤ k → ∃ v, spec_l2Wide.l0 k l m ((i : Int) + 1) = some v
  | 0, i, k, m, hn, hk => by
    obtain ⟨k, rfl⟩ : ∃ j, k = j + 2 := ⟨k - 2, by omega⟩
    simp only [spec_l2Wide.l0]
    rw [if_neg (by omega)]
    simp only [spec_l2Wide.j1]
    exact ⟨_, rfl⟩
  | n + 1, i, k, m, hn, hk => by
    obtain ⟨k, rfl⟩ : ∃ j, k = j + 2 := ⟨k - 2, by omega⟩
    obtain ⟨b, hb⟩ := joins_some l hl i (by omega) (k + 1) (by omega)
    obtain ⟨v1, h1⟩ := cw_some l hl n (i + 1) k m (by omega) (by omega)
    obtain ⟨v2, h2⟩ := cw_some l hl n (i + 1) k (rwide (rd l ((i : Int) + 1))) (by omega) (by omega)
    rw [show ((i + 1 : Nat) : Int) + 1 = (i : Int) + 1 + 1 from by omega] at h1 h2
    simp only [spec_l2Wide.l0]
    rw [if_pos (by omega), hb]
    simp only [Option.bind_some, spec_l2Wide.j1]
    rw [if_pos (show (0 : Int) ≤ (i : Int) + 1 by omega), if_pos (show (i : Int) + 1 < (l.length : Int) by omega), specWide _ _ (by omega), w64_len (n := (i : Int) + 1) (by omega) (by omega)]
    simp only [Option.bind_some]
    rw [h1, h2]
    repeat' split
    all_goals exact ⟨_, rfl⟩
theorem l6At_some (i : Int) : ∀ (suf pre : List Sp) (k : Nat), (pre ++ suf).length ≤ 1048576 → suf.length + 1 ≤ k → ∃ v, spec_l6At.l0 k (pre ++ suf) i (pre.length : Int) = some v
  | [], pre, k, hl, hk => by
    obtain ⟨k, rfl⟩ : ∃ m, k = m + 1 := ⟨k - 1, by simp at hk; omega⟩
    simp only [spec_l6At.l0]
    rw [if_neg (len_end pre)]
    exact ⟨_, rfl⟩
  | s :: suf, pre, k, hl, hk => by
    obtain ⟨k, rfl⟩ : ∃ m, k = m + 1 := ⟨k - 1, by simp at hk; omega⟩
    have hp : (pre.length : Int) ≤ 1048576 := by simp at hl; omega
    obtain ⟨v, ih⟩ := l6At_some i suf (pre ++ [s]) k (by simpa using hl) (by simp at hk; omega)
    rw [len_snoc, ← app_cons] at ih
    simp only [spec_l6At.l0]
    rw [if_pos (len_mid pre s suf), if_pos (by omega), rdSp_mid, w64_len (by omega) (by omega), ih, specIn]
    simp only [Option.bind_some]
    split <;> exact ⟨_, rfl⟩
theorem wides_some (l : List Int) (sp : List Sp) (hl : l.length ≤ 1048576) (hs : sp.length ≤ 1048576) : ∀ (n i : Nat) (out : List Int) (k : Nat), i + n = l.length → out.length = i → n + 3 * l.length + sp.length + 500 ≤ k → ∃ ws, spec_l6Wides.l0 k l sp out (i : Int) = some ws ∧ ws.length = l.length
  | 0, i, out, k, hi, ho, hk => by
    obtain ⟨k, rfl⟩ : ∃ m, k = m + 1 := ⟨k - 1, by omega⟩
    simp only [spec_l6Wides.l0]
    rw [if_neg (by omega)]
    exact ⟨_, rfl, by omega⟩
  | n + 1, i, out, k, hi, ho, hk => by
    obtain ⟨k, rfl⟩ : ∃ m, k = m + 1 := ⟨k - 1, by omega⟩
    have ih := fun v => wides_some l sp hl hs n (i + 1) (out ++ [v]) k (by omega) (by simp [ho]) (by omega)
    obtain ⟨a, ha⟩ := at_some l hl i k (by omega) (by omega)
    obtain ⟨b, hb⟩ := l6At_some (i : Int) sp [] k (by simpa using hs) (by omega)
    have ha' : spec_l2At.f k l (i : Int) = some a := ha
    have hb' : spec_l6At.f k sp (i : Int) = some b := hb
    obtain ⟨c, hc⟩ : ∃ c, spec_l2Wide.f k l (i : Int) = some c := by
      obtain ⟨c, hc⟩ := cw_some l hl (n + 1 - 1) i k (rwide (rd l (i : Int))) (by omega) (by omega)
      refine ⟨c, ?_⟩
      unfold spec_l2Wide.f
      rw [if_pos (by omega), if_pos (by omega), specWide _ _ (by omega), w64_len (by omega) (by omega)]
      exact hc
    rw [show ((i + 1 : Nat) : Int) = (i : Int) + 1 from by omega] at ih
    simp only [spec_l6Wides.l0]
    rw [if_pos (by omega), ha', hb', hc, w64_len (by omega) (by omega)]
    simp only [Option.bind_some]
    split
    · rw [if_pos (by omega)]
      exact ih _
    · rw [if_pos (by omega)]
      exact ih _

/-! what is drawn: a reader of bytes -/
theorem xor_i64 (a b : Nat) (ha : a < 2 ^ 40) (hb : b < 2 ^ 40) : bits .xor .i64 (a : Int) (b : Int) = ((a ^^^ b : Nat) : Int) := by
  have hp : (2 : Nat) ^ 40 ≤ 2 ^ IntKind.i64.bits := by decide
  have ha' : a % 2 ^ IntKind.i64.bits = a := Nat.mod_eq_of_lt (Nat.lt_of_lt_of_le ha hp)
  have hb' : b % 2 ^ IntKind.i64.bits = b := Nat.mod_eq_of_lt (Nat.lt_of_lt_of_le hb hp)
  simp only [bits, BitVec.ofInt_natCast, BitVec.toNat_xor, BitVec.toNat_ofNat, ha', hb']
  have h := Nat.xor_lt_two_pow ha hb
  rw [IntKind.wrap_i64]
  omega
theorem xor_pos {x y : Int} (hx : 0 ≤ x) (hx' : x < 1099511627776) (hy : 0 ≤ y) (hy' : y < 1099511627776) : 0 ≤ bits .xor .i64 x y ∧ bits .xor .i64 x y < 1099511627776 := by
  obtain ⟨a, rfl⟩ := Int.eq_ofNat_of_zero_le hx
  obtain ⟨b, rfl⟩ := Int.eq_ofNat_of_zero_le hy
  have ha : a < 2 ^ 40 := by omega
  have hb : b < 2 ^ 40 := by omega
  rw [xor_i64 a b ha hb]
  have h := Nat.xor_lt_two_pow ha hb
  omega
theorem tmod_in {x n : Int} (hx : 0 ≤ x) (hn : 0 < n) : 0 ≤ Int.tmod x n ∧ Int.tmod x n < n := by
  rw [Int.tmod_eq_emod_of_nonneg hx]
  exact ⟨Int.emod_nonneg _ (by omega), Int.emod_lt_of_pos _ hn⟩
theorem tdiv_in {x n : Int} (hx : 0 ≤ x) (hn : 0 < n) : 0 ≤ Int.tdiv x n ∧ Int.tdiv x n ≤ x := by
  rw [Int.tdiv_eq_ediv_of_nonneg hx]
  exact ⟨Int.ediv_nonneg hx (by omega), Int.ediv_le_self _ hx⟩
/-- bytes -/
def Bytes (b : List Int) : Prop := b.length ≤ 2000 ∧ ∀ x ∈ b, 0 ≤ x ∧ x ≤ 255
theorem rd_byte {b : List Int} (hb : Bytes b) {i : Int} (h : i < b.length) (h0 : 0 ≤ i) : 0 ≤ rd b i ∧ rd b i ≤ 255 := by
  unfold rd
  have hi : i.toNat < b.length := by omega
  rw [List.getD_eq_getElem?_getD, List.getElem?_eq_getElem hi]
  exact hb.2 _ (List.getElem_mem hi)
theorem pick_ok {b : List Int} (hb : Bytes b) (p n : Int) (hp : 0 ≤ p) (hp' : p ≤ 1000000) (k : Nat) (hk : 1 ≤ k) :
    ∃ v, spec_l1Rd_pick.f k b p n = some (v, p + 1) ∧ 0 ≤ v ∧ (1 ≤ n → v < n) ∧ (n < 1 → v = 0) := by
  obtain ⟨k, rfl⟩ : ∃ m, k = m + 1 := ⟨k - 1, by omega⟩
  have hl := hb.1
  have e1 : wrap64 (p + 1) = p + 1 := w64 (by omega) (by omega)
  have e2 : wrap64 (p + 1 - 1) = p := by rw [w64 (by omega) (by omega)]; omega
  unfold spec_l1Rd_pick.f
  by_cases hn : n < 1
  · rw [if_pos hn, e1]
    simp only [spec_l1Rd_pick.j0, if_true]
    exact ⟨0, rfl, by omega, by omega, fun _ => rfl⟩
  · rw [if_neg hn, e1]
    by_cases h0 : b.length = 0
    · have e0 : ((b.length : Int) == 0) = true := by simp [h0]
      simp only [spec_l1Rd_pick.j0, e0, if_true]
      exact ⟨0, rfl, by omega, by omega, fun _ => rfl⟩
    · have e0 : ((b.length : Int) == 0) = false := by simp; intro h; exact h0 (by rw [h]; rfl)
      have hlen : (0 : Int) < b.length := by omega
      simp only [spec_l1Rd_pick.j0, e0, e2, Bool.false_eq_true, if_false]
      have hn0 : ¬ n = 0 := by omega
      by_cases hlt : p < (b.length : Int)
      · rw [if_pos hlt, if_pos hp, if_neg hn0]
        obtain ⟨r0, r1⟩ := rd_byte hb hlt hp
        rw [w64 (by omega) (by omega)]
        have h := tmod_in r0 (show 0 < n by omega)
        exact ⟨_, rfl, h.1, fun _ => h.2, fun h' => absurd h' hn⟩
      · have m1 := tmod_in hp hlen
        have e7 : wrap64 (wrap64 (p * 7) + 3) = p * 7 + 3 := by rw [w64 (x := p * 7) (by omega) (by omega), w64 (by omega) (by omega)]
        have m2 := tmod_in (show 0 ≤ p * 7 + 3 by omega) hlen
        have r1 := rd_byte hb m1.2 m1.1
        have r2 := rd_byte hb m2.2 m2.1
        have d1 := tdiv_in hp hlen
        rw [if_neg hlt, if_neg (by omega), if_pos m1.1, if_pos m1.2, e7, if_pos m2.1, if_pos m2.2, if_neg hn0]
        generalize rd b (Int.tmod p (b.length : Int)) = x1 at *
        generalize rd b (Int.tmod (p * 7 + 3) (b.length : Int)) = x2 at *
        generalize Int.tdiv p (b.length : Int) = x3 at *
        have eX : wrap64 (wrap64 (wrap64 (wrap64 (wrap64 x1 * 131) + wrap64 (wrap64 x2 * 1117)) + wrap64 (p * 29)) + wrap64 (wrap64 x3 * 53)) = x1 * 131 + x2 * 1117 + p * 29 + x3 * 53 := by
          rw [w64 (x := x1) (by omega) (by omega), w64 (x := x2) (by omega) (by omega), w64 (x := x3) (by omega) (by omega), w64 (x := x1 * 131) (by omega) (by omega), w64 (x := x2 * 1117) (by omega) (by omega), w64 (x := p * 29) (by omega) (by omega), w64 (x := x3 * 53) (by omega) (by omega), w64 (x := x1 * 131 + x2 * 1117) (by omega) (by omega), w64 (x := x1 * 131 + x2 * 1117 + p * 29) (by omega) (by omega), w64 (by omega) (by omega)]
        rw [eX]
        have hX0 : 0 ≤ x1 * 131 + x2 * 1117 + p * 29 + x3 * 53 := by omega
        have hX1 : x1 * 131 + x2 * 1117 + p * 29 + x3 * 53 < 1000000000 := by omega
        generalize x1 * 131 + x2 * 1117 + p * 29 + x3 * 53 = X at *
        have d2 := tdiv_in hX0 (show (0 : Int) < 64 by omega)
        rw [w64 (x := Int.tdiv X 64) (by omega) (by omega)]
        have hx := xor_pos hX0 (by omega) d2.1 (by omega)
        have h := tmod_in hx.1 (show 0 < n by omega)
        exact ⟨_, rfl, h.1, fun _ => h.2, fun h' => absurd h' hn⟩
theorem open_ok {l : List Int} (h : ∀ x ∈ l, (Lit.int .u8 x).wf = true) : ∃ b, spec_l1Open.f l = some (b, 0) ∧ Bytes b := by
  unfold spec_l1Open.f
  by_cases h1 : (l.length : Int) > 2000
  · rw [if_pos h1, if_pos (by omega)]
    exact ⟨_, rfl, by rw [List.length_take]; omega, fun x hx => in_u8 (h x (List.mem_of_mem_take hx))⟩
  · rw [if_neg h1]
    exact ⟨_, rfl, by omega, fun x hx => in_u8 (h x hx)⟩

theorem one_ok {b : List Int} (hb : Bytes b) (p : Int) (hp : 0 ≤ p) (hp' : p ≤ 1000000) (l : List Int) (hl : 1 ≤ l.length) (k : Nat) (hk : 1 ≤ k) :
    ∃ v, spec_l1Rd_one.f k b p l = some (v, p + 1) ∧ v ∈ l := by
  obtain ⟨v, e, h0, h1, _⟩ := pick_ok hb p (l.length : Int) hp hp' k hk
  unfold spec_l1Rd_one.f
  rw [e]
  simp only [Option.bind_some]
  have h2 := h1 (by omega)
  rw [if_pos h0, if_pos h2]
  refine ⟨_, rfl, ?_⟩
  unfold rd
  have hi : v.toNat < l.length := by omega
  rw [List.getD_eq_getElem?_getD, List.getElem?_eq_getElem hi]
  exact List.getElem_mem hi

/-- a number that is drawn as a letter -/
def LRange (v : Int) : Prop := 0 ≤ v ∧ v ≤ 1114111
theorem rune_ok {b : List Int} (hb : Bytes b) (p : Int) (hp : 0 ≤ p) (hp' : p ≤ 900000) (k : Nat) (hk : 10 ≤ k) :
    ∃ v q, spec_l13Rune.f k b p = some (v, q) ∧ p ≤ q ∧ q ≤ p + 2 ∧ LRange v := by
  obtain ⟨k, rfl⟩ : ∃ m, k = m + 10 := ⟨k - 10, by omega⟩
  obtain ⟨v, e, h0, h1, _⟩ := pick_ok hb p 16 hp (by omega) (k + 10) (by omega)
  have h2 := h1 (by omega)
  unfold spec_l13Rune.f
  rw [e]
  have one : ∀ (l : List Int) (j : Nat), 1 ≤ l.length → 1 ≤ j → (∀ x ∈ l, LRange x) → ∃ u q, ((spec_l1Rd_one.f j b (p + 1) l).bind fun bt => some (bt.1, bt.2)) = some (u, q) ∧ p ≤ q ∧ q ≤ p + 2 ∧ LRange u := by
    intro l j h3 h4 h5
    obtain ⟨u, e1, h6⟩ := one_ok hb (p + 1) (by omega) (by omega) l h3 j h4
    exact ⟨u, p + 1 + 1, by rw [e1]; rfl, by omega, by omega, h5 u h6⟩
  simp only [Option.bind_some]
  have hv : v = 0 ∨ v = 1 ∨ v = 2 ∨ v = 3 ∨ v = 4 ∨ v = 5 ∨ v = 6 ∨ v = 7 ∨ v = 8 ∨ v = 9 ∨ v = 10 ∨ v = 11 ∨ v = 12 ∨ v = 13 ∨ v = 14 ∨ v = 15 := by omega
  rcases hv with rfl | rfl | rfl | rfl | rfl | rfl | rfl | rfl | rfl | rfl | rfl | rfl | rfl | rfl | rfl | rfl
  all_goals simp only [spec_l13Rune.j0, spec_l13Rune.j1, spec_l13Rune.j2, Int.reduceEq, Int.reduceBEq, if_true, if_false, ↓reduceIte, Bool.false_eq_true, beq_self_eq_true]
  all_goals first
    | exact ⟨32, p + 1, rfl, by omega, by omega, by unfold LRange; omega⟩
    | exact one _ _ (by simp) (by omega) (by simp [LRange])

theorem runes_l1 {b : List Int} (hb : Bytes b) : ∀ (n : Nat) (out : List Int) (p : Int) (k : Nat), out.length + n = 80 → 0 ≤ p → p + n ≤ 900000 → (∀ x ∈ out, LRange x) → n + 1 ≤ k →
    ∃ v q, spec_l13Runes.l1 k out b p = some (v, q) ∧ v.length ≤ 80 ∧ (∀ x ∈ v, LRange x) ∧ p ≤ q ∧ q ≤ p + n
  | 0, out, p, k, ho, hp, hp', hx, hk => by
    obtain ⟨k, rfl⟩ : ∃ m, k = m + 1 := ⟨k - 1, by omega⟩
    simp only [spec_l13Runes.l1]
    rw [if_neg (by omega)]
    exact ⟨_, _, rfl, by omega, hx, by omega, by omega⟩
  | n + 1, out, p, k, ho, hp, hp', hx, hk => by
    obtain ⟨k, rfl⟩ : ∃ m, k = m + 1 := ⟨k - 1, by omega⟩
    simp only [spec_l13Runes.l1]
    rw [if_pos (by omega)]
    obtain ⟨u, e1, h3⟩ := one_ok hb p (by omega) (by omega) [8235, 8238, 8295, 1488, 97] (by simp) k (by omega)
    rw [e1]
    simp only [Option.bind_some]
    rw [if_pos (by omega)]
    have hu : LRange u := by simp at h3; unfold LRange; omega
    obtain ⟨v, q, g1, g2, g3, g4, g5⟩ := runes_l1 hb n (out ++ [u]) (p + 1) k (by simp; omega) (by omega) (by omega) (fun x hx' => by
      rcases List.mem_append.1 hx' with h | h
      · exact hx x h
      · simp at h
        exact h ▸ hu) (by omega)
    exact ⟨v, q, g1, g2, g3, by omega, by omega⟩
theorem runes_l0 {b : List Int} (hb : Bytes b) : ∀ (n : Nat) (out : List Int) (p : Int) (k : Nat), out.length + n ≤ 80 → 0 ≤ p → p + 2 * n ≤ 800000 → (∀ x ∈ out, LRange x) → n + 100 ≤ k →
    ∃ v q, spec_l13Runes.l0 k out (n : Int) b p = some (v, q) ∧ v.length ≤ 80 ∧ (∀ x ∈ v, LRange x) ∧ p ≤ q ∧ q ≤ p + 2 * n + 81
  | 0, out, p, k, ho, hp, hp', hx, hk => by
    obtain ⟨k, rfl⟩ : ∃ m, k = m + 1 := ⟨k - 1, by omega⟩
    simp only [spec_l13Runes.l0]
    rw [if_neg (by omega)]
    obtain ⟨v, e, h0, h1, _⟩ := pick_ok hb p 24 hp (by omega) k (by omega)
    rw [e]
    simp only [Option.bind_some]
    by_cases hv : v = 0
    · rw [if_pos hv]
      obtain ⟨v, q, g1, g2, g3, g4, g5⟩ := runes_l1 hb (80 - out.length) out (p + 1) k (by omega) (by omega) (by omega) hx (by omega)
      exact ⟨v, q, g1, g2, g3, by omega, by omega⟩
    · rw [if_neg hv]
      exact ⟨_, _, rfl, by omega, hx, by omega, by omega⟩
  | n + 1, out, p, k, ho, hp, hp', hx, hk => by
    obtain ⟨k, rfl⟩ : ∃ m, k = m + 1 := ⟨k - 1, by omega⟩
    simp only [spec_l13Runes.l0]
    rw [if_pos (by omega)]
    obtain ⟨u, q, e1, h2, h3, hu⟩ := rune_ok hb p (by omega) (by omega) k (by omega)
    rw [e1]
    simp only [Option.bind_some]
    rw [if_pos (by omega)]
    have e6 : wrap64 (((n + 1 : Nat) : Int) - 1) = (n : Int) := by rw [w64 (by omega) (by omega)]; omega
    rw [e6]
    obtain ⟨v, q', g1, g2, g3, g4, g5⟩ := runes_l0 hb n (out ++ [u]) q k (by simp; omega) (by omega) (by omega) (fun x hx' => by
      rcases List.mem_append.1 hx' with h | h
      · exact hx x h
      · simp at h
        exact h ▸ hu) (by omega)
    exact ⟨v, q', g1, g2, g3, by omega, by omega⟩
theorem runes_ok {b : List Int} (hb : Bytes b) (p : Int) (hp : 0 ≤ p) (hp' : p ≤ 700000) (k : Nat) (hk : 150 ≤ k) :
    ∃ v q, spec_l13Runes.f k b p = some (v, q) ∧ v.length ≤ 80 ∧ (∀ x ∈ v, LRange x) ∧ p ≤ q ∧ q ≤ p + 200 := by
  obtain ⟨n, e, h0, h1, _⟩ := pick_ok hb p 24 hp (by omega) k (by omega)
  have h2 := h1 (by omega)
  unfold spec_l13Runes.f
  rw [e]
  simp only [Option.bind_some]
  obtain ⟨m, rfl⟩ : ∃ m : Nat, n = m := ⟨n.toNat, by omega⟩
  obtain ⟨v, q, g1, g2, g3, g4, g5⟩ := runes_l0 hb m [] (p + 1) k (by simp; omega) (by omega) (by omega) (by simp) (by omega)
  exact ⟨v, q, g1, g2, g3, by omega, by omega⟩

def SpR (s : Sp) : Prop := -100 ≤ s.f0 ∧ s.f0 ≤ 200 ∧ -100 ≤ s.f1 ∧ s.f1 ≤ 200 ∧ -100 ≤ s.f2 ∧ s.f2 ≤ 200 ∧ -100 ≤ s.f3 ∧ s.f3 ≤ 200
theorem len_rd (i : Int) (h0 : 0 ≤ i) (h1 : i < 5) : 1 ≤ rd [10, 5, 20, 40, 1] i ∧ rd [10, 5, 20, 40, 1] i ≤ 40 := by
  have : i = 0 ∨ i = 1 ∨ i = 2 ∨ i = 3 ∨ i = 4 := by omega
  rcases this with rfl | rfl | rfl | rfl | rfl <;> decide
theorem all_snoc {α : Type} {P : α → Prop} {l : List α} {x : α} (h : ∀ y ∈ l, P y) (hx : P x) : ∀ y ∈ l ++ [x], P y := by
  intro y hy
  rcases List.mem_append.1 hy with g | g
  · exact h y g
  · simp at g
    exact g ▸ hx
theorem spans_l0 {b : List Int} (hb : Bytes b) (x1 : Int) (hx1 : 0 ≤ x1 ∧ x1 ≤ 100) : ∀ (n : Nat) (out : List Sp) (x6 p : Int) (k : Nat), out.length + n = 12 → (∀ s ∈ out, SpR s) → 0 ≤ x6 → x6 ≤ 110 → 0 ≤ p → p + 6 * n ≤ 800000 → 2 * n + 3 ≤ k →
    ∃ v q, spec_l13Spans.l0 k x1 out x6 b p = some (v, q) ∧ v.length ≤ 12 ∧ (∀ s ∈ v, SpR s) ∧ p ≤ q ∧ q ≤ p + 6 * n + 1
  | 0, out, x6, p, k, ho, hs, h0, h1, hp, hp', hk => by
    obtain ⟨k, rfl⟩ : ∃ m, k = m + 2 := ⟨k - 2, by omega⟩
    simp only [spec_l13Spans.l0]
    have hn : ¬ (out.length : Int) < 12 := by omega
    have e : spec_l13Spans.j1 (k + 1) x1 out x6 false b p = some (out, p) := by
      simp only [spec_l13Spans.j1]
      rw [if_neg (by simp)]
    rw [if_neg hn, e, ite_self]
    exact ⟨_, _, rfl, by omega, hs, by omega, by omega⟩
  | n + 1, out, x6, p, k, ho, hs, h0, h1, hp, hp', hk => by
    obtain ⟨k, rfl⟩ : ∃ m, k = m + 2 := ⟨k - 2, by omega⟩
    have stop : ∀ q, spec_l13Spans.j1 (k + 1) x1 out x6 false b q = some (out, q) := by
      intro q
      simp only [spec_l13Spans.j1]
      rw [if_neg (by simp)]
    simp only [spec_l13Spans.l0]
    by_cases hx : x6 < x1
    · rw [if_pos hx, if_pos (by omega)]
      obtain ⟨v1, e1, a1, b1, _⟩ := pick_ok hb p 8 hp (by omega) (k + 1) (by omega)
      rw [e1]
      simp only [Option.bind_some]
      by_cases hv : v1 > 0
      · rw [decide_eq_true hv]
        simp only [spec_l13Spans.j1, if_true]
        obtain ⟨v2, e2, a2, b2, _⟩ := pick_ok hb (p + 1) 5 (by omega) (by omega) k (by omega)
        have c2 := b2 (by omega)
        rw [e2]
        simp only [Option.bind_some]
        obtain ⟨v3, e3, a3, b3, _⟩ := pick_ok hb (p + 1 + 1) 5 (by omega) (by omega) k (by omega)
        have c3 := b3 (by omega)
        rw [e3]
        simp only [Option.bind_some]
        obtain ⟨v4, e4, a4, b4, _⟩ := pick_ok hb (p + 1 + 1 + 1) 3 (by omega) (by omega) k (by omega)
        have c4 := b4 (by omega)
        rw [e4]
        simp only [Option.bind_some]
        obtain ⟨v5, e5, a5, b5, _⟩ := pick_ok hb (p + 1 + 1 + 1 + 1) 3 (by omega) (by omega) k (by omega)
        have c5 := b5 (by omega)
        rw [e5]
        simp only [Option.bind_some]
        have hr := len_rd v3 a3 c3
        rw [w64 (x := x6 + 1) (by omega) (by omega), w64 (x := x6 + 1 + v2) (by omega) (by omega)]
        have c3' : v3 < (([10, 5, 20, 40, 1] : List Int).length : Int) := by simpa using c3
        have ho' : out.length < 4398046511104 := by omega
        by_cases ht : x6 + 1 + v2 > x1
        · rw [if_pos ht, if_pos a3, if_pos c3', if_pos ho', w64 (by omega) (by omega)]
          obtain ⟨v, q, g1, g2, g3, g4, g5⟩ := spans_l0 hb x1 hx1 n (out ++ [⟨x6, x1, rd [10, 5, 20, 40, 1] v3, v4⟩]) (x1 + v5) (p + 1 + 1 + 1 + 1 + 1) k (by simp; omega) (all_snoc hs (by simp only [SpR]; omega)) (by omega) (by omega) (by omega) (by omega) (by omega)
          exact ⟨v, q, g1, g2, g3, by omega, by omega⟩
        · rw [if_neg ht, if_pos a3, if_pos c3', if_pos ho', w64 (by omega) (by omega)]
          obtain ⟨v, q, g1, g2, g3, g4, g5⟩ := spans_l0 hb x1 hx1 n (out ++ [⟨x6, x6 + 1 + v2, rd [10, 5, 20, 40, 1] v3, v4⟩]) (x6 + 1 + v2 + v5) (p + 1 + 1 + 1 + 1 + 1) k (by simp; omega) (all_snoc hs (by simp only [SpR]; omega)) (by omega) (by omega) (by omega) (by omega) (by omega)
          exact ⟨v, q, g1, g2, g3, by omega, by omega⟩
      · rw [decide_eq_false hv, stop]
        exact ⟨_, _, rfl, by omega, hs, by omega, by omega⟩
    · rw [if_neg hx, stop]
      exact ⟨_, _, rfl, by omega, hs, by omega, by omega⟩
theorem spans_ok {b : List Int} (hb : Bytes b) (x1 : Int) (hx1 : 0 ≤ x1 ∧ x1 ≤ 100) (p : Int) (hp : 0 ≤ p) (hp' : p ≤ 700000) (k : Nat) (hk : 30 ≤ k) :
    ∃ v q, spec_l13Spans.f k b p x1 = some (v, q) ∧ v.length ≤ 12 ∧ (∀ s ∈ v, SpR s) ∧ p ≤ q ∧ q ≤ p + 100 := by
  obtain ⟨n, e, h0, h1, _⟩ := pick_ok hb p 4 hp (by omega) k (by omega)
  have h2 := h1 (by omega)
  unfold spec_l13Spans.f
  rw [e]
  simp only [Option.bind_some]
  obtain ⟨v, q, g1, g2, g3, g4, g5⟩ := spans_l0 hb x1 hx1 12 [] n (p + 1) k (by simp) (by simp) (by omega) (by omega) (by omega) (by omega) (by omega)
  exact ⟨v, q, g1, g2, g3, by omega, by omega⟩

theorem sum_nonneg : ∀ (l : List Int), (∀ x ∈ l, 0 ≤ x) → 0 ≤ l.sum
  | [], _ => by simp
  | x :: l, h => by
    have := sum_nonneg l (fun y hy => h y (List.mem_cons_of_mem _ hy))
    have := h x List.mem_cons_self
    rw [List.sum_cons]
    omega
theorem sum_bd : ∀ (l : List Int), (∀ x ∈ l, x ≤ 20000) → l.sum ≤ 20000 * (l.length : Int)
  | [], _ => by simp
  | x :: l, h => by
    have := sum_bd l (fun y hy => h y (List.mem_cons_of_mem _ hy))
    have := h x List.mem_cons_self
    rw [List.sum_cons, List.length_cons]
    omega
/-- the sum of what lies from one place up to another one -/
def sumTo (ws : List Int) (f t : Nat) : Int := ((ws.take t).drop f).sum
theorem sumTo_snoc (ws : List Int) (f t : Nat) (hf : f ≤ t) (ht : t < ws.length) : sumTo ws f (t + 1) = sumTo ws f t + ws.getD t 0 := by
  unfold sumTo
  rw [List.take_add_one, List.drop_append_of_le_length (by simp; omega), List.sum_append, List.getElem?_eq_getElem ht, List.getD_eq_getElem?_getD, List.getElem?_eq_getElem ht]
  simp
theorem sumTo_same (ws : List Int) (f : Nat) : sumTo ws f f = 0 := by
  unfold sumTo
  rw [List.drop_eq_nil_of_le (by rw [List.length_take]; omega)]
  rfl
theorem sumTo_mono (ws : List Int) (hs : okW ws = true) (f : Nat) : ∀ (d b : Nat), f ≤ b → b + d ≤ ws.length → sumTo ws f b ≤ sumTo ws f (b + d)
  | 0, b, _, _ => Int.le_refl _
  | d + 1, b, hf, hl => by
    have h1 := sumTo_mono ws hs f d b hf (by omega)
    have h2 := sumTo_snoc ws f (b + d) (by omega) (by omega)
    have h3 : 0 ≤ ws.getD (b + d) 0 := by
      rw [List.getD_eq_getElem?_getD, List.getElem?_eq_getElem (by omega)]
      exact (okW_mem hs _ (List.getElem_mem _)).1
    rw [show b + (d + 1) = b + d + 1 from rfl, h2]
    omega
theorem bodyN_step (l : List Int) (f t : Nat) : bodyN l f t ≤ bodyN l f (t + 1) := by
  have := bodyN_le l f t
  rw [show bodyN l f (t + 1) = if f < t + 1 ∧ emp (l.getD t 0) then bodyN l f t else t + 1 from rfl]
  split <;> omega
theorem lineW_le (l ws : List Int) (hs : okW ws = true) (f t : Nat) (hf : f ≤ t) (ht : t ≤ ws.length) : lineW l ws f t ≤ sumTo ws f t := by
  have h1 := bodyN_le l f t
  have h2 := bodyN_ge l f t hf
  have := sumTo_mono ws hs f (t - bodyN l f t) (bodyN l f t) h2 (by omega)
  rw [show bodyN l f t + (t - bodyN l f t) = t from by omega] at this
  exact this
theorem lineW_pos (l ws : List Int) (hs : okW ws = true) (f t : Nat) : 0 ≤ lineW l ws f t :=
  sum_nonneg _ (fun x hx => (okW_mem hs x (List.mem_of_mem_take (List.mem_of_mem_drop hx))).1)
theorem lineW_step (l ws : List Int) (hs : okW ws = true) (f t : Nat) (hf : f ≤ t) (ht : t + 1 ≤ ws.length) : lineW l ws f t ≤ lineW l ws f (t + 1) := by
  have h1 := bodyN_le l f (t + 1)
  have h2 := bodyN_ge l f t hf
  have h3 := bodyN_step l f t
  have := sumTo_mono ws hs f (bodyN l f (t + 1) - bodyN l f t) (bodyN l f t) h2 (by omega)
  rw [show bodyN l f t + (bodyN l f (t + 1) - bodyN l f t) = bodyN l f (t + 1) from by omega] at this
  exact this
theorem line_end (v ws : List Int) (f t : Nat) (hf : f ≤ t) (ht : t ≤ v.length) (hv : v.length ≤ 80) (s : Int) (hs : lineWideL v ws f t ≤ s ∨ lineWideL v ws f t = 0) (k : Nat) (hk : 100 ≤ k) :
    (if lineWideL v ws f t ≥ 0 then (if lineWideL v ws f t ≤ s then (if (t : Int) = (f : Int) then (some true) else ((impl_LineWide.f k v ws (f : Int) (wrap64 ((t : Int) - 1))).bind fun t348 => (some (decide (lineWideL v ws f t ≥ t348))))) else (if lineWideL v ws f t = 0 then (if (t : Int) = (f : Int) then (some true) else ((impl_LineWide.f k v ws (f : Int) (wrap64 ((t : Int) - 1))).bind fun t349 => (some (decide (lineWideL v ws f t ≥ t349))))) else (some false))) else (some false)) = some true := by
  have h0 : 0 ≤ lineWideL v ws f t := by
    unfold lineWideL
    split
    · rename_i g
      exact lineW_pos v ws g.2.2.1 _ _
    · omega
  have key : (if (t : Int) = (f : Int) then (some true) else ((impl_LineWide.f k v ws (f : Int) (wrap64 ((t : Int) - 1))).bind fun t348 => (some (decide (lineWideL v ws f t ≥ t348))))) = some true := by
    by_cases he : (t : Int) = (f : Int)
    · rw [if_pos he]
    · rw [if_neg he, implLineWide v ws _ _ k hk]
      simp only [Option.bind_some, Option.some.injEq, decide_eq_true_eq, ge_iff_le]
      obtain ⟨u, rfl⟩ : ∃ u, t = u + 1 := ⟨t - 1, by omega⟩
      have e : wrap64 (((u + 1 : Nat) : Int) - 1) = (u : Int) := by rw [w64 (by omega) (by omega)]; omega
      rw [e]
      unfold lineWideL
      by_cases g : okT v = true ∧ ws.length = v.length ∧ okW ws = true
      · rw [if_pos ⟨g.1, g.2.1, g.2.2, by omega, by omega, by omega⟩, if_pos ⟨g.1, g.2.1, g.2.2, by omega, by omega, by omega⟩, Int.toNat_natCast, Int.toNat_natCast, Int.toNat_natCast]
        exact lineW_step v ws g.2.2 f u (by omega) (by omega)
      · rw [if_neg (fun h => g ⟨h.1, h.2.1, h.2.2.1⟩), if_neg (fun h => g ⟨h.1, h.2.1, h.2.2.1⟩)]
        exact Int.le_refl _
  rw [if_pos h0]
  rcases hs with hs | hs
  · rw [if_pos hs, key]
  · by_cases h1 : lineWideL v ws f t ≤ s
    · rw [if_pos h1, key]
    · rw [if_neg h1, if_pos hs, key]
theorem lineWide_l0 (v ws : List Int) (f t : Nat) (hf : f ≤ t) (ht : t ≤ v.length) (hv : v.length ≤ 80) (hw : ws.length = v.length) : ∀ (n i : Nat) (s : Int) (k : Nat), i + n = t → f ≤ i → (okW ws = true → s = sumTo ws f i) → n + 200 ≤ k →
    laws_FnLineWide.l0 k v ws (f : Int) (t : Int) (lineWideL v ws f t) s (i : Int) = some true
  | 0, i, s, k, hi, hfi, hs, hk => by
    obtain ⟨k, rfl⟩ : ∃ m, k = m + 1 := ⟨k - 1, by omega⟩
    simp only [laws_FnLineWide.l0]
    rw [if_neg (by omega)]
    refine line_end v ws f t hf ht hv s ?_ k (by omega)
    by_cases g : okW ws = true
    · left
      have e := hs g
      obtain rfl : i = t := by omega
      rw [e]
      unfold lineWideL
      split
      · rw [Int.toNat_natCast, Int.toNat_natCast]
        exact lineW_le v ws g f i hf (by omega)
      · exact sum_nonneg _ (fun x hx => (okW_mem g x (List.mem_of_mem_take (List.mem_of_mem_drop hx))).1)
    · right
      unfold lineWideL
      rw [if_neg (fun h => g h.2.2.1)]
  | n + 1, i, s, k, hi, hfi, hs, hk => by
    obtain ⟨k, rfl⟩ : ∃ m, k = m + 1 := ⟨k - 1, by omega⟩
    have ih := lineWide_l0 v ws f t hf ht hv hw n (i + 1) (wrap64 (s + rd ws (i : Int))) k (by omega) (by omega) (fun g => by
      have e := sumTo_snoc ws f i hfi (by omega)
      have e2 := hs g
      have b1 : ∀ x ∈ (ws.take (i + 1)).drop f, 0 ≤ x ∧ x ≤ 20000 := fun x hx => okW_mem g x (List.mem_of_mem_take (List.mem_of_mem_drop hx))
      have b2 : 0 ≤ sumTo ws f (i + 1) := sum_nonneg _ (fun x hx => (b1 x hx).1)
      have b3 : sumTo ws f (i + 1) ≤ 20000 * (((ws.take (i + 1)).drop f).length : Int) := sum_bd _ (fun x hx => (b1 x hx).2)
      have b4 : ((ws.take (i + 1)).drop f).length ≤ 80 := by simp; omega
      rw [rd_nat, e2, ← e, w64 (by omega) (by omega)]) (by omega)
    rw [show ((i + 1 : Nat) : Int) = (i : Int) + 1 from by omega] at ih
    simp only [laws_FnLineWide.l0]
    rw [if_pos (by omega), if_pos (by omega), if_pos (by omega), w64_len (by omega) (by omega), ih]
theorem line_drawn {b : List Int} (hb : Bytes b) (n : Nat) (hn : n ≤ 80) (p : Int) (hp : 0 ≤ p) (hp' : p ≤ 1000) (k : Nat) (hk : 1 ≤ k) :
    ∃ (f t : Nat) (q : Int), spec_l13Line.f k b p (n : Int) = some ((f : Int), (t : Int), q) ∧ f ≤ t ∧ t ≤ n ∧ 0 ≤ q ∧ q ≤ 2000 := by
  obtain ⟨a, p1, p2, p3, _⟩ := pick_ok hb p ((n : Int) + 1) hp (by omega) k hk
  have p4 := p3 (by omega)
  obtain ⟨c, r1, r2, r3, _⟩ := pick_ok hb (p + 1) ((n : Int) - a + 1) (by omega) (by omega) k hk
  have r4 := r3 (by omega)
  obtain ⟨x, rfl⟩ := Int.eq_ofNat_of_zero_le p2
  obtain ⟨y, rfl⟩ := Int.eq_ofNat_of_zero_le r2
  have e1 : wrap64 ((n : Int) + 1) = (n : Int) + 1 := w64_len (by omega) (by omega)
  have e2 : wrap64 (wrap64 ((n : Int) - (x : Int)) + 1) = (n : Int) - (x : Int) + 1 := by rw [w64 (x := (n : Int) - (x : Int)) (by omega) (by omega), w64_len (by omega) (by omega)]
  have e3 : wrap64 ((x : Int) + (y : Int)) = ((x + y : Nat) : Int) := by rw [w64 (by omega) (by omega), Int.natCast_add]
  refine ⟨x, x + y, p + 1 + 1, ?_, by omega, by omega, by omega, by omega⟩
  unfold spec_l13Line.f
  refine Option.bind_eq_some_iff.2 ⟨((x : Int), p + 1), by rw [e1]; exact p1, Option.bind_eq_some_iff.2 ⟨((y : Int), p + 1 + 1), ?_, ?_⟩⟩
  · show spec_l1Rd_pick.f k b (p + 1) (wrap64 (wrap64 ((n : Int) - (x : Int)) + 1)) = _
    rw [e2]
    exact r1
  · show some ((x : Int), wrap64 ((x : Int) + (y : Int)), p + 1 + 1) = _
    rw [e3]
theorem spoil_line {b : List Int} (hb : Bytes b) (v ws : List Int) (x9 x10 : Int) (p : Int) (hp : 0 ≤ p) (hp' : p ≤ 5000) (s : Bool) (hs : s = true → 1 ≤ ws.length) (k : Nat) (hk : 2 ≤ k) :
    ∃ ws', spec_DrawLineWide.j0 k v ws x9 x10 s b p = some (v, ws', x9, x10) ∧ ws'.length = ws.length := by
  obtain ⟨k, rfl⟩ : ∃ m, k = m + 1 := ⟨k - 1, by omega⟩
  cases s with
  | false => exact ⟨ws, by simp only [spec_DrawLineWide.j0, Bool.false_eq_true, if_false], rfl⟩
  | true =>
    obtain ⟨j, r1, r2, r3, _⟩ := pick_ok hb p (ws.length : Int) (by omega) (by omega) k (by omega)
    have r4 := r3 (by have := hs rfl; omega)
    obtain ⟨x, s1, s2⟩ := one_ok hb (p + 1) (by omega) (by omega) [-1, 20001, 7] (by simp) k (by omega)
    refine ⟨ws.set j.toNat x, ?_, by simp⟩
    simp only [spec_DrawLineWide.j0, if_true]
    refine Option.bind_eq_some_iff.2 ⟨(j, p + 1), r1, Option.bind_eq_some_iff.2 ⟨(x, p + 1 + 1), s1, ?_⟩⟩
    show (if 0 ≤ j then (if j < (ws.length : Int) then (some (v, (ws.set (j : Int).toNat x), x9, x10)) else (none)) else (none)) = _
    rw [if_pos r2, if_pos r4]
theorem draw_line {l b : List Int} (e : spec_l1Open.f l = some (b, 0)) (hb : Bytes b) (K : Nat) (hK : 1999 ≤ K) :
    ∃ (v ws : List Int) (f t : Nat), spec_DrawLineWide.f K l = some (v, ws, (f : Int), (t : Int)) ∧ v.length ≤ 80 ∧ ws.length = v.length ∧ f ≤ t ∧ t ≤ v.length := by
  obtain ⟨v, q, g1, g2, g3, g4, g5⟩ := runes_ok hb 0 (by omega) (by omega) K (by omega)
  obtain ⟨sp, q', f1, f2, f3, f4, f5⟩ := spans_ok hb (v.length : Int) (by omega) q (by omega) (by omega) K (by omega)
  obtain ⟨ws, w1, w2⟩ := wides_some v sp (by omega) (by omega) v.length 0 [] K (by omega) rfl (by omega)
  obtain ⟨f, t, q2, l1, l2, l3, l4, l5⟩ := line_drawn hb v.length (by omega) q' (by omega) (by omega) K (by omega)
  have main : ∃ ws', (if (ws.length : Int) > 0 then ((spec_l1Rd_pick.f K b q2 12).bind fun bt290 => (spec_DrawLineWide.j0 K v ws (f : Int) (t : Int) (bt290.1 == 0) b bt290.2)) else (spec_DrawLineWide.j0 K v ws (f : Int) (t : Int) false b q2)) = some (v, ws', (f : Int), (t : Int)) ∧ ws'.length = ws.length := by
    by_cases hz : (ws.length : Int) > 0
    · rw [if_pos hz]
      obtain ⟨a, p1, p2, p3, _⟩ := pick_ok hb q2 12 (by omega) (by omega) K (by omega)
      obtain ⟨ws', h1, h2⟩ := spoil_line hb v ws (f : Int) (t : Int) (q2 + 1) (by omega) (by omega) (a == 0) (fun _ => by omega) K (by omega)
      exact ⟨ws', Option.bind_eq_some_iff.2 ⟨(a, q2 + 1), p1, h1⟩, h2⟩
    · rw [if_neg hz]
      exact spoil_line hb v ws (f : Int) (t : Int) q2 (by omega) (by omega) false (fun h => by cases h) K (by omega)
  obtain ⟨ws', m1, m2⟩ := main
  refine ⟨v, ws', f, t, ?_, g2, by omega, l2, l3⟩
  unfold spec_DrawLineWide.f
  exact Option.bind_eq_some_iff.2 ⟨(b, 0), e, Option.bind_eq_some_iff.2 ⟨(v, q), g1, Option.bind_eq_some_iff.2 ⟨(sp, q'), f1, Option.bind_eq_some_iff.2 ⟨ws, w1, Option.bind_eq_some_iff.2 ⟨((f : Int), (t : Int), q2), l1, m1⟩⟩⟩⟩⟩
theorem FnLineWide : laws_FnLineWide.Pure := by
  intro l _ _ hl
  obtain ⟨K, hK⟩ : ∃ K : Nat, 1999 ≤ K := ⟨1999, Nat.le_refl _⟩
  refine ⟨K, ?_⟩
  unfold laws_FnLineWide.f
  by_cases h0 : (l.length : Int) > 1048576
  · rw [if_pos h0]
  rw [if_neg h0]
  obtain ⟨b, e, hb⟩ := open_ok hl
  obtain ⟨v, ws, f, t, e1, hv, hw, hf, ht⟩ := draw_line e hb K hK
  have m := lineWide_l0 v ws f t hf ht hv hw (t - f) f 0 K (by omega) (by omega) (fun _ => (sumTo_same ws f).symm) (by omega)
  refine Option.bind_eq_some_iff.2 ⟨(v, ws, (f : Int), (t : Int)), e1, Option.bind_eq_some_iff.2 ⟨lineWideL v ws f t, implLineWide v ws _ _ K (by omega), Option.bind_eq_some_iff.2 ⟨lineWideL v ws f t, specLineWide v ws _ _ (by omega) (by omega) K (by omega), ?_⟩⟩⟩
  rw [if_pos rfl]
  exact m

end Go.Proofs.Ytmjhdgofepdgkaa.Pure
