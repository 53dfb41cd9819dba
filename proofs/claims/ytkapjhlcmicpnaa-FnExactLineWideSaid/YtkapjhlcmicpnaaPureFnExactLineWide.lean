/- The program's LineWide answers as the reference's, for all letters and all widths (at most 2^20 of each: longer lists the law itself lets by) and every two places, and writes into no argument: the law FnExactLineWide answers true; no condition. -/
import Derived.Test.YtkapjhlcmicpnaaPFnExactLineWidex6
namespace Go.Proofs.Ytkapjhlcmicpnaa.Pure
open Go.RowKit Go.Proofs.Ytkapjhlcmicpnaa.PFnExactLineWide Go.Proofs.YtkapjhlcmicpnaaW.PrintWords Go.Proofs.YtkapjhlcmicpnaaW.PrintLast Go.Proofs.YtkapjhlcmicpnaaW.PrintMore
set_option linter.unusedVariables false
set_option linter.unusedSimpArgs false

/-! small lemmas on whole numbers, lists and rounds -/
theorem w64 {x : Int} (h : -9223372036854775808 ≤ x) (h' : x ≤ 9223372036854775807) : wrap64 x = x := by
  unfold wrap64
  omega
theorem in_i64 {x : Int} (h : (Lit.int .i64 x).wf = true) : -9223372036854775808 ≤ x ∧ x ≤ 9223372036854775807 := by
  simpa [Lit.wf, IntKind.min, IntKind.max, IntKind.bits, IntKind.signed] using h
theorem in_u8 {x : Int} (h : (Lit.int .u8 x).wf = true) : 0 ≤ x ∧ x ≤ 255 := by
  simpa [Lit.wf, IntKind.min, IntKind.max, IntKind.bits, IntKind.signed] using h
theorem rd_nat (l : List Int) (i : Nat) : rd l (i : Int) = l.getD i 0 := by
  unfold rd
  rw [Int.toNat_natCast]

/-- the class of a letter for its side -/
def bidi (a : Int) : Int :=
  if (97 ≤ a ∧ a ≤ 122) ∨ (65 ≤ a ∧ a ≤ 90) ∨ (19968 ≤ a ∧ a ≤ 40959) then 1 else if 1488 ≤ a ∧ a ≤ 1514 then 2 else if 1569 ≤ a ∧ a ≤ 1610 then 3
  else if 48 ≤ a ∧ a ≤ 57 then 4 else if 1632 ≤ a ∧ a ≤ 1641 then 7 else if a = 43 ∨ a = 45 then 5 else if 35 ≤ a ∧ a ≤ 37 then 6
  else if a = 44 ∨ a = 46 ∨ a = 47 ∨ a = 58 then 8 else if 768 ≤ a ∧ a ≤ 879 then 9 else if a = 8203 ∨ a = 8205 ∨ a = 173 then 10
  else if a = 9 then 11 else if a = 32 then 12 else if 8234 ≤ a ∧ a ≤ 8238 then a - 8220 else if 8294 ≤ a ∧ a ≤ 8297 then a - 8275 else 13
theorem or_ite {α : Type} {p q : Prop} [Decidable p] [Decidable q] (x y : α) : (if p ∨ q then x else y) = if p then x else if q then x else y := by
  by_cases h1 : p <;> by_cases h2 : q <;> simp [h1, h2]

theorem specIn (a b c : Int) : spec_l1In.f a b c = some (decide (b ≤ a ∧ a ≤ c)) := by
  unfold spec_l1In.f
  by_cases h1 : b ≤ a <;> by_cases h2 : a ≤ c <;> simp [h1, h2]

theorem specMoves (a : Int) (k : Nat) (hk : 12 ≤ k) : spec_l1Moves.f k a = some (if 8234 ≤ a ∧ a ≤ 8238 then a - 8220 else if 8294 ≤ a ∧ a ≤ 8297 then a - 8275 else 13) := by
  obtain ⟨k, rfl⟩ : ∃ m, k = m + 12 := ⟨k - 12, by omega⟩
  unfold spec_l1Moves.f
  by_cases h1 : a = 8234
  · subst h1; simp [spec_l1Moves.l0, rd, wrap64]
  by_cases h2 : a = 8235
  · subst h2; simp [spec_l1Moves.l0, rd, wrap64]
  by_cases h3 : a = 8236
  · subst h3; simp [spec_l1Moves.l0, rd, wrap64]
  by_cases h4 : a = 8237
  · subst h4; simp [spec_l1Moves.l0, rd, wrap64]
  by_cases h5 : a = 8238
  · subst h5; simp [spec_l1Moves.l0, rd, wrap64]
  by_cases h6 : a = 8294
  · subst h6; simp [spec_l1Moves.l0, rd, wrap64]
  by_cases h7 : a = 8295
  · subst h7; simp [spec_l1Moves.l0, rd, wrap64]
  by_cases h8 : a = 8296
  · subst h8; simp [spec_l1Moves.l0, rd, wrap64]
  by_cases h9 : a = 8297
  · subst h9; simp [spec_l1Moves.l0, rd, wrap64]
  rw [if_neg (by omega), if_neg (by omega)]
  simp [spec_l1Moves.l0, rd, wrap64, Ne.symm h1, Ne.symm h2, Ne.symm h3, Ne.symm h4, Ne.symm h5, Ne.symm h6, Ne.symm h7, Ne.symm h8, Ne.symm h9, eq_comm, h1, h2, h3, h4, h5, h6, h7, h8, h9]
/-- the class of a sign -/
def bsign (a : Int) : Int :=
  if a = 43 ∨ a = 45 then 5 else if 35 ≤ a ∧ a ≤ 37 then 6
  else if a = 44 ∨ a = 46 ∨ a = 47 ∨ a = 58 then 8 else if 768 ≤ a ∧ a ≤ 879 then 9 else if a = 8203 ∨ a = 8205 ∨ a = 173 then 10
  else if a = 9 then 11 else if a = 32 then 12 else if 8234 ≤ a ∧ a ≤ 8238 then a - 8220 else if 8294 ≤ a ∧ a ≤ 8297 then a - 8275 else 13
theorem specSigns (a : Int) (k : Nat) (hk : 20 ≤ k) : spec_l1Signs.f k a = some (bsign a) := by
  obtain ⟨k, rfl⟩ : ∃ m, k = m + 20 := ⟨k - 20, by omega⟩
  unfold spec_l1Signs.f bsign
  simp only [spec_l1Signs.j0, spec_l1Signs.j1, spec_l1Signs.j2, specIn, specMoves a _ (show 12 ≤ k + 17 by omega), Option.bind_some, decide_eq_true_eq, beq_iff_eq, if_true, ↓reduceIte]
  simp only [or_ite, apply_ite some]
theorem specBidi (a : Int) (k : Nat) (hk : 30 ≤ k) : spec_RuneBidi.f k a = some (bidi a) := by
  obtain ⟨k, rfl⟩ : ∃ m, k = m + 30 := ⟨k - 30, by omega⟩
  unfold spec_RuneBidi.f bidi
  simp only [spec_RuneBidi.j0, specIn, specSigns a _ (show 20 ≤ k + 29 by omega), Option.bind_some, decide_eq_true_eq, if_true, ↓reduceIte, bsign]
  simp only [or_ite, apply_ite some]

theorem lookR_is {l : List _} {a o b : Int} (h1 : ∀ x ∈ l, hitR x a = true → x.f2 = b) (h2 : (∀ x ∈ l, hitR x a = false) → o = b) : lookR l a o = b := by
  induction l with
  | nil => exact h2 (fun x hx => by cases hx)
  | cons x xs ih =>
    cases hh : hitR x a with
    | true =>
      have : lookR (x :: xs) a o = x.f2 := by simp [lookR, List.find?_cons, hh]
      rw [this]
      exact h1 x List.mem_cons_self hh
    | false =>
      have : lookR (x :: xs) a o = lookR xs a o := by simp [lookR, List.find?_cons, hh]
      rw [this]
      exact ih (fun y hy => h1 y (List.mem_cons_of_mem _ hy)) (fun hn => h2 (fun y hy => by
        rcases List.mem_cons.1 hy with rfl | hy
        · exact hh
        · exact hn y hy))
theorem bidi_none {a : Int} (h1 : ¬ (9 ≤ a ∧ a ≤ 9)) (h2 : ¬ (32 ≤ a ∧ a ≤ 32)) (h3 : ¬ (35 ≤ a ∧ a ≤ 37)) (h4 : ¬ (43 ≤ a ∧ a ≤ 43)) (h5 : ¬ (44 ≤ a ∧ a ≤ 44)) (h6 : ¬ (45 ≤ a ∧ a ≤ 45)) (h7 : ¬ (46 ≤ a ∧ a ≤ 47)) (h8 : ¬ (48 ≤ a ∧ a ≤ 57)) (h9 : ¬ (58 ≤ a ∧ a ≤ 58)) (h10 : ¬ (65 ≤ a ∧ a ≤ 90)) (h11 : ¬ (97 ≤ a ∧ a ≤ 122)) (h12 : ¬ (173 ≤ a ∧ a ≤ 173)) (h13 : ¬ (768 ≤ a ∧ a ≤ 879)) (h14 : ¬ (1488 ≤ a ∧ a ≤ 1514)) (h15 : ¬ (1569 ≤ a ∧ a ≤ 1610)) (h16 : ¬ (1632 ≤ a ∧ a ≤ 1641)) (h17 : ¬ (8203 ≤ a ∧ a ≤ 8203)) (h18 : ¬ (8205 ≤ a ∧ a ≤ 8205)) (h19 : ¬ (8234 ≤ a ∧ a ≤ 8234)) (h20 : ¬ (8235 ≤ a ∧ a ≤ 8235)) (h21 : ¬ (8236 ≤ a ∧ a ≤ 8236)) (h22 : ¬ (8237 ≤ a ∧ a ≤ 8237)) (h23 : ¬ (8238 ≤ a ∧ a ≤ 8238)) (h24 : ¬ (8294 ≤ a ∧ a ≤ 8294)) (h25 : ¬ (8295 ≤ a ∧ a ≤ 8295)) (h26 : ¬ (8296 ≤ a ∧ a ≤ 8296)) (h27 : ¬ (8297 ≤ a ∧ a ≤ 8297)) (h28 : ¬ (19968 ≤ a ∧ a ≤ 40959)) : bidi a = 13 := by
  have e43 : ¬ a = 43 := (fun e => h4 ⟨by omega, by omega⟩)
  have e45 : ¬ a = 45 := (fun e => h6 ⟨by omega, by omega⟩)
  have e44 : ¬ a = 44 := (fun e => h5 ⟨by omega, by omega⟩)
  have e58 : ¬ a = 58 := (fun e => h9 ⟨by omega, by omega⟩)
  have e8203 : ¬ a = 8203 := (fun e => h17 ⟨by omega, by omega⟩)
  have e8205 : ¬ a = 8205 := (fun e => h18 ⟨by omega, by omega⟩)
  have e173 : ¬ a = 173 := (fun e => h12 ⟨by omega, by omega⟩)
  have e9 : ¬ a = 9 := (fun e => h1 ⟨by omega, by omega⟩)
  have e32 : ¬ a = 32 := (fun e => h2 ⟨by omega, by omega⟩)
  have e8234 : ¬ a = 8234 := (fun e => h19 ⟨by omega, by omega⟩)
  have e8235 : ¬ a = 8235 := (fun e => h20 ⟨by omega, by omega⟩)
  have e8236 : ¬ a = 8236 := (fun e => h21 ⟨by omega, by omega⟩)
  have e8237 : ¬ a = 8237 := (fun e => h22 ⟨by omega, by omega⟩)
  have e8238 : ¬ a = 8238 := (fun e => h23 ⟨by omega, by omega⟩)
  have e8294 : ¬ a = 8294 := (fun e => h24 ⟨by omega, by omega⟩)
  have e8295 : ¬ a = 8295 := (fun e => h25 ⟨by omega, by omega⟩)
  have e8296 : ¬ a = 8296 := (fun e => h26 ⟨by omega, by omega⟩)
  have e8297 : ¬ a = 8297 := (fun e => h27 ⟨by omega, by omega⟩)
  have e46 : ¬ a = 46 := (fun e => h7 ⟨by omega, by omega⟩)
  have e47 : ¬ a = 47 := (fun e => h7 ⟨by omega, by omega⟩)
  have g1 : ¬ (8234 ≤ a ∧ a ≤ 8238) := by clear h1 h2 h3 h4 h5 h6 h7 h8 h9 h10 h11 h12 h13 h14 h15 h16 h17 h18 h19 h20 h21 h22 h23 h24 h25 h26 h27 h28; omega
  have g2 : ¬ (8294 ≤ a ∧ a ≤ 8297) := by clear h1 h2 h3 h4 h5 h6 h7 h8 h9 h10 h11 h12 h13 h14 h15 h16 h17 h18 h19 h20 h21 h22 h23 h24 h25 h26 h27 h28 g1; omega
  unfold bidi
  simp only [h1, h2, h3, h4, h5, h6, h7, h8, h9, h10, h11, h12, h13, h14, h15, h16, h17, h18, h19, h20, h21, h22, h23, h24, h25, h26, h27, h28, e43, e45, e44, e58, e8203, e8205, e173, e9, e32, e46, e47, g1, g2, or_self, if_false, ↓reduceIte]
theorem implBidi (a : Int) : impl_RuneBidi.f a = some (bidi a) := by
  unfold impl_RuneBidi.f impl_bidiReaches.f impl_find.f
  simp only [Option.bind_some]
  rw [if_pos ⟨by decide, by decide⟩]
  simp only [Option.bind_some, Option.some.injEq]
  apply lookR_is
  · intro x hx hh
    unfold hitR at hh
    simp only [List.mem_cons, List.not_mem_nil, or_false] at hx
    simp only [Bool.and_eq_true, decide_eq_true_eq] at hh
    obtain ⟨h1, h2⟩ := hh
    unfold bidi
    rcases hx with rfl | rfl | rfl | rfl | rfl | rfl | rfl | rfl | rfl | rfl | rfl | rfl | rfl | rfl | rfl | rfl | rfl | rfl | rfl | rfl | rfl | rfl | rfl | rfl | rfl | rfl | rfl | rfl
    all_goals
      simp only [] at h1 h2 ⊢
      simp (disch := omega) only [if_pos, if_neg]
      try omega
  · intro hn
    simp only [List.mem_cons, List.not_mem_nil, or_false, forall_eq_or_imp, forall_eq, hitR, Bool.and_eq_false_iff, decide_eq_false_iff_not, ← Classical.not_and_iff_not_or_not] at hn
    obtain ⟨h1, h2, h3, h4, h5, h6, h7, h8, h9, h10, h11, h12, h13, h14, h15, h16, h17, h18, h19, h20, h21, h22, h23, h24, h25, h26, h27, h28⟩ := hn
    exact (bidi_none h1 h2 h3 h4 h5 h6 h7 h8 h9 h10 h11 h12 h13 h14 h15 h16 h17 h18 h19 h20 h21 h22 h23 h24 h25 h26 h27 h28).symm

/-! the class of a letter -/

theorem and_ite {α : Type} {p q : Prop} [Decidable p] [Decidable q] (x y : α) : (if p ∧ q then x else y) = if p then (if q then x else y) else y := by
  by_cases h1 : p <;> by_cases h2 : q <;> simp [h1, h2]
theorem dup_ite {α : Type} {p : Prop} [Decidable p] (x y z : α) : (if p then (if p then x else y) else z) = if p then x else z := by
  by_cases h1 : p <;> simp [h1]

/-- how wide a letter is -/
def rwide (a : Int) : Int :=
  if bidi a = 9 ∨ bidi a = 10 ∨ 14 ≤ bidi a ∨ a = 10 ∨ a = 13 then 0
  else if a = 105 ∨ a = 106 ∨ a = 108 ∨ a = 102 ∨ a = 116 then 6
  else if a = 109 ∨ a = 119 then 16
  else if 19968 ≤ a ∧ a ≤ 40959 then 20
  else if bidi a = 2 ∨ bidi a = 3 then 12
  else if bidi a = 11 then 40
  else if bidi a = 12 ∨ bidi a = 8 then 6 else 10
theorem implWide (a : Int) (k : Nat) (hk : 10 ≤ k) : impl_RuneWide.f k a = some (rwide a) := by
  obtain ⟨k, rfl⟩ : ∃ m, k = m + 10 := ⟨k - 10, by omega⟩
  unfold impl_RuneWide.f rwide
  rw [implBidi a]
  generalize bidi a = c
  simp only [impl_RuneWide.j0, impl_RuneWide.j1, impl_RuneWide.j2, impl_RuneWide.j3, impl_RuneWide.j4, Option.bind_some, decide_eq_true_eq, beq_iff_eq, if_true, ↓reduceIte, ge_iff_le, Bool.false_eq_true, if_false]
  simp only [dup_ite, or_ite, and_ite, apply_ite some]

theorem specHas5 (a : Int) (k : Nat) (hk : 8 ≤ k) : spec_l1Has.f k [105, 106, 108, 102, 116] a = some (decide (a = 105 ∨ a = 106 ∨ a = 108 ∨ a = 102 ∨ a = 116)) := by
  obtain ⟨k, rfl⟩ : ∃ m, k = m + 8 := ⟨k - 8, by omega⟩
  unfold spec_l1Has.f
  by_cases h1 : a = 105
  · subst h1; simp [spec_l1Has.l0, rd, wrap64]
  by_cases h2 : a = 106
  · subst h2; simp [spec_l1Has.l0, rd, wrap64]
  by_cases h3 : a = 108
  · subst h3; simp [spec_l1Has.l0, rd, wrap64]
  by_cases h4 : a = 102
  · subst h4; simp [spec_l1Has.l0, rd, wrap64]
  by_cases h5 : a = 116
  · subst h5; simp [spec_l1Has.l0, rd, wrap64]
  have g1 : ¬ (105 = a) := fun h => h1 h.symm
  have g2 : ¬ (106 = a) := fun h => h2 h.symm
  have g3 : ¬ (108 = a) := fun h => h3 h.symm
  have g4 : ¬ (102 = a) := fun h => h4 h.symm
  have g5 : ¬ (116 = a) := fun h => h5 h.symm
  simp [spec_l1Has.l0, rd, wrap64, h1, h2, h3, h4, h5, g1, g2, g3, g4, g5]
theorem specWide (a : Int) (k : Nat) (hk : 40 ≤ k) : spec_RuneWide.f k a = some (rwide a) := by
  obtain ⟨k, rfl⟩ : ∃ m, k = m + 40 := ⟨k - 40, by omega⟩
  unfold spec_RuneWide.f rwide
  rw [specBidi a _ (by omega)]
  generalize bidi a = c
  simp only [spec_RuneWide.j0, spec_RuneWide.j1, spec_RuneWide.j2, specIn, specHas5 a _ (show 8 ≤ k + 39 by omega), Option.bind_some, decide_eq_true_eq, beq_iff_eq, if_true, ↓reduceIte, ge_iff_le]
  simp only [or_ite, apply_ite some]



/-! lists, place by place: what lies ahead of a place, the place, what lies behind -/
theorem getD_mid {α : Type} (pre : List α) (x : α) (suf : List α) (d : α) : (pre ++ x :: suf).getD ((pre.length : Int)).toNat d = x := by
  rw [Int.toNat_natCast, List.getD_eq_getElem?_getD]
  simp
theorem set_mid {α : Type} (pre : List α) (x y : α) (suf : List α) : (pre ++ x :: suf).set ((pre.length : Int)).toNat y = pre ++ y :: suf := by
  rw [Int.toNat_natCast]
  simp
theorem rd_mid (pre : List Int) (x : Int) (suf : List Int) : rd (pre ++ x :: suf) (pre.length : Int) = x := getD_mid pre x suf 0
theorem len_mid {α : Type} (pre : List α) (x : α) (suf : List α) : (pre.length : Int) < ((pre ++ x :: suf).length : Int) := by
  simp only [List.length_append, List.length_cons]
  omega
theorem len_end {α : Type} (pre : List α) : ¬ (pre.length : Int) < ((pre ++ []).length : Int) := by simp
theorem len_snoc {α : Type} (pre : List α) (x : α) : ((pre ++ [x]).length : Int) = (pre.length : Int) + 1 := by simp
theorem app_cons {α : Type} (pre : List α) (x : α) (suf : List α) : pre ++ x :: suf = (pre ++ [x]) ++ suf := by simp
theorem w64_len {n : Int} (h0 : 0 ≤ n) (h : n ≤ 9000000000000000000) : wrap64 (n + 1) = n + 1 := w64 (by omega) (by omega)

/-- letters that may be clustered -/
def okT (l : List Int) : Bool := decide ((l.length : Int) ≤ 80) && l.all isL
theorem implLettersOk (l : List Int) : impl_lettersOk.f l = some (okT l) := by
  unfold impl_lettersOk.f okT
  congr 2
  induction l with
  | nil => rfl
  | cons x r ih => simp only [List.any_cons, List.all_cons, Bool.not_or, Bool.not_not, ih]
theorem specSize (x : Int) : ∃ n, spec_l1Size.f x = some n ∧ (n = 0 ↔ isL x = false) := by
  unfold spec_l1Size.f isL
  simp only [specIn, Option.bind_some, decide_eq_true_eq]
  by_cases h1 : 0 ≤ x ∧ x ≤ 127
  · exact ⟨1, by rw [if_pos h1], by simp; omega⟩
  by_cases h2 : 128 ≤ x ∧ x ≤ 2047
  · exact ⟨2, by rw [if_neg h1, if_pos h2], by simp; omega⟩
  by_cases h3 : 55296 ≤ x ∧ x ≤ 57343
  · exact ⟨0, by rw [if_neg h1, if_neg h2, if_pos h3], by simp; omega⟩
  by_cases h4 : 2048 ≤ x ∧ x ≤ 65535
  · exact ⟨3, by rw [if_neg h1, if_neg h2, if_neg h3, if_pos h4], by simp; omega⟩
  by_cases h5 : 65536 ≤ x ∧ x ≤ 1114111
  · exact ⟨4, by rw [if_neg h1, if_neg h2, if_neg h3, if_neg h4, if_pos h5], by simp; omega⟩
  · exact ⟨0, by rw [if_neg h1, if_neg h2, if_neg h3, if_neg h4, if_neg h5], by simp; omega⟩
theorem specL1Ok_l0 : ∀ (suf pre : List Int) (k : Nat), (pre ++ suf).length ≤ 1048576 → suf.length + 1 ≤ k →
    spec_l1Ok.l0 k (pre ++ suf) (pre.length : Int) = some (decide (((pre ++ suf).length : Int) ≤ 80) && suf.all isL)
  | [], pre, k, hl, hk => by
    obtain ⟨k, rfl⟩ : ∃ m, k = m + 1 := ⟨k - 1, by simp at hk; omega⟩
    simp only [spec_l1Ok.l0]
    rw [if_neg (len_end pre)]
    simp
  | x :: suf, pre, k, hl, hk => by
    obtain ⟨k, rfl⟩ : ∃ m, k = m + 1 := ⟨k - 1, by simp at hk; omega⟩
    have hp : (pre.length : Int) ≤ 1048576 := by simp at hl; omega
    have ih := specL1Ok_l0 suf (pre ++ [x]) k (by simpa using hl) (by simp at hk; omega)
    rw [len_snoc, ← app_cons] at ih
    obtain ⟨n, e, hn⟩ := specSize x
    simp only [spec_l1Ok.l0]
    rw [if_pos (len_mid pre x suf), if_pos (by omega), rd_mid, e, w64_len (by omega) (by omega), ih]
    simp only [Option.bind_some, List.all_cons]
    cases h : isL x with
    | false => rw [if_pos (hn.2 h)]; simp
    | true => rw [if_neg (fun g => by rw [hn.1 g] at h; cases h)]; simp
theorem specL1Ok (l : List Int) (hl : l.length ≤ 1048576) (k : Nat) (hk : l.length + 1 ≤ k) : spec_l1Ok.f k l = some (okT l) := specL1Ok_l0 l [] k (by simpa using hl) hk
theorem okT_len {l : List Int} (h : okT l = true) : l.length ≤ 80 := by
  unfold okT at h
  simp only [Bool.and_eq_true, decide_eq_true_eq] at h
  omega

/-- does a letter not count at the end of a line -/
def emp (x : Int) : Prop := x = 32 ∨ x = 10 ∨ rwide x = 0
instance (x : Int) : Decidable (emp x) := by unfold emp; infer_instance
/-- where what does not count at the end begins -/
def bodyN (l : List Int) (f : Nat) : Nat → Nat
  | 0 => 0
  | t + 1 => if f < t + 1 ∧ emp (l.getD t 0) then bodyN l f t else t + 1
theorem bodyN_le (l : List Int) (f : Nat) : ∀ t, bodyN l f t ≤ t
  | 0 => Nat.le_refl _
  | t + 1 => by
    have := bodyN_le l f t
    unfold bodyN
    split <;> omega
theorem bodyN_ge (l : List Int) (f : Nat) : ∀ t, f ≤ t → f ≤ bodyN l f t
  | 0, h => h
  | t + 1, h => by
    unfold bodyN
    split
    · exact bodyN_ge l f t (by omega)
    · exact h
theorem implBody_l0 (l : List Int) (f : Nat) (hl : l.length ≤ 1048576) : ∀ (t k : Nat), t ≤ l.length → t + 11 ≤ k → impl_body.l0 k l (f : Int) (t : Int) = some (bodyN l f t : Int)
  | 0, k, ht, hk => by
    obtain ⟨k, rfl⟩ : ∃ m, k = m + 1 := ⟨k - 1, by omega⟩
    simp only [impl_body.l0]
    rw [if_neg (by omega)]
    rfl
  | t + 1, k, ht, hk => by
    obtain ⟨k, rfl⟩ : ∃ m, k = m + 1 := ⟨k - 1, by omega⟩
    have ih := implBody_l0 l f hl t k (by omega) (by omega)
    have e : wrap64 (((t + 1 : Nat) : Int) - 1) = (t : Int) := by rw [w64 (by omega) (by omega)]; omega
    simp only [impl_body.l0, bodyN]
    rw [e, ih, rd_nat, implWide _ k (by omega)]
    simp only [Option.bind_some]
    by_cases h : f < t + 1
    · rw [if_pos (by omega), if_pos (by omega), if_pos (by omega)]
      by_cases h1 : l.getD t 0 = 32
      · rw [if_pos h1, if_pos ⟨h, .inl h1⟩]
      · rw [if_neg h1]
        by_cases h2 : l.getD t 0 = 10
        · rw [if_pos h2, if_pos ⟨h, .inr (.inl h2)⟩]
        · rw [if_neg h2]
          by_cases h3 : rwide (l.getD t 0) = 0
          · rw [if_pos h3, if_pos ⟨h, .inr (.inr h3)⟩]
          · rw [if_neg h3, if_neg (fun g => by rcases g.2 with g | g | g <;> contradiction)]
    · rw [if_neg (by omega), if_neg (fun g => h g.1)]
theorem specEmpty (x : Int) (k : Nat) (hk : 40 ≤ k) : spec_l7Empty.f k x = some (decide (emp x)) := by
  unfold spec_l7Empty.f emp
  rw [specWide x k hk]
  simp only [Option.bind_some]
  by_cases h1 : x = 32
  · simp [h1]
  by_cases h2 : x = 10
  · simp [h2]
  by_cases h3 : rwide x = 0 <;> simp [h1, h2, h3]
/-- all widths are ones -/
def okW (ws : List Int) : Bool := ws.all fun x => decide (0 ≤ x) && decide (x ≤ 20000)
theorem okW_mem {ws : List Int} (h : okW ws = true) : ∀ x ∈ ws, 0 ≤ x ∧ x ≤ 20000 := by
  intro x hx
  have := List.all_eq_true.1 h x hx
  simpa using this
theorem any_noW (ws : List Int) : (ws.any fun x => noW x) = !okW ws := by
  unfold okW
  induction ws with
  | nil => rfl
  | cons x r ih =>
    rw [List.any_cons, List.all_cons, ih, Bool.not_and]
    congr 1
    unfold noW
    by_cases h1 : 0 ≤ x
    · rw [decide_eq_true h1, decide_eq_false (show ¬ x < 0 by omega)]
      by_cases h2 : x ≤ 20000
      · rw [decide_eq_true h2, decide_eq_false (show ¬ 20000 < x by omega)]; rfl
      · rw [decide_eq_false h2, decide_eq_true (show 20000 < x by omega)]; rfl
    · rw [decide_eq_false h1, decide_eq_true (show x < 0 by omega)]; rfl
theorem implSum_l0 : ∀ (suf pre : List Int) (a : Int) (k : Nat), (∀ x ∈ suf, 0 ≤ x ∧ x ≤ 20000) → 0 ≤ a → a + 20000 * suf.length ≤ 90000000000 → (pre ++ suf).length ≤ 1048576 → suf.length + 1 ≤ k →
    impl_lineWide.l0 k a (pre ++ suf) ((pre ++ suf).length : Int) (pre.length : Int) = some (a + suf.sum)
  | [], pre, a, k, hs, h0, h1, hl, hk => by
    obtain ⟨k, rfl⟩ : ∃ m, k = m + 1 := ⟨k - 1, by simp at hk; omega⟩
    simp only [impl_lineWide.l0]
    rw [if_neg (len_end pre)]
    simp
  | x :: suf, pre, a, k, hs, h0, h1, hl, hk => by
    obtain ⟨k, rfl⟩ : ∃ m, k = m + 1 := ⟨k - 1, by simp at hk; omega⟩
    have hx := hs x List.mem_cons_self
    have hp : (pre.length : Int) ≤ 1048576 := by simp at hl; omega
    simp only [List.length_cons] at h1
    have ih := implSum_l0 suf (pre ++ [x]) (a + x) k (fun y hy => hs y (List.mem_cons_of_mem _ hy)) (by omega) (by omega) (by simpa using hl) (by simp at hk; omega)
    rw [len_snoc, ← app_cons] at ih
    simp only [impl_lineWide.l0]
    rw [if_pos (len_mid pre x suf), if_pos (by omega), if_pos (len_mid pre x suf), rd_mid, w64 (x := a + x) (by omega) (by omega), w64_len (by omega) (by omega), ih, List.sum_cons]
    congr 1
    omega
theorem specSum_l1 : ∀ (mid pre post : List Int) (a : Int) (k : Nat), (∀ x ∈ mid, 0 ≤ x ∧ x ≤ 20000) → 0 ≤ a → a + 20000 * mid.length ≤ 90000000000 → (pre ++ (mid ++ post)).length ≤ 1048576 → mid.length + 1 ≤ k →
    spec_l7Wide.l1 k (pre ++ (mid ++ post)) (((pre ++ mid).length : Nat) : Int) a (pre.length : Int) = some (a + mid.sum)
  | [], pre, post, a, k, hs, h0, h1, hl, hk => by
    obtain ⟨k, rfl⟩ : ∃ m, k = m + 1 := ⟨k - 1, by simp at hk; omega⟩
    simp only [spec_l7Wide.l1]
    rw [if_neg (by simp)]
    simp
  | x :: mid, pre, post, a, k, hs, h0, h1, hl, hk => by
    obtain ⟨k, rfl⟩ : ∃ m, k = m + 1 := ⟨k - 1, by simp at hk; omega⟩
    have hx := hs x List.mem_cons_self
    have hp : (pre.length : Int) ≤ 1048576 := by simp at hl; omega
    simp only [List.length_cons] at h1
    have ih := specSum_l1 mid (pre ++ [x]) post (a + x) k (fun y hy => hs y (List.mem_cons_of_mem _ hy)) (by omega) (by omega) (by simpa using hl) (by simp at hk; omega)
    rw [len_snoc, ← app_cons, ← app_cons] at ih
    simp only [spec_l7Wide.l1, List.cons_append]
    rw [if_pos (by simp; omega), if_pos (by omega), if_pos (len_mid pre x _), rd_mid, w64 (x := a + x) (by omega) (by omega), w64_len (by omega) (by omega), ih, List.sum_cons]
    congr 1
    omega
/-- how wide the letters are from one up to another one, without what does not count at the end -/
def lineW (l ws : List Int) (f t : Nat) : Int := ((ws.take (bodyN l f t)).drop f).sum
theorem implLineW (l ws : List Int) (f t : Nat) (hl : l.length ≤ 80) (hw : ws.length = l.length) (hs : okW ws = true) (hf : f ≤ t) (ht : t ≤ l.length) (k : Nat) (hk : 100 ≤ k) : impl_lineWide.f k l ws (f : Int) (t : Int) = some (lineW l ws f t) := by
  have h1 := bodyN_le l f t
  have h2 := bodyN_ge l f t hf
  unfold impl_lineWide.f impl_body.f lineW
  rw [implBody_l0 l f (by omega) t k ht (by omega)]
  simp only [Option.bind_some]
  rw [if_pos (by omega), if_pos (by omega), if_pos (by omega), Int.toNat_natCast, Int.toNat_natCast]
  have hlen : ((ws.take (bodyN l f t)).drop f).length ≤ 80 := by simp; omega
  have := implSum_l0 ((ws.take (bodyN l f t)).drop f) [] 0 k (fun x hx => okW_mem hs x (List.mem_of_mem_take (List.mem_of_mem_drop hx))) (by omega) (by omega) (by simp; omega) (by omega)
  rw [Int.zero_add] at this
  exact this
theorem specLineW_j1 (ws : List Int) (f : Nat) (hw : ws.length ≤ 80) (hs : okW ws = true) (b : Nat) (h1 : f ≤ b) (h2 : b ≤ ws.length) (k : Nat) (hk : 90 ≤ k) : spec_l7Wide.j1 k ws (f : Int) (b : Int) = some ((ws.take b).drop f).sum := by
  obtain ⟨k, rfl⟩ : ∃ m, k = m + 1 := ⟨k - 1, by omega⟩
  simp only [spec_l7Wide.j1]
  have hlen : ((ws.take b).drop f).length ≤ 80 := by simp; omega
  have := specSum_l1 ((ws.take b).drop f) (ws.take f) (ws.drop b) 0 k (fun x hx => okW_mem hs x (List.mem_of_mem_take (List.mem_of_mem_drop hx))) (by omega) (by omega) (by simp; omega) (by omega)
  have e1 : ws.take f ++ ((ws.take b).drop f ++ ws.drop b) = ws := by
    rw [← List.append_assoc]
    have : ws.take f ++ (ws.take b).drop f = ws.take b := by
      have := List.take_append_drop f (ws.take b)
      rw [List.take_take, Nat.min_eq_left h1] at this
      exact this
    rw [this, List.take_append_drop]
  have e2 : (ws.take f ++ (ws.take b).drop f).length = b := by simp; omega
  have e3 : (ws.take f).length = f := by simp; omega
  rw [e1, e2, e3, Int.zero_add] at this
  exact this
theorem specLineW_l0 (l ws : List Int) (f : Nat) (hl : l.length ≤ 80) (hw : ws.length = l.length) (hs : okW ws = true) : ∀ (t k : Nat), f ≤ t → t ≤ l.length → t + 150 ≤ k → spec_l7Wide.l0 k l ws (f : Int) (t : Int) = some (lineW l ws f t)
  | 0, k, hf, ht, hk => by
    obtain ⟨k, rfl⟩ : ∃ m, k = m + 1 := ⟨k - 1, by omega⟩
    simp only [spec_l7Wide.l0]
    rw [if_neg (by omega)]
    exact specLineW_j1 ws f (by omega) hs 0 (by omega) (by omega) k (by omega)
  | t + 1, k, hf, ht, hk => by
    obtain ⟨k, rfl⟩ : ∃ m, k = m + 1 := ⟨k - 1, by omega⟩
    have key := specLineW_j1 ws f (by omega) hs (t + 1) hf (by omega) k (by omega)
    have e : wrap64 (((t + 1 : Nat) : Int) - 1) = (t : Int) := by rw [w64 (by omega) (by omega)]; omega
    simp only [spec_l7Wide.l0]
    rw [e, rd_nat, specEmpty _ k (by omega)]
    simp only [Option.bind_some, decide_eq_true_eq]
    unfold lineW
    simp only [bodyN]
    by_cases h : f < t + 1
    · have ih := specLineW_l0 l ws f hl hw hs t k (by omega) (by omega) (by omega)
      rw [if_pos (by omega), if_pos (by omega), if_pos (by omega)]
      by_cases h2 : emp (l.getD t 0)
      · rw [if_pos h2, ih, if_pos ⟨h, h2⟩]
        rfl
      · rw [if_neg h2, key, if_neg (fun g => h2 g.2)]
    · rw [if_neg (by omega), key, if_neg (fun g => h g.1)]
def lineWideL (l ws : List Int) (f t : Int) : Int := if okT l = true ∧ ws.length = l.length ∧ okW ws = true ∧ 0 ≤ f ∧ f ≤ t ∧ t ≤ (l.length : Int) then lineW l ws f.toNat t.toNat else 0
theorem implLineWide (l ws : List Int) (f t : Int) (k : Nat) (hk : 100 ≤ k) : impl_LineWide.f k l ws f t = some (lineWideL l ws f t) := by
  unfold impl_LineWide.f lineWideL impl_isLine.f
  rw [implLettersOk, any_noW]
  simp only [Option.bind_some]
  by_cases h1 : okT l = true
  · rw [if_pos h1]
    by_cases h2 : ws.length = l.length
    · rw [if_pos h2]
      by_cases h3 : okW ws = true
      · rw [if_neg (by simp [h3])]
        by_cases h4 : 0 ≤ f
        · rw [if_pos (by omega)]
          by_cases h5 : f ≤ t
          · rw [if_pos h5]
            simp only [Option.bind_some, decide_eq_true_eq]
            by_cases h6 : t ≤ (l.length : Int)
            · rw [if_pos h6, if_pos ⟨h1, h2, h3, h4, h5, h6⟩]
              obtain ⟨n, rfl⟩ := Int.eq_ofNat_of_zero_le h4
              obtain ⟨m, rfl⟩ := Int.eq_ofNat_of_zero_le (show 0 ≤ t by omega)
              exact implLineW l ws n m (okT_len h1) h2 h3 (by omega) (by omega) k hk
            · rw [if_neg h6, if_neg (fun g => h6 g.2.2.2.2.2)]
          · rw [if_neg h5, if_neg (fun g => h5 g.2.2.2.2.1)]
            simp
        · rw [if_neg (by omega), if_neg (fun g => h4 g.2.2.2.1)]
          simp
      · rw [if_pos (by simp [h3]), if_neg (fun g => h3 g.2.2.1)]
    · rw [if_neg h2, if_neg (fun g => h2 g.2.1)]
  · rw [if_neg h1, if_neg (fun g => h1 g.1)]
theorem specL7Ok_l0 (l : List Int) (hl : l.length ≤ 1048576) : ∀ (suf pre : List Int) (k : Nat), (pre ++ suf).length ≤ 1048576 → suf.length + l.length + 5 ≤ k →
    spec_l7Ok.l0 k l (pre ++ suf) (pre.length : Int) = some (okW suf && (okT l && decide ((pre ++ suf).length = l.length)))
  | [], pre, k, hp, hk => by
    obtain ⟨k, rfl⟩ : ∃ m, k = m + 1 := ⟨k - 1, by omega⟩
    simp only [spec_l7Ok.l0]
    rw [if_neg (len_end pre), specL1Ok l hl k (by simp at hk; omega)]
    simp only [Option.bind_some, okW, List.all_nil, Bool.true_and]
    cases okT l with
    | true =>
      simp only [if_true, Bool.true_and, Option.some.injEq]
      rw [Bool.eq_iff_iff, beq_iff_eq, decide_eq_true_eq]
      omega
    | false => simp
  | x :: suf, pre, k, hp, hk => by
    obtain ⟨k, rfl⟩ : ∃ m, k = m + 1 := ⟨k - 1, by omega⟩
    have hp' : (pre.length : Int) ≤ 1048576 := by simp at hp; omega
    have ih := specL7Ok_l0 l hl suf (pre ++ [x]) k (by simpa using hp) (by simp at hk; omega)
    rw [len_snoc, ← app_cons] at ih
    simp only [spec_l7Ok.l0]
    rw [if_pos (len_mid pre x suf), if_pos (by omega), rd_mid, specIn]
    simp only [Option.bind_some, decide_eq_true_eq]
    rw [w64_len (by omega) (by omega), ih]
    unfold okW
    rw [List.all_cons]
    by_cases h : 0 ≤ x ∧ x ≤ 20000
    · rw [if_pos h, decide_eq_true h.1, decide_eq_true h.2]
      rfl
    · rw [if_neg h]
      have : (decide (0 ≤ x) && decide (x ≤ 20000)) = false := by
        rw [Bool.and_eq_false_iff, decide_eq_false_iff_not, decide_eq_false_iff_not]
        omega
      rw [this]
      rfl
theorem specLineWide (l ws : List Int) (f t : Int) (hl : l.length ≤ 1048576) (hw : ws.length ≤ 1048576) (k : Nat) (hk : l.length + ws.length + 300 ≤ k) : spec_LineWide.f k l ws f t = some (lineWideL l ws f t) := by
  unfold spec_LineWide.f lineWideL spec_l7Ok.f spec_l7Wide.f
  have e := specL7Ok_l0 l hl ws [] k (by simpa using hw) (by omega)
  simp only [List.nil_append, List.length_nil, Int.ofNat_zero] at e
  rw [e]
  simp only [Option.bind_some]
  by_cases h : okW ws = true ∧ okT l = true ∧ ws.length = l.length
  · obtain ⟨h3, h1, h2⟩ := h
    rw [if_pos (by simp [h1, h2, h3]), specIn, specIn]
    simp only [Option.bind_some, decide_eq_true_eq]
    by_cases h4 : 0 ≤ f ∧ f ≤ (l.length : Int)
    · rw [if_pos h4]
      by_cases h5 : f ≤ t ∧ t ≤ (l.length : Int)
      · rw [if_pos h5, if_pos ⟨h1, h2, h3, h4.1, h5.1, h5.2⟩]
        have h80 := okT_len h1
        obtain ⟨n, rfl⟩ := Int.eq_ofNat_of_zero_le h4.1
        obtain ⟨m, rfl⟩ := Int.eq_ofNat_of_zero_le (show 0 ≤ t by omega)
        rw [specLineW_l0 l ws n h80 h2 h3 m k (by omega) (by omega) (by omega)]
        rfl
      · rw [if_neg h5, if_neg (fun g => h5 ⟨g.2.2.2.2.1, g.2.2.2.2.2⟩)]
    · rw [if_neg h4, if_neg (fun g => h4 ⟨g.2.2.2.1, Int.le_trans g.2.2.2.2.1 g.2.2.2.2.2⟩)]
  · rw [if_neg (by simpa using h), if_neg (fun g => h ⟨g.2.2.1, g.1, g.2.1⟩)]

theorem toIntS_l0 : ∀ (suf pre rest : List Int) (k : Nat), rest.length = suf.length → (pre ++ suf).length ≤ 1048576 → suf.length + 1 ≤ k → laws_toIntS.l0 k (pre ++ suf) (pre ++ rest) (pre.length : Int) = some (pre ++ suf)
  | [], pre, rest, k, hr, hl, hk => by
    obtain ⟨k, rfl⟩ : ∃ m, k = m + 1 := ⟨k - 1, by simp at hk; omega⟩
    obtain rfl : rest = [] := List.eq_nil_of_length_eq_zero (by simpa using hr)
    simp only [laws_toIntS.l0]
    rw [if_neg (len_end pre)]
  | x :: suf, pre, [], k, hr, hl, hk => by simp at hr
  | x :: suf, pre, y :: rest, k, hr, hl, hk => by
    obtain ⟨k, rfl⟩ : ∃ m, k = m + 1 := ⟨k - 1, by simp at hk; omega⟩
    simp only [laws_toIntS.l0]
    have hp : (pre.length : Int) ≤ 1048576 := by simp at hl; omega
    rw [if_pos (len_mid pre x suf), if_pos (by omega), if_pos (len_mid pre y rest), rd_mid, set_mid, w64_len (by omega) (by omega), ← len_snoc pre x, app_cons pre x suf, app_cons pre x rest]
    exact toIntS_l0 suf (pre ++ [x]) rest k (by simpa using hr) (by simpa using hl) (by simp at hk; omega)
theorem toIntS_ok (l : List Int) (hl : l.length ≤ 1048576) (k : Nat) (hk : l.length + 1 ≤ k) : laws_toIntS.f k l = some l := by
  unfold laws_toIntS.f
  rw [if_pos (by omega), if_pos (by omega), Int.toNat_natCast]
  exact toIntS_l0 l [] (List.replicate l.length 0) k (by simp) (by simpa using hl) hk

theorem eqIntS_l0 : ∀ (suf pre : List Int) (k : Nat), (pre ++ suf).length ≤ 4000000 → suf.length + 1 ≤ k → laws_eqIntS.l0 k (pre ++ suf) (pre ++ suf) (pre.length : Int) = some true
  | [], pre, k, hl, hk => by
    obtain ⟨k, rfl⟩ : ∃ m, k = m + 1 := ⟨k - 1, by simp at hk; omega⟩
    simp only [laws_eqIntS.l0]
    rw [if_neg (len_end pre)]
  | x :: suf, pre, k, hl, hk => by
    obtain ⟨k, rfl⟩ : ∃ m, k = m + 1 := ⟨k - 1, by simp at hk; omega⟩
    simp only [laws_eqIntS.l0]
    have hp : (pre.length : Int) ≤ 4000000 := by simp at hl; omega
    rw [if_pos (len_mid pre x suf), if_pos (by omega), if_pos (len_mid pre x suf), if_pos trivial, w64_len (by omega) (by omega), ← len_snoc pre x, app_cons pre x suf]
    exact eqIntS_l0 suf (pre ++ [x]) k (by simpa using hl) (by simp at hk; omega)
theorem eqIntS_ok (l : List Int) (hl : l.length ≤ 4000000) (k : Nat) (hk : l.length + 1 ≤ k) : laws_eqIntS.f k l l = some true := by
  unfold laws_eqIntS.f
  rw [if_pos rfl]
  exact eqIntS_l0 l [] k (by simpa using hl) hk

theorem FnExactLineWide : laws_FnExactLineWide.Pure := by
  intro l ws f t _ _ hl0 _ _ hw0 _ _
  unfold laws_FnExactLineWide.f
  by_cases hb : l.length ≤ 1048576
  · by_cases hb2 : ws.length ≤ 1048576
    · refine ⟨l.length + ws.length + 1000, ?_⟩
      rw [if_neg (by omega), if_neg (by omega), toIntS_ok l hb _ (by omega), toIntS_ok ws hb2 _ (by omega)]
      simp only [Option.bind_some]
      rw [specLineWide l ws f t hb hb2 _ (by omega), implLineWide l ws f t _ (by omega)]
      simp only [Option.bind_some, if_true]
      rw [eqIntS_ok l (by omega) _ (by omega), eqIntS_ok ws (by omega) _ (by omega)]
      simp
    · refine ⟨0, ?_⟩
      rw [if_neg (by omega), if_pos (by omega)]
  · refine ⟨0, ?_⟩
    rw [if_pos (by omega)]

end Go.Proofs.Ytkapjhlcmicpnaa.Pure
