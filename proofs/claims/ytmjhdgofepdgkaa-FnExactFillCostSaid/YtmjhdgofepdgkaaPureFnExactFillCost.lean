/- The program's FillCost answers as the reference's, for all letters, spans and ends (at most 2^20 of each: longer lists the law itself lets by) and every width, and writes into no argument: the law FnExactFillCost answers true; no condition. -/
import Derived.Test.YtmjhdgofepdgkaaPFnExactFillCostx21
namespace Go.Proofs.Ytmjhdgofepdgkaa.Pure
open Go.RowKit Go.Proofs.Ytmjhdgofepdgkaa.PFnExactFillCost Go.Proofs.YtmjhdgofepdgkaaW.PrintWords Go.Proofs.YtmjhdgofepdgkaaW.PrintLast Go.Proofs.YtmjhdgofepdgkaaW.PrintMore
set_option linter.unusedVariables false
set_option linter.unusedSimpArgs false

/-! small lemmas on whole numbers, lists and rounds -/
theorem w64 {x : Int} (h : -9223372036854775808 ≤ x) (h' : x ≤ 9223372036854775807) : wrap64 x = x := by
 unfold wrap64
 omega
theorem in_i64 {x : Int} (h : (Lit.int .i64 x).wf = true) : -9223372036854775808 ≤ x ∧ x ≤ 9223372036854775807 := by
 simpa [Lit.wf, IntKind.min, IntKind.max, IntKind.bits, IntKind.signed] using h
theorem in_u8 {x : Int} (h : (Lit.int .u8 x).wf = true) : 0 ≤ x ∧ x ≤ 255 := by
 simpa [Lit.wf, IntKind.min, IntKind.max, IntKind.bits, IntKind.signed] using h
theorem rd_nat (l : List Int) (i : Nat) : rd l (i : Int) = l.getD i 0 := by
 unfold rd
 rw [Int.toNat_natCast]

/-- the class of a letter for its side -/
def bidi (a : Int) : Int :=
 if (97 ≤ a ∧ a ≤ 122) ∨ (65 ≤ a ∧ a ≤ 90) ∨ (19968 ≤ a ∧ a ≤ 40959) then 1 else if 1488 ≤ a ∧ a ≤ 1514 then 2 else if 1569 ≤ a ∧ a ≤ 1610 then 3
 else if 48 ≤ a ∧ a ≤ 57 then 4 else if 1632 ≤ a ∧ a ≤ 1641 then 7 else if a = 43 ∨ a = 45 then 5 else if 35 ≤ a ∧ a ≤ 37 then 6
 else if a = 44 ∨ a = 46 ∨ a = 47 ∨ a = 58 then 8 else if 768 ≤ a ∧ a ≤ 879 then 9 else if a = 8203 ∨ a = 8205 ∨ a = 173 then 10
 else if a = 9 then 11 else if a = 32 then 12 else if 8234 ≤ a ∧ a ≤ 8238 then a - 8220 else if 8294 ≤ a ∧ a ≤ 8297 then a - 8275 else 13
theorem or_ite {α : Type} {p q : Prop} [Decidable p] [Decidable q] (x y : α) : (if p ∨ q then x else y) = if p then x else if q then x else y := by
 by_cases h1 : p <;> by_cases h2 : q <;> simp [h1, h2]

theorem specIn (a b c : Int) : spec_l1In.f a b c = some (decide (b ≤ a ∧ a ≤ c)) := by
 unfold spec_l1In.f
 by_cases h1 : b ≤ a <;> by_cases h2 : a ≤ c <;> simp [h1, h2]

theorem specMoves (a : Int) (k : Nat) (hk : 12 ≤ k) : spec_l1Moves.f k a = some (if 8234 ≤ a ∧ a ≤ 8238 then a - 8220 else if 8294 ≤ a ∧ a ≤ 8297 then a - 8275 else 13) := by
 obtain ⟨k, rfl⟩ : ∃ m, k = m + 12 := ⟨k - 12, by omega⟩
 unfold spec_l1Moves.f
 by_cases h1 : a = 8234
 ·subst h1; simp [spec_l1Moves.l0, rd, wrap64]
 by_cases h2 : a = 8235
 ·subst h2; simp [spec_l1Moves.l0, rd, wrap64]
 by_cases h3 : a = 8236
 ·subst h3; simp [spec_l1Moves.l0, rd, wrap64]
 by_cases h4 : a = 8237
 ·subst h4; simp [spec_l1Moves.l0, rd, wrap64]
 by_cases h5 : a = 8238
 ·subst h5; simp [spec_l1Moves.l0, rd, wrap64]
 by_cases h6 : a = 8294
 ·subst h6; simp [spec_l1Moves.l0, rd, wrap64]
 by_cases h7 : a = 8295
 ·subst h7; simp [spec_l1Moves.l0, rd, wrap64]
 by_cases h8 : a = 8296
 ·subst h8; simp [spec_l1Moves.l0, rd, wrap64]
 by_cases h9 : a = 8297
 ·subst h9; simp [spec_l1Moves.l0, rd, wrap64]
 rw [if_neg (by omega), if_neg (by omega)]
 simp [spec_l1Moves.l0, rd, wrap64, Ne.symm h1, Ne.symm h2, Ne.symm h3, Ne.symm h4, Ne.symm h5, Ne.symm h6, Ne.symm h7, Ne.symm h8, Ne.symm h9, eq_comm, h1, h2, h3, h4, h5, h6, h7, h8, h9]
/-- the class of a sign -/
def bsign (a : Int) : Int :=
 if a = 43 ∨ a = 45 then 5 else if 35 ≤ a ∧ a ≤ 37 then 6
 else if a = 44 ∨ a = 46 ∨ a = 47 ∨ a = 58 then 8 else if 768 ≤ a ∧ a ≤ 879 then 9 else if a = 8203 ∨ a = 8205 ∨ a = 173 then 10
 else if a = 9 then 11 else if a = 32 then 12 else if 8234 ≤ a ∧ a ≤ 8238 then a - 8220 else if 8294 ≤ a ∧ a ≤ 8297 then a - 8275 else 13
theorem specSigns (a : Int) (k : Nat) (hk : 20 ≤ k) : spec_l1Signs.f k a = some (bsign a) := by
 obtain ⟨k, rfl⟩ : ∃ m, k = m + 20 := ⟨k - 20, by omega⟩
 unfold spec_l1Signs.f bsign
 simp only [spec_l1Signs.j0, spec_l1Signs.j1, spec_l1Signs.j2, specIn, specMoves a _ (show 12 ≤ k + 17 by omega), Option.bind_some, decide_eq_true_eq, beq_iff_eq, if_true, ↓reduceIte]
 simp only [or_ite, apply_ite some]
theorem specBidi (a : Int) (k : Nat) (hk : 30 ≤ k) : spec_RuneBidi.f k a = some (bidi a) := by
 obtain ⟨k, rfl⟩ : ∃ m, k = m + 30 := ⟨k - 30, by omega⟩
 unfold spec_RuneBidi.f bidi
 simp only [spec_RuneBidi.j0, specIn, specSigns a _ (show 20 ≤ k + 29 by omega), Option.bind_some, decide_eq_true_eq, if_true, ↓reduceIte, bsign]
 simp only [or_ite, apply_ite some]

theorem lookR_is {l : List _} {a o b : Int} (h1 : ∀ x ∈ l, hitR x a = true → x.f2 = b) (h2 : (∀ x ∈ l, hitR x a = false) → o = b) : lookR l a o = b := by
 induction l with
 | nil => exact h2 (fun x hx => by cases hx)
 | cons x xs ih =>
  cases hh : hitR x a with
  | true =>
   have : lookR (x :: xs) a o = x.f2 := by simp [lookR, List.find?_cons, hh]
   rw [this]
   exact h1 x List.mem_cons_self hh
  | false =>
   have : lookR (x :: xs) a o = lookR xs a o := by simp [lookR, List.find?_cons, hh]
   rw [this]
   exact ih (fun y hy => h1 y (List.mem_cons_of_mem _ hy)) (fun hn => h2 (fun y hy => by
    rcases List.mem_cons.1 hy with rfl | hy
    ·exact hh
    ·exact hn y hy))
theorem bidi_none {a : Int} (h1 : ¬ (9 ≤ a ∧ a ≤ 9)) (h2 : ¬ (32 ≤ a ∧ a ≤ 32)) (h3 : ¬ (35 ≤ a ∧ a ≤ 37)) (h4 : ¬ (43 ≤ a ∧ a ≤ 43)) (h5 : ¬ (44 ≤ a ∧ a ≤ 44)) (h6 : ¬ (45 ≤ a ∧ a ≤ 45)) (h7 : ¬ (46 ≤ a ∧ a ≤ 47)) (h8 : ¬ (48 ≤ a ∧ a ≤ 57)) (h9 : ¬ (58 ≤ a ∧ a ≤ 58)) (h10 : ¬ (65 ≤ a ∧ a ≤ 90)) (h11 : ¬ (97 ≤ a ∧ a ≤ 122)) (h12 : ¬ (173 ≤ a ∧ a ≤ 173)) (h13 : ¬ (768 ≤ a ∧ a ≤ 879)) (h14 : ¬ (1488 ≤ a ∧ a ≤ 1514)) (h15 : ¬ (1569 ≤ a ∧ a ≤ 1610)) (h16 : ¬ (1632 ≤ a ∧ a ≤ 1641)) (h17 : ¬ (8203 ≤ a ∧ a ≤ 8203)) (h18 : ¬ (8205 ≤ a ∧ a ≤ 8205)) (h19 : ¬ (8234 ≤ a ∧ a ≤ 8234)) (h20 : ¬ (8235 ≤ a ∧ a ≤ 8235)) (h21 : ¬ (8236 ≤ a ∧ a ≤ 8236)) (h22 : ¬ (8237 ≤ a ∧ a ≤ 8237)) (h23 : ¬ (8238 ≤ a ∧ a ≤ 8238)) (h24 : ¬ (8294 ≤ a ∧ a ≤ 8294)) (h25 : ¬ (8295 ≤ a ∧ a ≤ 8295)) (h26 : ¬ (8296 ≤ a ∧ a ≤ 8296)) (h27 : ¬ (8297 ≤ a ∧ a ≤ 8297)) (h28 : ¬ (19968 ≤ a ∧ a ≤ 40959)) : bidi a = 13 := by
 have e43 : ¬ a = 43 := (fun e => h4 ⟨by omega, by omega⟩)
 have e45 : ¬ a = 45 := (fun e => h6 ⟨by omega, by omega⟩)
 have e44 : ¬ a = 44 := (fun e => h5 ⟨by omega, by omega⟩)
 have e58 : ¬ a = 58 := (fun e => h9 ⟨by omega, by omega⟩)
 have e8203 : ¬ a = 8203 := (fun e => h17 ⟨by omega, by omega⟩)
 have e8205 : ¬ a = 8205 := (fun e => h18 ⟨by omega, by omega⟩)
 have e173 : ¬ a = 173 := (fun e => h12 ⟨by omega, by omega⟩)
 have e9 : ¬ a = 9 := (fun e => h1 ⟨by omega, by omega⟩)
 have e32 : ¬ a = 32 := (fun e => h2 ⟨by omega, by omega⟩)
 have e8234 : ¬ a = 8234 := (fun e => h19 ⟨by omega, by omega⟩)
 have e8235 : ¬ a = 8235 := (fun e => h20 ⟨by omega, by omega⟩)
 have e8236 : ¬ a = 8236 := (fun e => h21 ⟨by omega, by omega⟩)
 have e8237 : ¬ a = 8237 := (fun e => h22 ⟨by omega, by omega⟩)
 have e8238 : ¬ a = 8238 := (fun e => h23 ⟨by omega, by omega⟩)
 have e8294 : ¬ a = 8294 := (fun e => h24 ⟨by omega, by omega⟩)
 have e8295 : ¬ a = 8295 := (fun e => h25 ⟨by omega, by omega⟩)
 have e8296 : ¬ a = 8296 := (fun e => h26 ⟨by omega, by omega⟩)
 have e8297 : ¬ a = 8297 := (fun e => h27 ⟨by omega, by omega⟩)
 have e46 : ¬ a = 46 := (fun e => h7 ⟨by omega, by omega⟩)
 have e47 : ¬ a = 47 := (fun e => h7 ⟨by omega, by omega⟩)
 have g1 : ¬ (8234 ≤ a ∧ a ≤ 8238) := by clear h1 h2 h3 h4 h5 h6 h7 h8 h9 h10 h11 h12 h13 h14 h15 h16 h17 h18 h19 h20 h21 h22 h23 h24 h25 h26 h27 h28; omega
 have g2 : ¬ (8294 ≤ a ∧ a ≤ 8297) := by clear h1 h2 h3 h4 h5 h6 h7 h8 h9 h10 h11 h12 h13 h14 h15 h16 h17 h18 h19 h20 h21 h22 h23 h24 h25 h26 h27 h28 g1; omega
 unfold bidi
 simp only [h1, h2, h3, h4, h5, h6, h7, h8, h9, h10, h11, h12, h13, h14, h15, h16, h17, h18, h19, h20, h21, h22, h23, h24, h25, h26, h27, h28, e43, e45, e44, e58, e8203, e8205, e173, e9, e32, e46, e47, g1, g2, or_self, if_false, ↓reduceIte]
theorem implBidi (a : Int) : impl_RuneBidi.f a = some (bidi a) := by
 unfold impl_RuneBidi.f impl_bidiReaches.f impl_find.f
 simp only [Option.bind_some]
 rw [if_pos ⟨by decide, by decide⟩]
 simp only [Option.bind_some, Option.some.injEq]
 apply lookR_is
 ·intro x hx hh
  unfold hitR at hh
  simp only [List.mem_cons, List.not_mem_nil, or_false] at hx
  simp only [Bool.and_eq_true, decide_eq_true_eq] at hh
  obtain ⟨h1, h2⟩ := hh
  unfold bidi
  rcases hx with rfl | rfl | rfl | rfl | rfl | rfl | rfl | rfl | rfl | rfl | rfl | rfl | rfl | rfl | rfl | rfl | rfl | rfl | rfl | rfl | rfl | rfl | rfl | rfl | rfl | rfl | rfl | rfl
  all_goals
   simp only [] at h1 h2 ⊢
   simp (disch := omega) only [if_pos, if_neg]
   try omega
 ·intro hn
  simp only [List.mem_cons, List.not_mem_nil, or_false, forall_eq_or_imp, forall_eq, hitR, Bool.and_eq_false_iff, decide_eq_false_iff_not, ← Classical.not_and_iff_not_or_not] at hn
  obtain ⟨h1, h2, h3, h4, h5, h6, h7, h8, h9, h10, h11, h12, h13, h14, h15, h16, h17, h18, h19, h20, h21, h22, h23, h24, h25, h26, h27, h28⟩ := hn
  exact (bidi_none h1 h2 h3 h4 h5 h6 h7 h8 h9 h10 h11 h12 h13 h14 h15 h16 h17 h18 h19 h20 h21 h22 h23 h24 h25 h26 h27 h28).symm

/-! the class of a letter -/

theorem and_ite {α : Type} {p q : Prop} [Decidable p] [Decidable q] (x y : α) : (if p ∧ q then x else y) = if p then (if q then x else y) else y := by
 by_cases h1 : p <;> by_cases h2 : q <;> simp [h1, h2]
theorem dup_ite {α : Type} {p : Prop} [Decidable p] (x y z : α) : (if p then (if p then x else y) else z) = if p then x else z := by
 by_cases h1 : p <;> simp [h1]

/-- how wide a letter is -/
def rwide (a : Int) : Int :=
 if bidi a = 9 ∨ bidi a = 10 ∨ 14 ≤ bidi a ∨ a = 10 ∨ a = 13 then 0
 else if a = 105 ∨ a = 106 ∨ a = 108 ∨ a = 102 ∨ a = 116 then 6
 else if a = 109 ∨ a = 119 then 16
 else if 19968 ≤ a ∧ a ≤ 40959 then 20
 else if bidi a = 2 ∨ bidi a = 3 then 12
 else if bidi a = 11 then 40
 else if bidi a = 12 ∨ bidi a = 8 then 6 else 10
theorem implWide (a : Int) (k : Nat) (hk : 10 ≤ k) : impl_RuneWide.f k a = some (rwide a) := by
 obtain ⟨k, rfl⟩ : ∃ m, k = m + 10 := ⟨k - 10, by omega⟩
 unfold impl_RuneWide.f rwide
 rw [implBidi a]
 generalize bidi a = c
 simp only [impl_RuneWide.j0, impl_RuneWide.j1, impl_RuneWide.j2, impl_RuneWide.j3, impl_RuneWide.j4, Option.bind_some, decide_eq_true_eq, beq_iff_eq, if_true, ↓reduceIte, ge_iff_le, Bool.false_eq_true, if_false]
 simp only [dup_ite, or_ite, and_ite, apply_ite some]

theorem specHas5 (a : Int) (k : Nat) (hk : 8 ≤ k) : spec_l1Has.f k [105, 106, 108, 102, 116] a = some (decide (a = 105 ∨ a = 106 ∨ a = 108 ∨ a = 102 ∨ a = 116)) := by
 obtain ⟨k, rfl⟩ : ∃ m, k = m + 8 := ⟨k - 8, by omega⟩
 unfold spec_l1Has.f
 by_cases h1 : a = 105
 ·subst h1; simp [spec_l1Has.l0, rd, wrap64]
 by_cases h2 : a = 106
 ·subst h2; simp [spec_l1Has.l0, rd, wrap64]
 by_cases h3 : a = 108
 ·subst h3; simp [spec_l1Has.l0, rd, wrap64]
 by_cases h4 : a = 102
 ·subst h4; simp [spec_l1Has.l0, rd, wrap64]
 by_cases h5 : a = 116
 ·subst h5; simp [spec_l1Has.l0, rd, wrap64]
 have g1 : ¬ (105 = a) := fun h => h1 h.symm
 have g2 : ¬ (106 = a) := fun h => h2 h.symm
 have g3 : ¬ (108 = a) := fun h => h3 h.symm
 have g4 : ¬ (102 = a) := fun h => h4 h.symm
 have g5 : ¬ (116 = a) := fun h => h5 h.symm
 simp [spec_l1Has.l0, rd, wrap64, h1, h2, h3, h4, h5, g1, g2, g3, g4, g5]
theorem specWide (a : Int) (k : Nat) (hk : 40 ≤ k) : spec_RuneWide.f k a = some (rwide a) := by
 obtain ⟨k, rfl⟩ : ∃ m, k = m + 40 := ⟨k - 40, by omega⟩
 unfold spec_RuneWide.f rwide
 rw [specBidi a _ (by omega)]
 generalize bidi a = c
 simp only [spec_RuneWide.j0, spec_RuneWide.j1, spec_RuneWide.j2, specIn, specHas5 a _ (show 8 ≤ k + 39 by omega), Option.bind_some, decide_eq_true_eq, beq_iff_eq, if_true, ↓reduceIte, ge_iff_le]
 simp only [or_ite, apply_ite some]



/-! lists, place by place: what lies ahead of a place, the place, what lies behind -/
theorem getD_mid {α : Type} (pre : List α) (x : α) (suf : List α) (d : α) : (pre ++ x :: suf).getD ((pre.length : Int)).toNat d = x := by
 rw [Int.toNat_natCast, List.getD_eq_getElem?_getD]
 simp
theorem set_mid {α : Type} (pre : List α) (x y : α) (suf : List α) : (pre ++ x :: suf).set ((pre.length : Int)).toNat y = pre ++ y :: suf := by
 rw [Int.toNat_natCast]
 simp
theorem rd_mid (pre : List Int) (x : Int) (suf : List Int) : rd (pre ++ x :: suf) (pre.length : Int) = x := getD_mid pre x suf 0
theorem len_mid {α : Type} (pre : List α) (x : α) (suf : List α) : (pre.length : Int) < ((pre ++ x :: suf).length : Int) := by
 simp only [List.length_append, List.length_cons]
 omega
theorem len_end {α : Type} (pre : List α) : ¬ (pre.length : Int) < ((pre ++ []).length : Int) := by simp
theorem len_snoc {α : Type} (pre : List α) (x : α) : ((pre ++ [x]).length : Int) = (pre.length : Int) + 1 := by simp
theorem app_cons {α : Type} (pre : List α) (x : α) (suf : List α) : pre ++ x :: suf = (pre ++ [x]) ++ suf := by simp
theorem w64_len {n : Int} (h0 : 0 ≤ n) (h : n ≤ 9000000000000000000) : wrap64 (n + 1) = n + 1 := w64 (by omega) (by omega)

/-- letters that may be clustered -/
def okT (l : List Int) : Bool := decide ((l.length : Int) ≤ 80) && l.all isL
theorem implLettersOk (l : List Int) : impl_lettersOk.f l = some (okT l) := by
 unfold impl_lettersOk.f okT
 congr 2
 induction l with
 | nil => rfl
 | cons x r ih => simp only [List.any_cons, List.all_cons, Bool.not_or, Bool.not_not, ih]
theorem specSize (x : Int) : ∃ n, spec_l1Size.f x = some n ∧ (n = 0 ↔ isL x = false) := by
 unfold spec_l1Size.f isL
 simp only [specIn, Option.bind_some, decide_eq_true_eq]
 by_cases h1 : 0 ≤ x ∧ x ≤ 127
 ·exact ⟨1, by rw [if_pos h1], by simp; omega⟩
 by_cases h2 : 128 ≤ x ∧ x ≤ 2047
 ·exact ⟨2, by rw [if_neg h1, if_pos h2], by simp; omega⟩
 by_cases h3 : 55296 ≤ x ∧ x ≤ 57343
 ·exact ⟨0, by rw [if_neg h1, if_neg h2, if_pos h3], by simp; omega⟩
 by_cases h4 : 2048 ≤ x ∧ x ≤ 65535
 ·exact ⟨3, by rw [if_neg h1, if_neg h2, if_neg h3, if_pos h4], by simp; omega⟩
 by_cases h5 : 65536 ≤ x ∧ x ≤ 1114111
 ·exact ⟨4, by rw [if_neg h1, if_neg h2, if_neg h3, if_neg h4, if_pos h5], by simp; omega⟩
 ·exact ⟨0, by rw [if_neg h1, if_neg h2, if_neg h3, if_neg h4, if_neg h5], by simp; omega⟩
theorem okT_len {l : List Int} (h : okT l = true) : l.length ≤ 80 := by
 unfold okT at h
 simp only [Bool.and_eq_true, decide_eq_true_eq] at h
 omega

theorem specL1Ok_l0 : ∀ (suf pre : List Int) (k : Nat), (pre ++ suf).length ≤ 1048576 → suf.length + 1 ≤ k →
  spec_l1Ok.l0 k (pre ++ suf) (pre.length : Int) = some (decide (((pre ++ suf).length : Int) ≤ 80) && suf.all isL)
 | [], pre, k, hl, hk => by
  obtain ⟨k, rfl⟩ : ∃ m, k = m + 1 := ⟨k - 1, by simp at hk; omega⟩
  simp only [spec_l1Ok.l0]
  rw [if_neg (len_end pre)]
  simp
 | x :: suf, pre, k, hl, hk => by
  obtain ⟨k, rfl⟩ : ∃ m, k = m + 1 := ⟨k - 1, by simp at hk; omega⟩
  have hp : (pre.length : Int) ≤ 1048576 := by simp at hl; omega
  have ih := specL1Ok_l0 suf (pre ++ [x]) k (by simpa using hl) (by simp at hk; omega)
  rw [len_snoc, ← app_cons] at ih
  obtain ⟨n, e, hn⟩ := specSize x
  simp only [spec_l1Ok.l0]
  rw [if_pos (len_mid pre x suf), if_pos (by omega), rd_mid, e, w64_len (by omega) (by omega), ih]
  simp only [Option.bind_some, List.all_cons]
  cases h : isL x with
  | false => rw [if_pos (hn.2 h)]; simp
  | true => rw [if_neg (fun g => by rw [hn.1 g] at h; cases h)]; simp
theorem specL1Ok (l : List Int) (hl : l.length ≤ 1048576) (k : Nat) (hk : l.length + 1 ≤ k) : spec_l1Ok.f k l = some (okT l) := specL1Ok_l0 l [] k (by simpa using hl) hk

/-- does a letter not count at the end of a line -/
def emp (x : Int) : Prop := x = 32 ∨ x = 10 ∨ rwide x = 0
instance (x : Int) : Decidable (emp x) := by unfold emp; infer_instance
/-- where what does not count at the end begins -/
def bodyN (l : List Int) (f : Nat) : Nat → Nat
 | 0 => 0
 | t + 1 => if f < t + 1 ∧ emp (l.getD t 0) then bodyN l f t else t + 1
theorem bodyN_le (l : List Int) (f : Nat) : ∀ t, bodyN l f t ≤ t
 | 0 => Nat.le_refl _
 | t + 1 => by
  have := bodyN_le l f t
  unfold bodyN
  split <;> omega
theorem bodyN_ge (l : List Int) (f : Nat) : ∀ t, f ≤ t → f ≤ bodyN l f t
 | 0, h => h
 | t + 1, h => by
  unfold bodyN
  split
  ·exact bodyN_ge l f t (by omega)
  ·exact h
theorem implBody_l0 (l : List Int) (f : Nat) (hl : l.length ≤ 1048576) : ∀ (t k : Nat), t ≤ l.length → t + 11 ≤ k → impl_body.l0 k l (f : Int) (t : Int) = some (bodyN l f t : Int)
 | 0, k, ht, hk => by
  obtain ⟨k, rfl⟩ : ∃ m, k = m + 1 := ⟨k - 1, by omega⟩
  simp only [impl_body.l0]
  rw [if_neg (by omega)]
  rfl
 | t + 1, k, ht, hk => by
  obtain ⟨k, rfl⟩ : ∃ m, k = m + 1 := ⟨k - 1, by omega⟩
  have ih := implBody_l0 l f hl t k (by omega) (by omega)
  have e : wrap64 (((t + 1 : Nat) : Int) - 1) = (t : Int) := by rw [w64 (by omega) (by omega)]; omega
  simp only [impl_body.l0, bodyN]
  rw [e, ih, rd_nat, implWide _ k (by omega)]
  simp only [Option.bind_some]
  by_cases h : f < t + 1
  ·rw [if_pos (by omega), if_pos (by omega), if_pos (by omega)]
   by_cases h1 : l.getD t 0 = 32
   ·rw [if_pos h1, if_pos ⟨h, .inl h1⟩]
   ·rw [if_neg h1]
    by_cases h2 : l.getD t 0 = 10
    ·rw [if_pos h2, if_pos ⟨h, .inr (.inl h2)⟩]
    ·rw [if_neg h2]
     by_cases h3 : rwide (l.getD t 0) = 0
     ·rw [if_pos h3, if_pos ⟨h, .inr (.inr h3)⟩]
     ·rw [if_neg h3, if_neg (fun g => by rcases g.2 with g | g | g <;> contradiction)]
  ·rw [if_neg (by omega), if_neg (fun g => h g.1)]
theorem specEmpty (x : Int) (k : Nat) (hk : 40 ≤ k) : spec_l7Empty.f k x = some (decide (emp x)) := by
 unfold spec_l7Empty.f emp
 rw [specWide x k hk]
 simp only [Option.bind_some]
 by_cases h1 : x = 32
 ·simp [h1]
 by_cases h2 : x = 10
 ·simp [h2]
 by_cases h3 : rwide x = 0 <;> simp [h1, h2, h3]

def reg (x : Int) : Prop := 127462 ≤ x ∧ x ≤ 127487
instance (x : Int) : Decidable (reg x) := by unfold reg; infer_instance
/-- the state behind a letter: 0 at the start, 1 behind 13, 2 behind 10, 3 and 4 behind an odd and an even flag letter, 5 behind others -/
def nx (s x : Int) : Int := if x = 13 then 1 else if x = 10 then 2 else if reg x then (if s = 3 then 4 else 3) else 5
def jn (s x : Int) : Bool := if s = 0 then false else if s = 2 ∨ x = 10 then decide (s = 1 ∧ x = 10) else if bidi x = 9 ∨ x = 8205 then true else if reg x then decide (s = 3) else false
def joinGo : Int → List Int → List Bool
 | _, [] => []
 | s, x :: r => jn s x :: joinGo (nx s x) r
def st (l : List Int) : Int := l.foldl nx 0
def tr (l : List Int) : Nat := l.foldl (fun n y => if reg y then n + 1 else 0) 0
def jb (l : List Int) : List Bool := joinGo 0 l
theorem st_snoc (q : List Int) (y : Int) : st (q ++ [y]) = nx (st q) y := by simp [st]
theorem tr_snoc (q : List Int) (y : Int) : tr (q ++ [y]) = if reg y then tr q + 1 else 0 := by simp [tr]
theorem snoc_cases (l : List Int) : l = [] ∨ ∃ q y, l = q ++ [y] := by
 rcases List.eq_nil_or_concat l with h | ⟨q, t, h⟩
 ·exact .inl h
 ·exact .inr ⟨q, t, by simpa using h⟩
theorem st3 : ∀ (n : Nat) (l : List Int), l.length = n → (st l = 3 ↔ tr l % 2 = 1)
 | 0, l, h => by
  obtain rfl := List.eq_nil_of_length_eq_zero h
  simp [st, tr]
 | n + 1, l, h => by
  rcases snoc_cases l with rfl | ⟨q, y, rfl⟩
  ·simp at h
  ·have ih := st3 n q (by simpa using h)
   rw [st_snoc, tr_snoc]
   unfold nx
   by_cases hr : reg y
   ·have h13 : ¬ y = 13 := by unfold reg at hr; omega
    have h10 : ¬ y = 10 := by unfold reg at hr; omega
    rw [if_neg h13, if_neg h10, if_pos hr, if_pos hr]
    by_cases h3 : st q = 3
    ·have := ih.1 h3
     rw [if_pos h3]
     omega
    ·have : ¬ tr q % 2 = 1 := fun h => h3 (ih.2 h)
     rw [if_neg h3]
     omega
   ·rw [if_neg hr, if_neg hr]
    repeat' split
    all_goals simp
theorem joinGo_len : ∀ (l : List Int) (s : Int), (joinGo s l).length = l.length
 | [], _ => rfl
 | x :: r, s => by simp [joinGo, joinGo_len r]
theorem joinGo_append : ∀ (a b : List Int) (s : Int), joinGo s (a ++ b) = joinGo s a ++ joinGo (a.foldl nx s) b
 | [], b, s => rfl
 | x :: a, b, s => by simp [joinGo, joinGo_append a b]
theorem jb_at (pre : List Int) (x : Int) (suf : List Int) : (jb (pre ++ x :: suf)).getD pre.length false = jn (st pre) x := by
 unfold jb
 rw [joinGo_append, List.getD_eq_getElem?_getD, List.getElem?_append_right (by rw [joinGo_len]; exact Nat.le_refl _), joinGo_len]
 simp [joinGo, st]
theorem jb_len (l : List Int) : (jb l).length = l.length := joinGo_len l 0
theorem jb_zero (l : List Int) : (jb l).getD 0 false = false := by
 cases l with
 | nil => rfl
 | cons x r => simp [jb, joinGo, jn]
theorem implJoins (s x : Int) (k : Nat) (hk : 1 ≤ k) : impl_joining_joins.f k s x = some (jn s x) := by
 obtain ⟨k, rfl⟩ : ∃ m, k = m + 1 := ⟨k - 1, by omega⟩
 unfold impl_joining_joins.f jn
 simp only [impl_joining_joins.j0, implBidi, impl_isRegional.f, Option.bind_some, beq_iff_eq]
 generalize bidi x = c
 unfold reg
 by_cases h0 : s = 0
 ·simp [h0]
 by_cases h2 : s = 2
 ·subst h2
  simp
 by_cases h10 : x = 10
 ·subst h10
  by_cases h1 : s = 1 <;> simp [h0, h1, h2]
 by_cases h9 : c = 9
 ·simp [h0, h2, h10, h9]
 by_cases h8 : x = 8205
 ·subst h8
  simp [h0, h2, h9]
 by_cases g1 : 127462 ≤ x <;> by_cases g2 : x ≤ 127487 <;> simp [h0, h2, h10, h9, h8, g1, g2] <;> (try (by_cases h3 : s = 3 <;> simp [h3]))
theorem implNext (s x : Int) (k : Nat) (hk : 1 ≤ k) : impl_joining_next.f k s x = some (nx s x) := by
 obtain ⟨k, rfl⟩ : ∃ m, k = m + 1 := ⟨k - 1, by omega⟩
 unfold impl_joining_next.f nx
 simp only [impl_joining_next.j0, impl_isRegional.f, Option.bind_some]
 by_cases h13 : x = 13
 ·rw [if_pos h13, if_pos h13]
 by_cases h10 : x = 10
 ·rw [if_neg h13, if_neg h13, if_pos h10, if_pos h10]
 rw [if_neg h13, if_neg h13, if_neg h10, if_neg h10]
 unfold reg
 by_cases g1 : 127462 ≤ x <;> by_cases g2 : x ≤ 127487 <;> by_cases h3 : s = 3 <;> simp [g1, g2, h3]
theorem implJoined_l0 : ∀ (suf pre : List Int) (out : List Bool) (s : Int) (k : Nat), (pre ++ suf).length ≤ 1048576 → out.length = pre.length → suf.length + 2 ≤ k →
  impl_joined.l0 k out s (pre ++ suf) ((pre ++ suf).length : Int) (pre.length : Int) = some (out ++ joinGo s suf)
 | [], pre, out, s, k, hl, ho, hk => by
  obtain ⟨k, rfl⟩ : ∃ m, k = m + 1 := ⟨k - 1, by simp at hk; omega⟩
  simp only [impl_joined.l0, joinGo]
  rw [if_neg (len_end pre)]
  simp
 | x :: suf, pre, out, s, k, hl, ho, hk => by
  obtain ⟨k, rfl⟩ : ∃ m, k = m + 1 := ⟨k - 1, by simp at hk; omega⟩
  have hp : (pre.length : Int) ≤ 1048576 := by simp at hl; omega
  have ih := implJoined_l0 suf (pre ++ [x]) (out ++ [jn s x]) (nx s x) k (by simpa using hl) (by simp [ho]) (by simp at hk; omega)
  rw [len_snoc, ← app_cons] at ih
  simp only [impl_joined.l0, joinGo]
  rw [if_pos (len_mid pre x suf), if_pos (by omega), if_pos (len_mid pre x suf), rd_mid, implJoins s x k (by simp at hk; omega), implNext s x k (by simp at hk; omega)]
  simp only [Option.bind_some]
  rw [if_pos (by omega), w64_len (by omega) (by omega), ih]
  simp
theorem implJoined (l : List Int) (hl : l.length ≤ 1048576) (k : Nat) (hk : l.length + 2 ≤ k) : impl_joined.f k l = some (jb l) := implJoined_l0 l [] [] 0 k (by simpa using hl) rfl hk
theorem specFlag (x : Int) : spec_l2Flag.f x = some (decide (reg x)) := by
 unfold spec_l2Flag.f reg
 rw [specIn]
 rfl
theorem par (m : Nat) : (((m : Nat) : Int) % 2 == 1) = decide (m % 2 = 1) := by
 rw [Bool.eq_iff_iff, beq_iff_eq, decide_eq_true_eq]
 omega
theorem specJoins_l0 (x : Int) : ∀ (n : Nat) (pre suf : List Int) (c : Nat) (k : Nat), pre.length = n → n ≤ 1048576 → c + n ≤ 3000000 → n + 1 ≤ k →
  spec_l2Joins.l0 k (pre ++ suf) x (c : Int) ((pre.length : Int) - 1) = some (decide (reg x) && decide ((c + tr pre) % 2 = 1))
 | 0, pre, suf, c, k, hn, hl, hc, hk => by
  obtain ⟨k, rfl⟩ : ∃ m, k = m + 1 := ⟨k - 1, by omega⟩
  obtain rfl := List.eq_nil_of_length_eq_zero hn
  simp only [spec_l2Joins.l0]
  rw [if_neg (by simp), specFlag]
  simp only [Option.bind_some, decide_eq_true_eq]
  by_cases h : reg x
  ·rw [if_pos h, Int.tmod_eq_emod_of_nonneg (by omega)]
   show some ((c : Int) % 2 == 1) = some (decide (reg x) && decide ((c + 0) % 2 = 1))
   rw [decide_eq_true h, Bool.true_and, Nat.add_zero, par]
  ·rw [if_neg h]
   simp [h]
 | n + 1, pre, suf, c, k, hn, hl, hc, hk => by
  obtain ⟨k, rfl⟩ : ∃ m, k = m + 1 := ⟨k - 1, by omega⟩
  rcases snoc_cases pre with rfl | ⟨q, y, rfl⟩
  ·simp at hn
  have hq : q.length = n := by simpa using hn
  have ih := specJoins_l0 x n q (y :: suf) (c + 1) k hq (by omega) (by omega) (by omega)
  have e1 : ((q ++ [y]).length : Int) - 1 = (q.length : Int) := by simp
  have e2 : (q ++ [y]) ++ suf = q ++ y :: suf := by simp
  simp only [spec_l2Joins.l0]
  rw [e1, e2, if_pos (by omega), if_pos (by omega), if_pos (len_mid q y suf), rd_mid, specFlag, specFlag]
  simp only [Option.bind_some, decide_eq_true_eq]
  rw [tr_snoc]
  by_cases hy : reg y
  ·rw [if_pos hy, if_pos hy, w64 (by omega) (by omega), w64 (by omega) (by omega)]
   have e3 : (c : Int) + 1 = ((c + 1 : Nat) : Int) := by omega
   rw [e3, ih, show c + (tr q + 1) = c + 1 + tr q by omega]
  ·rw [if_neg hy, if_neg hy]
   by_cases h : reg x
   ·rw [if_pos h, Int.tmod_eq_emod_of_nonneg (by omega), decide_eq_true h, Bool.true_and, Nat.add_zero, par]
   ·rw [if_neg h]
    simp [h]
theorem specJoins_mid (pre : List Int) (x : Int) (suf : List Int) (hne : pre ≠ []) (hl : pre.length ≤ 1048576) (k : Nat) (hk : pre.length + 60 ≤ k) : spec_l2Joins.f k (pre ++ x :: suf) (pre.length : Int) = some (jn (st pre) x) := by
 obtain ⟨k, rfl⟩ : ∃ m, k = m + 2 := ⟨k - 2, by omega⟩
 rcases snoc_cases pre with rfl | ⟨q, y, rfl⟩
 ·exact absurd rfl hne
 have hq : q.length + 1 ≤ 1048576 := by simpa using hl
 have hk' : q.length + 59 ≤ k := by simp at hk; omega
 have e1 : wrap64 (((q ++ [y]).length : Int) - 1) = (q.length : Int) := by rw [w64 (by simp only [List.length_append, List.length_singleton]; omega) (by simp only [List.length_append, List.length_singleton]; omega)]; simp
 have e2 : rd ((q ++ [y]) ++ x :: suf) (q.length : Int) = y := by rw [List.append_assoc]; exact rd_mid q y _
 have e4 : (q.length : Int) < (((q ++ [y]) ++ x :: suf).length : Int) := by simp; omega
 have e5 : ((q ++ [y]).length : Int) - 1 = (q.length : Int) := by simp
 have hlp := specJoins_l0 x (q ++ [y]).length (q ++ [y]) (x :: suf) 0 k rfl hl (by omega) (by simp; omega)
 rw [e5] at hlp
 have h3 := st3 (q ++ [y]).length (q ++ [y]) rfl
 have hs1 : st (q ++ [y]) = 1 ↔ y = 13 := by
  rw [st_snoc]; unfold nx
  constructor
  ·intro h; by_cases g : y = 13
   ·exact g
   ·rw [if_neg g] at h; repeat' split at h
    all_goals omega
  ·intro h; rw [if_pos h]
 have hs2 : st (q ++ [y]) = 2 ↔ y = 10 := by
  rw [st_snoc]; unfold nx
  constructor
  ·intro h; by_cases g : y = 10
   ·exact g
   ·rw [if_neg g] at h; repeat' split at h
    all_goals omega
  ·intro h; subst h; simp
 have hs0 : ¬ st (q ++ [y]) = 0 := by
  rw [st_snoc]; unfold nx
  repeat' split
  all_goals omega
 unfold spec_l2Joins.f
 rw [if_pos (by omega), if_pos (len_mid _ x suf), rd_mid]
 unfold jn
 rw [if_neg hs0]
 by_cases hx : x = 10
 ·rw [if_pos hx, if_pos (.inr hx)]
  simp only [spec_l2Joins.j0, if_true]
  rw [e1, if_pos (by omega), if_pos e4, e2]
  by_cases hy : y = 13
  ·rw [if_pos hy]
   simp [hs1.2 hy, hx]
  ·rw [if_neg hy]
   have : ¬ st (q ++ [y]) = 1 := fun h => hy (hs1.1 h)
   simp [this]
 rw [if_neg hx, e1, if_pos (by omega), if_pos e4, e2]
 simp only [spec_l2Joins.j0]
 rw [e1, if_pos (show (0 : Int) ≤ (q.length : Int) by omega), if_pos e4, e2]
 by_cases hy : y = 10
 ·subst hy
  rw [if_pos (by simp), if_neg (by omega), if_pos (.inl (hs2.2 rfl))]
  simp [hx]
 have hy2 : ¬ st (q ++ [y]) = 2 := fun h => hy (hs2.1 h)
 rw [if_neg (by simpa using hy), if_neg (by omega), specBidi x _ (by omega)]
 simp only [Option.bind_some, spec_l2Joins.j1, if_true]
 rw [e1]
 by_cases h9 : bidi x = 9
 ·rw [if_pos h9, if_pos (.inl h9)]
 rw [if_neg h9]
 by_cases h8 : x = 8205
 ·rw [if_pos (by simp [h8]), if_pos (.inr h8)]
 have hlp' : spec_l2Joins.l0 k ((q ++ [y]) ++ x :: suf) x 0 (q.length : Int) = some (decide (reg x) && decide (st (q ++ [y]) = 3)) := by
  refine hlp.trans ?_
  congr 2
  rw [decide_eq_decide, h3, Nat.zero_add]
 rw [if_neg (by simpa using h8), if_neg (by omega), hlp']
 by_cases hr : reg x <;> simp [hr]
theorem split_at (l : List Int) (n : Nat) (h : n < l.length) : ∃ x, l = l.take n ++ x :: l.drop (n + 1) ∧ (l.take n).length = n := by
 refine ⟨l[n], ?_, by simp; omega⟩
 rw [← List.drop_eq_getElem_cons h, List.take_append_drop]
theorem specJoins_at (l : List Int) (n : Nat) (h1 : 1 ≤ n) (h2 : n < l.length) (hl : l.length ≤ 1048576) (k : Nat) (hk : l.length + 60 ≤ k) : spec_l2Joins.f k l (n : Int) = some ((jb l).getD n false) := by
 obtain ⟨x, e, hn⟩ := split_at l n h2
 have hne : l.take n ≠ [] := fun h => by rw [h] at hn; simp at hn; omega
 have h3 := specJoins_mid (l.take n) x (l.drop (n + 1)) hne (by omega) k (by omega)
 have h4 := jb_at (l.take n) x (l.drop (n + 1))
 rw [← e, hn] at h3 h4
 rw [h3, h4]

def lsign (a : Int) : Int :=
 if a = 40 ∨ a = 91 ∨ a = 123 then 8 else if a = 41 ∨ a = 93 ∨ a = 125 then 9 else if a = 33 ∨ a = 63 then 10 else if a = 34 then 11
 else if a = 45 then 12 else if a = 44 ∨ a = 46 ∨ a = 58 ∨ a = 59 ∨ a = 47 then 13 else if a = 9 ∨ a = 173 then 14 else 1
/-- the class of a letter for the line -/
def lineC (a : Int) : Int :=
 if a = 10 then 4 else if a = 32 then 3 else if a = 160 then 5 else if a = 8203 then 6 else if bidi a = 9 ∨ a = 8205 ∨ 14 ≤ bidi a then 7
 else if (48 ≤ a ∧ a ≤ 57) ∨ (1632 ≤ a ∧ a ≤ 1641) then 2 else if 19968 ≤ a ∧ a ≤ 40959 then 15 else lsign a
theorem specLSigns (a : Int) (k : Nat) (hk : 20 ≤ k) : spec_l5Signs.f k a = some (lsign a) := by
 obtain ⟨k, rfl⟩ : ∃ m, k = m + 20 := ⟨k - 20, by omega⟩
 unfold spec_l5Signs.f lsign
 simp only [spec_l5Signs.j0, spec_l5Signs.j1, spec_l5Signs.j2, spec_l5Signs.j3, Option.bind_some, beq_iff_eq]
 simp only [dup_ite, or_ite, apply_ite some]
theorem specLine (a : Int) (k : Nat) (hk : 40 ≤ k) : spec_RuneLine.f k a = some (lineC a) := by
 obtain ⟨k, rfl⟩ : ∃ m, k = m + 40 := ⟨k - 40, by omega⟩
 unfold spec_RuneLine.f lineC
 rw [specBidi a _ (by omega)]
 generalize bidi a = c
 simp only [spec_RuneLine.j0, spec_RuneLine.j1, specIn, specLSigns a _ (show 20 ≤ k + 38 by omega), Option.bind_some, decide_eq_true_eq, if_true, ↓reduceIte, ge_iff_le]
 simp only [or_ite, apply_ite some]
theorem line_none {a : Int} (hb : ¬ bidi a = 9) (hb' : ¬ 14 ≤ bidi a) (h1 : ¬ (9 ≤ a ∧ a ≤ 9)) (h2 : ¬ (10 ≤ a ∧ a ≤ 10)) (h3 : ¬ (32 ≤ a ∧ a ≤ 32)) (h4 : ¬ (33 ≤ a ∧ a ≤ 33)) (h5 : ¬ (34 ≤ a ∧ a ≤ 34)) (h6 : ¬ (40 ≤ a ∧ a ≤ 40)) (h7 : ¬ (41 ≤ a ∧ a ≤ 41)) (h8 : ¬ (44 ≤ a ∧ a ≤ 44)) (h9 : ¬ (45 ≤ a ∧ a ≤ 45)) (h10 : ¬ (46 ≤ a ∧ a ≤ 47)) (h11 : ¬ (48 ≤ a ∧ a ≤ 57)) (h12 : ¬ (58 ≤ a ∧ a ≤ 59)) (h13 : ¬ (63 ≤ a ∧ a ≤ 63)) (h14 : ¬ (91 ≤ a ∧ a ≤ 91)) (h15 : ¬ (93 ≤ a ∧ a ≤ 93)) (h16 : ¬ (123 ≤ a ∧ a ≤ 123)) (h17 : ¬ (125 ≤ a ∧ a ≤ 125)) (h18 : ¬ (160 ≤ a ∧ a ≤ 160)) (h19 : ¬ (173 ≤ a ∧ a ≤ 173)) (h20 : ¬ (1632 ≤ a ∧ a ≤ 1641)) (h21 : ¬ (8203 ≤ a ∧ a ≤ 8203)) (h22 : ¬ (8205 ≤ a ∧ a ≤ 8205)) (h23 : ¬ (19968 ≤ a ∧ a ≤ 40959)) : lineC a = 1 := by
 have g : ∀ z : Int, ¬ (z ≤ a ∧ a ≤ z) → ¬ a = z := fun z h e => h ⟨by omega, by omega⟩
 have e46 : ¬ a = 46 := fun e => h10 ⟨by omega, by omega⟩
 have e47 : ¬ a = 47 := fun e => h10 ⟨by omega, by omega⟩
 have e58 : ¬ a = 58 := fun e => h12 ⟨by omega, by omega⟩
 have e59 : ¬ a = 59 := fun e => h12 ⟨by omega, by omega⟩
 unfold lineC lsign
 simp only [hb, hb', g 9 h1, g 10 h2, g 32 h3, g 33 h4, g 34 h5, g 40 h6, g 41 h7, g 44 h8, g 45 h9, e46, e47, h11, e58, e59, g 63 h13, g 91 h14, g 93 h15, g 123 h16, g 125 h17, g 160 h18, g 173 h19, h20, g 8203 h21, g 8205 h22, h23, or_self, if_false, ↓reduceIte]
theorem implLine (a : Int) (k : Nat) (hk : 2 ≤ k) : impl_RuneLine.f k a = some (lineC a) := by
 obtain ⟨k, rfl⟩ : ∃ m, k = m + 2 := ⟨k - 2, by omega⟩
 unfold impl_RuneLine.f
 rw [implBidi a]
 simp only [impl_RuneLine.j0, Option.bind_some, decide_eq_true_eq, ge_iff_le, if_true]
 by_cases hb : bidi a = 9 ∨ 14 ≤ bidi a
 ·have n10 : ¬ a = 10 := by rintro rfl; exact absurd hb (by decide)
  have n32 : ¬ a = 32 := by rintro rfl; exact absurd hb (by decide)
  have n160 : ¬ a = 160 := by rintro rfl; exact absurd hb (by decide)
  have n8203 : ¬ a = 8203 := by rintro rfl; exact absurd hb (by decide)
  have e : lineC a = 7 := by
   unfold lineC
   rw [if_neg n10, if_neg n32, if_neg n160, if_neg n8203, if_pos (by omega)]
  rw [e]
  rcases hb with h | h
  ·rw [if_pos h]
  ·rw [if_neg (by omega), if_pos h]
 have hb9 : ¬ bidi a = 9 := fun h => hb (.inl h)
 have hb14 : ¬ 14 ≤ bidi a := fun h => hb (.inr h)
 rw [if_neg hb9, if_neg hb14]
 unfold impl_lineReaches.f impl_find.f
 simp only [Option.bind_some]
 rw [if_pos ⟨by decide, by decide⟩]
 simp only [Option.bind_some, Option.some.injEq]
 clear hb
 apply lookR_is
 ·intro x hx hh
  unfold hitR at hh
  simp only [List.mem_cons, List.not_mem_nil, or_false] at hx
  simp only [Bool.and_eq_true, decide_eq_true_eq] at hh
  obtain ⟨h1, h2⟩ := hh
  generalize hc : bidi a = c at hb9 hb14
  unfold lineC lsign
  rw [hc]
  clear hc
  rcases hx with rfl | rfl | rfl | rfl | rfl | rfl | rfl | rfl | rfl | rfl | rfl | rfl | rfl | rfl | rfl | rfl | rfl | rfl | rfl | rfl | rfl | rfl | rfl
  all_goals
   simp only [] at h1 h2 ⊢
   simp (disch := omega) only [if_pos, if_neg]
   try omega
 ·intro hn
  simp only [List.mem_cons, List.not_mem_nil, or_false, forall_eq_or_imp, forall_eq, hitR, Bool.and_eq_false_iff, decide_eq_false_iff_not, ← Classical.not_and_iff_not_or_not] at hn
  obtain ⟨h1, h2, h3, h4, h5, h6, h7, h8, h9, h10, h11, h12, h13, h14, h15, h16, h17, h18, h19, h20, h21, h22, h23⟩ := hn
  exact (line_none hb9 hb14 h1 h2 h3 h4 h5 h6 h7 h8 h9 h10 h11 h12 h13 h14 h15 h16 h17 h18 h19 h20 h21 h22 h23).symm

def cnt (p x : Int) : Int := if lineC x = 7 then (if p = 3 ∨ p = 4 ∨ p = 6 then 1 else p) else lineC x
def countsGo : Int → List Int → List Int
 | _, [] => []
 | p, x :: r => cnt p x :: countsGo (cnt p x) r
def countsL (l : List Int) : List Int := countsGo 3 l
theorem countsGo_len : ∀ (l : List Int) (p : Int), (countsGo p l).length = l.length
 | [], _ => rfl
 | x :: r, p => by simp [countsGo, countsGo_len r]
theorem countsL_len (l : List Int) : (countsL l).length = l.length := countsGo_len l 3
theorem implAfter (a : Int) (k : Nat) (hk : 30 ≤ k) : impl_afterSpace.f k a = some (decide (a = 3 ∨ a = 4 ∨ a = 6)) := by
 unfold impl_afterSpace.f
 rw [oneOf_eq a _ (by decide) k hk]
 simp [oneB]
theorem rd_last (out : List Int) (h : out ≠ []) : rd out ((out.length : Int) - 1) = (out.getLast?).getD 3 := by
 rcases snoc_cases out with rfl | ⟨q, y, rfl⟩
 ·exact absurd rfl h
 ·have e : ((q ++ [y]).length : Int) - 1 = (q.length : Int) := by simp
  rw [e, rd_mid q y []]
  simp
theorem implCounts_l0 : ∀ (suf pre out : List Int) (k : Nat), (pre ++ suf).length ≤ 1000000 → out.length = pre.length → suf.length + 60 ≤ k →
  impl_countsOf.l0 k out (pre ++ suf) ((pre ++ suf).length : Int) (pre.length : Int) = some (out ++ countsGo ((out.getLast?).getD 3) suf)
 | [], pre, out, k, hl, ho, hk => by
  obtain ⟨k, rfl⟩ : ∃ m, k = m + 1 := ⟨k - 1, by simp at hk; omega⟩
  simp only [impl_countsOf.l0, countsGo]
  rw [if_neg (len_end pre)]
  simp
 | x :: suf, pre, out, k, hl, ho, hk => by
  obtain ⟨k, rfl⟩ : ∃ m, k = m + 1 := ⟨k - 1, by simp at hk; omega⟩
  have hk' : suf.length + 60 ≤ k := by simp at hk; omega
  have hp : pre.length ≤ 1000000 := by simp at hl; omega
  have ih := fun y => implCounts_l0 suf (pre ++ [x]) (out ++ [y]) k (by simpa using hl) (by simp [ho]) hk'
  simp only [len_snoc, ← app_cons, List.getLast?_concat, Option.getD_some, List.append_assoc, List.singleton_append] at ih
  simp only [impl_countsOf.l0, countsGo]
  rw [if_pos (len_mid pre x suf), if_pos (by omega), if_pos (len_mid pre x suf), rd_mid, implLine x k (by omega), w64_len (by omega) (by omega)]
  simp only [Option.bind_some]
  unfold cnt
  by_cases h7 : lineC x = 7
  ·rw [if_pos h7, if_pos h7]
   by_cases h0 : (pre.length : Int) > 0
   ·have hne : out ≠ [] := by rintro rfl; simp at ho; omega
    rw [if_pos h0, w64 (by omega) (by omega), if_pos (by omega), if_pos (by omega), ← ho, rd_last out hne, implAfter _ k (by omega)]
    simp only [Option.bind_some, decide_eq_true_eq]
    by_cases h3 : (out.getLast?).getD 3 = 3 ∨ (out.getLast?).getD 3 = 4 ∨ (out.getLast?).getD 3 = 6
    ·rw [if_pos h3, if_pos h3, if_pos (by omega), ho, ih]
    ·rw [if_neg h3, if_neg h3, if_pos (by omega), ho, ih]
   ·have hn : out = [] := List.eq_nil_of_length_eq_zero (by omega)
    rw [if_neg h0, if_pos (by omega), ih, hn]
    rfl
  ·rw [if_neg h7, if_neg h7, if_pos (by omega), ih]
theorem implCounts (l : List Int) (hl : l.length ≤ 1000000) (k : Nat) (hk : l.length + 60 ≤ k) : impl_countsOf.f k l = some (countsL l) := implCounts_l0 l [] [] k (by simpa using hl) rfl hk
theorem specCounts_l0 : ∀ (suf pre out : List Int) (k : Nat), (pre ++ suf).length ≤ 1000000 → out.length = pre.length → suf.length + 60 ≤ k →
  spec_l5Counts.l0 k (pre ++ suf) out (pre.length : Int) = some (out ++ countsGo ((out.getLast?).getD 3) suf)
 | [], pre, out, k, hl, ho, hk => by
  obtain ⟨k, rfl⟩ : ∃ m, k = m + 1 := ⟨k - 1, by simp at hk; omega⟩
  simp only [spec_l5Counts.l0, countsGo]
  rw [if_neg (len_end pre)]
  simp
 | x :: suf, pre, out, k, hl, ho, hk => by
  obtain ⟨k, rfl⟩ : ∃ m, k = m + 1 := ⟨k - 1, by simp at hk; omega⟩
  have hk' : suf.length + 60 ≤ k := by simp at hk; omega
  have hp : pre.length ≤ 1000000 := by simp at hl; omega
  have ih := fun y => specCounts_l0 suf (pre ++ [x]) (out ++ [y]) k (by simpa using hl) (by simp [ho]) hk'
  simp only [len_snoc, ← app_cons, List.getLast?_concat, Option.getD_some, List.append_assoc, List.singleton_append] at ih
  simp only [spec_l5Counts.l0, countsGo]
  rw [if_pos (len_mid pre x suf), if_pos (by omega), rd_mid, specLine x k (by omega), w64_len (by omega) (by omega)]
  simp only [Option.bind_some]
  unfold cnt
  by_cases h7 : lineC x = 7
  ·rw [if_pos h7, if_pos h7]
   by_cases h0 : (pre.length : Int) > 0
   ·have hne : out ≠ [] := by rintro rfl; simp at ho; omega
    rw [if_pos h0, w64 (by omega) (by omega), if_pos (by omega), if_pos (by omega), ← ho, rd_last out hne]
    generalize (out.getLast?).getD 3 = p
    by_cases h3 : p = 3
    ·rw [if_pos h3, if_pos (show p = 3 ∨ p = 4 ∨ p = 6 from .inl h3), if_pos (by omega), ho, ih]
    ·rw [if_neg h3]
     by_cases h4 : p = 4
     ·rw [if_pos h4, if_pos (show p = 3 ∨ p = 4 ∨ p = 6 from .inr (.inl h4)), if_pos (by omega), ho, ih]
     ·rw [if_neg h4]
      by_cases h6 : p = 6
      ·rw [if_pos h6, if_pos (show p = 3 ∨ p = 4 ∨ p = 6 from .inr (.inr h6)), if_pos (by omega), ho, ih]
      ·rw [if_neg h6, if_neg (show ¬ (p = 3 ∨ p = 4 ∨ p = 6) by omega), if_pos (by omega), ho, ih]
   ·have hn : out = [] := List.eq_nil_of_length_eq_zero (by omega)
    rw [if_neg h0, if_pos (by omega), ih, hn]
    rfl
  ·rw [if_neg h7, if_neg h7, if_pos (by omega), ih]
theorem specCounts (l : List Int) (hl : l.length ≤ 1000000) (k : Nat) (hk : l.length + 60 ≤ k) : spec_l5Counts.f k l = some (countsL l) := specCounts_l0 l [] [] k (by simpa using hl) rfl hk
/-- the answer between two letters whose pair no rule ahead decides -/
def inner (a b : Int) : Int := if ((a = 1 ∨ a = 2) ∧ (b = 1 ∨ b = 2)) ∨ (b = 2 ∧ (a = 12 ∨ a = 13)) ∨ (a = 13 ∧ b = 1) ∨ ((a = 1 ∨ a = 2) ∧ b = 8) ∨ (a = 9 ∧ (b = 1 ∨ b = 2)) then 0 else 1
def placeL (a b s : Int) : Int :=
 if a = 4 then 2 else if b = 4 ∨ b = 3 ∨ b = 6 then 0 else if s = 6 then 1 else if a = 5 ∨ (b = 5 ∧ ¬ (a = 3 ∨ a = 14 ∨ a = 12)) then 0
 else if ((b = 9 ∨ b = 10 ∨ b = 13) ∧ ¬ a = 3) ∨ ((b = 9 ∨ b = 10) ∧ ¬ s = 0) then 0 else if s = 8 then 0 else if a = 3 then 1 else if a = 11 ∨ b = 11 ∨ b = 14 ∨ b = 12 then 0 else inner a b
theorem specWord (a : Int) : spec_l5Word.f a = some (decide (a = 1 ∨ a = 2)) := by
 unfold spec_l5Word.f
 by_cases h : a = 1
 ·simp [h]
 ·rw [if_neg h]
  congr 1
  rw [Bool.eq_iff_iff]
  simp [h]
theorem specNever (a : Int) : spec_l5Never.f a = some (decide (a = 9 ∨ a = 10 ∨ a = 13)) := by
 unfold spec_l5Never.f
 by_cases h : a = 9
 ·simp [h]
 ·by_cases h2 : a = 10
  ·simp [h2]
  ·rw [if_neg h, if_neg h2]
   congr 1
   rw [Bool.eq_iff_iff]
   simp [h, h2]
theorem specInner (a b : Int) (k : Nat) (hk : 3 ≤ k) : spec_l5Inner.f k a b = some (inner a b) := by
 obtain ⟨k, rfl⟩ : ∃ m, k = m + 3 := ⟨k - 3, by omega⟩
 unfold spec_l5Inner.f inner
 simp only [spec_l5Inner.j0, spec_l5Inner.j1, spec_l5Inner.j2, specWord, Option.bind_some, decide_eq_true_eq, beq_iff_eq, Bool.false_eq_true, if_true, if_false, ↓reduceIte]
 repeat' split
 all_goals first | rfl | (exfalso; omega)
theorem specPlace (a b s : Int) (k : Nat) (hk : 8 ≤ k) : spec_l5Place.f k a b s = some (placeL a b s) := by
 obtain ⟨k, rfl⟩ : ∃ m, k = m + 3 := ⟨k - 3, by omega⟩
 have h2 : ∀ (n : Nat), 5 ≤ n → ∀ t, spec_l5Place.j2 (n + 1) a b s t = some (if t = true then 0 else if s = 8 then 0 else if a = 3 then 1 else if a = 11 ∨ b = 11 ∨ b = 14 ∨ b = 12 then 0 else inner a b) := by
  intro n hn t
  simp only [spec_l5Place.j2, specInner a b n (by omega), Option.bind_some]
  generalize inner a b = c
  repeat' split
  all_goals first | rfl | (exfalso; omega)
 have h1 : ∀ (n : Nat), 6 ≤ n → ∀ t, spec_l5Place.j1 (n + 1) a b s t = some (if t = true then 0 else if ((b = 9 ∨ b = 10 ∨ b = 13) ∧ ¬ a = 3) ∨ ((b = 9 ∨ b = 10) ∧ ¬ s = 0) then 0 else if s = 8 then 0 else if a = 3 then 1 else if a = 11 ∨ b = 11 ∨ b = 14 ∨ b = 12 then 0 else inner a b) := by
  intro n hn t
  obtain ⟨n, rfl⟩ : ∃ m, n = m + 1 := ⟨n - 1, by omega⟩
  simp only [spec_l5Place.j1, h2 n (by omega), specNever, Option.bind_some, decide_eq_true_eq, bne_iff_ne, ne_eq, Bool.false_eq_true, if_true, if_false, ↓reduceIte]
  generalize (if s = 8 then (0 : Int) else if a = 3 then 1 else if a = 11 ∨ b = 11 ∨ b = 14 ∨ b = 12 then 0 else inner a b) = c
  repeat' split
  all_goals first | rfl | (exfalso; omega)
 unfold spec_l5Place.f placeL
 obtain ⟨k, rfl⟩ : ∃ m, k = m + 5 := ⟨k - 5, by omega⟩
 simp only [spec_l5Place.j0, h1 _ (show 6 ≤ k + 6 by omega), bne_iff_ne, ne_eq, beq_iff_eq, Bool.false_eq_true, if_true, if_false, ↓reduceIte]
 generalize (if ((b = 9 ∨ b = 10 ∨ b = 13) ∧ ¬ a = 3) ∨ ((b = 9 ∨ b = 10) ∧ ¬ s = 0) then (0 : Int) else if s = 8 then 0 else if a = 3 then 1 else if a = 11 ∨ b = 11 ∨ b = 14 ∨ b = 12 then 0 else inner a b) = c
 repeat' split
 all_goals first | rfl | (exfalso; omega)
theorem verd_eq (a b s : Int) : verd a b s = placeL a b s := by
 have e : verd a b s = (if prd 0 a b s = true then (2 : Int) else if prd 1 a b s = true then 0 else if prd 2 a b s = true then 1 else if prd 3 a b s = true then 0 else if prd 4 a b s = true then 0 else if prd 5 a b s = true then 0 else if prd 6 a b s = true then 1 else if prd 7 a b s = true then 0 else if prd 8 a b s = true then 0 else if prd 9 a b s = true then 1 else 0) := rfl
 rw [e]
 unfold placeL inner
 simp only [prd, oneB, wordB, List.mem_cons, List.not_mem_nil, or_false, Bool.or_eq_true, Bool.and_eq_true, beq_iff_eq, bne_iff_ne, ne_eq, Bool.not_eq_true', decide_eq_true_eq, decide_eq_false_iff_not, if_true, ↓reduceIte]
 repeat' split
 all_goals first | rfl | (exfalso; omega)
def nxs (s a : Int) : Int := if a = 3 then s else a
def bef (l : List Int) : Int := l.foldl nxs 0
theorem bef_snoc (q : List Int) (y : Int) : bef (q ++ [y]) = nxs (bef q) y := by simp [bef]
theorem specBefore : ∀ (n : Nat) (pre suf : List Int) (k : Nat), pre.length = n → n ≤ 1000000 → n + 1 ≤ k →
  ∃ j, spec_l5Before.f k (pre ++ suf) ((pre.length : Int) - 1) = some j ∧ ((j < 0 ∧ bef pre = 0) ∨ (0 ≤ j ∧ j < (pre.length : Int) ∧ rd (pre ++ suf) j = bef pre))
 | 0, pre, suf, k, hn, hl, hk => by
  obtain ⟨k, rfl⟩ : ∃ m, k = m + 1 := ⟨k - 1, by omega⟩
  obtain rfl := List.eq_nil_of_length_eq_zero hn
  refine ⟨-1, ?_, .inl ⟨by omega, rfl⟩⟩
  unfold spec_l5Before.f
  simp [spec_l5Before.l0]
 | n + 1, pre, suf, k, hn, hl, hk => by
  obtain ⟨k, rfl⟩ : ∃ m, k = m + 1 := ⟨k - 1, by omega⟩
  rcases snoc_cases pre with rfl | ⟨q, y, rfl⟩
  ·simp at hn
  have hq : q.length = n := by simpa using hn
  obtain ⟨j, h1, h2⟩ := specBefore n q (y :: suf) k hq (by omega) (by omega)
  have e1 : ((q ++ [y]).length : Int) - 1 = (q.length : Int) := by simp
  have e2 : (q ++ [y]) ++ suf = q ++ y :: suf := by simp
  have e3 : ((q ++ [y]).length : Int) = (q.length : Int) + 1 := by simp
  unfold spec_l5Before.f at h1 ⊢
  simp only [spec_l5Before.l0]
  rw [e1, e2, e3, if_pos (by omega), if_pos (by omega), if_pos (len_mid q y suf), rd_mid, bef_snoc, w64 (by omega) (by omega), h1]
  unfold nxs
  by_cases hy : y = 3
  ·rw [if_pos hy, if_pos hy]
   refine ⟨j, rfl, ?_⟩
   rcases h2 with h | ⟨g1, g2, g3⟩
   ·exact .inl h
   ·exact .inr ⟨g1, by omega, g3⟩
  ·rw [if_neg hy, if_neg hy]
   exact ⟨_, rfl, .inr ⟨by omega, by omega, rd_mid q y suf⟩⟩
def brk (a b r s : Int) (j : Bool) : Int := if j = true then 0 else if lineC r = 7 ∧ ¬ (a = 3 ∨ a = 4 ∨ a = 6) then 0 else placeL a b s
theorem brk1_eq (a b r s : Int) (j : Bool) (k : Nat) (hk : 30 ≤ k) : brk1 k a b r s j = some (brk a b r s j) := by
 unfold brk1 brk
 rw [implLine r k (by omega), implAfter a k hk, verd_eq]
 simp only [Option.bind_some, decide_eq_true_eq]
 repeat' split
 all_goals first | rfl | (exfalso; simp_all; done)
def brkL (l cs : List Int) : Int → Nat → List Int → List Int
 | _, _, [] => []
 | s, i, a :: rest => (if i + 1 = l.length then 2 else brk a (cs.getD (i + 1) 0) (l.getD (i + 1) 0) (nxs s a) ((jb l).getD (i + 1) false)) :: brkL l cs (nxs s a) (i + 1) rest
theorem brkL_len (l cs : List Int) : ∀ (suf : List Int) (s : Int) (i : Nat), (brkL l cs s i suf).length = suf.length
 | [], _, _ => rfl
 | a :: r, s, i => by simp [brkL, brkL_len l cs r]
theorem brkGo_eq (l cs : List Int) (k : Nat) (hk : 30 ≤ k) : ∀ (suf : List Int) (s : Int) (i : Nat), brkGo k l cs (jb l) s i suf = some (brkL l cs s i suf)
 | [], _, _ => rfl
 | a :: r, s, i => by
  unfold brkGo brkL
  have ih := brkGo_eq l cs k hk r (nxs s a) (i + 1)
  unfold nxs at ih ⊢
  rw [ih, brk1_eq _ _ _ _ _ k hk]
  by_cases h : i + 1 = l.length
  ·rw [if_pos h, if_pos h]
   rfl
  ·rw [if_neg h, if_neg h]
   rfl
def breaksL (l : List Int) : List Int := brkL l (countsL l) 0 0 (countsL l)
theorem breaksL_len (l : List Int) : (breaksL l).length = l.length := by
 unfold breaksL
 rw [brkL_len, countsL_len]
def breaksOfL (l : List Int) : List Int := if okT l = true then breaksL l else []
theorem breaksOfL_len (l : List Int) : (breaksOfL l).length ≤ 80 := by
 unfold breaksOfL
 by_cases h : okT l = true
 ·rw [if_pos h, breaksL_len]
  exact okT_len h
 ·rw [if_neg h]
  simp
theorem specBreaks_l0 (l cs : List Int) (hl : l.length ≤ 80) (hc : cs.length = l.length) : ∀ (suf pre out : List Int) (k : Nat), pre ++ suf = cs → out.length = pre.length → 2 * suf.length + 300 ≤ k →
  spec_l5Breaks.l0 k l cs out (pre.length : Int) = some (out ++ brkL l cs (bef pre) pre.length suf)
 | [], pre, out, k, he, ho, hk => by
  obtain ⟨k, rfl⟩ : ∃ m, k = m + 1 := ⟨k - 1, by simp at hk; omega⟩
  subst he
  simp only [spec_l5Breaks.l0, brkL]
  rw [if_neg (len_end pre)]
  simp
 | a :: suf, pre, out, k, he, ho, hk => by
  obtain ⟨k, rfl⟩ : ∃ m, k = m + 1 := ⟨k - 1, by simp at hk; omega⟩
  simp only [spec_l5Breaks.l0, brkL]
  obtain ⟨k, rfl⟩ : ∃ m, k = m + 1 := ⟨k - 1, by simp at hk; omega⟩
  have hk' : 2 * suf.length + 300 ≤ k := by simp at hk; omega
  have hlen : cs.length = pre.length + (suf.length + 1) := by rw [← he]; simp
  have ihA := fun y => specBreaks_l0 l cs hl hc suf (pre ++ [a]) (out ++ [y]) (k + 1) (by rw [← app_cons]; exact he) (by simp [ho]) (by omega)
  have ihB := fun y => specBreaks_l0 l cs hl hc suf (pre ++ [a]) (out ++ [y]) k (by rw [← app_cons]; exact he) (by simp [ho]) hk'
  simp only [len_snoc] at ihA ihB
  simp only [List.length_append, List.length_singleton, bef_snoc, List.append_assoc, List.singleton_append] at ihA ihB
  have ra : rd cs (pre.length : Int) = a := by rw [← he]; exact rd_mid pre a suf
  have e1 : wrap64 ((pre.length : Int) + 1) = (pre.length : Int) + 1 := w64_len (by omega) (by omega)
  rw [if_pos (by omega), e1]
  by_cases hend : (pre.length : Int) + 1 = (cs.length : Int)
  ·rw [if_pos hend, if_pos (by omega), ihA, if_pos (by omega)]
  rw [if_neg hend, if_neg (show ¬ pre.length + 1 = l.length by omega)]
  have n1 : (pre.length : Int) + 1 = ((pre.length + 1 : Nat) : Int) := by omega
  have hj := specJoins_at l (pre.length + 1) (by omega) (by omega) (by omega) (k + 1) (by omega)
  rw [← n1] at hj
  rw [hj]
  simp only [Option.bind_some]
  have rl : rd l ((pre.length : Int) + 1) = l.getD (pre.length + 1) 0 := by rw [n1, rd_nat]
  have rc : rd cs ((pre.length : Int) + 1) = cs.getD (pre.length + 1) 0 := by rw [n1, rd_nat]
  have hT : spec_l5Breaks.j1 (k + 1) l cs out (pre.length : Int) true = some (out ++ 0 :: brkL l cs (nxs (bef pre) a) (pre.length + 1) suf) := by
   simp only [spec_l5Breaks.j1, if_true]
   rw [if_pos (by omega), e1, ihB]
  have hF : spec_l5Breaks.j1 (k + 1) l cs out (pre.length : Int) false = some (out ++ placeL a (cs.getD (pre.length + 1) 0) (nxs (bef pre) a) :: brkL l cs (nxs (bef pre) a) (pre.length + 1) suf) := by
   obtain ⟨j, h1, h2⟩ := specBefore (pre.length + 1) (pre ++ [a]) suf k (by simp) (by omega) (by omega)
   have e5 : ((pre ++ [a]).length : Int) - 1 = (pre.length : Int) := by simp
   rw [e5, ← app_cons, he] at h1
   rw [← app_cons, he, bef_snoc, len_snoc] at h2
   simp only [spec_l5Breaks.j1, Bool.false_eq_true, if_false]
   rw [h1]
   simp only [Option.bind_some]
   rw [e1, ra, rc]
   rcases h2 with ⟨g1, g2⟩ | ⟨g1, g2, g3⟩
   ·rw [if_neg (by omega), if_pos (by omega), if_pos (by omega), if_pos (by omega), if_pos (by omega), specPlace _ _ _ k (by omega)]
    simp only [Option.bind_some]
    rw [if_pos (by omega), ihB, g2]
   ·rw [if_pos (by omega), if_pos (by omega), if_pos (by omega), if_pos (by omega), if_pos (by omega), if_pos (by omega), if_pos (by omega), g3, specPlace _ _ _ k (by omega)]
    simp only [Option.bind_some]
    rw [if_pos (by omega), ihB]
  unfold brk
  by_cases hjb : (jb l).getD (pre.length + 1) false = true
  ·rw [if_pos hjb, if_pos hjb, hT]
  rw [if_neg hjb, if_neg hjb, if_pos (by omega), if_pos (by omega), rl, specLine _ _ (by omega)]
  simp only [Option.bind_some]
  by_cases h7 : lineC (l.getD (pre.length + 1) 0) = 7
  ·rw [if_pos h7, if_pos (by omega), ra]
   by_cases c3 : a = 3
   ·rw [if_pos c3, if_neg (by omega), hF]
   rw [if_neg c3]
   by_cases c4 : a = 4
   ·rw [if_pos c4, if_neg (by omega), hF]
   rw [if_neg c4]
   by_cases c6 : a = 6
   ·rw [show (a != 6) = false by simp [c6], if_neg (by omega), hF]
   ·rw [show (a != 6) = true by simp [c6], if_pos (by omega), hT]
  ·rw [if_neg h7, if_neg (by omega), hF]

/-- the place where the cluster over a place begins -/
def dn (bs : List Bool) : Nat → Nat
 | 0 => 0
 | n + 1 => if bs.getD (n + 1) false = true then dn bs n else n + 1
theorem rdB_nat (l : List Bool) (i : Nat) : rdOf false l (i : Int) = l.getD i false := by
 unfold rdOf
 rw [Int.toNat_natCast]
theorem dn_le (bs : List Bool) : ∀ n, dn bs n ≤ n
 | 0 => Nat.le_refl _
 | n + 1 => by
  unfold dn
  have := dn_le bs n
  split <;> omega
def clusterAt (l : List Int) (i : Int) : Int := if okT l = true ∧ 0 ≤ i ∧ i < (l.length : Int) then (dn (jb l) i.toNat : Int) else -1

theorem specAt_l0 (l : List Int) (hl : l.length ≤ 1048576) : ∀ (n k : Nat), n < l.length → n + l.length + 61 ≤ k → spec_l2At.l0 k l (n : Int) = some (dn (jb l) n : Int)
 | 0, k, hn, hk => by
  obtain ⟨k, rfl⟩ : ∃ m, k = m + 1 := ⟨k - 1, by omega⟩
  simp only [spec_l2At.l0]
  rw [if_neg (by omega)]
  simp [dn]
 | n + 1, k, hn, hk => by
  obtain ⟨k, rfl⟩ : ∃ m, k = m + 1 := ⟨k - 1, by omega⟩
  have ih := specAt_l0 l hl n k (by omega) (by omega)
  have e : wrap64 (((n + 1 : Nat) : Int) - 1) = (n : Int) := by rw [w64 (by omega) (by omega)]; omega
  simp only [spec_l2At.l0, dn]
  rw [if_pos (by omega), specJoins_at l (n + 1) (by omega) hn hl k (by omega), e, ih]
  simp only [Option.bind_some]
  by_cases h : (jb l).getD (n + 1) false = true
  ·rw [if_pos h, if_pos h]
  ·rw [if_neg h, if_neg h]

theorem rdB_mid (pre : List Bool) (x : Bool) (suf : List Bool) : rdOf false (pre ++ x :: suf) (pre.length : Int) = x := getD_mid pre x suf false

def wgo : Int → List Int → List Bool → Int
 | m, x :: xs, b :: bs => if b = true then wgo (mx m (rwide x)) xs bs else m
 | m, _, _ => m
theorem implCW_l0 : ∀ (suf pre : List Int) (bs bp : List Bool) (m : Int) (k : Nat), bs.length = suf.length → bp.length = pre.length → (pre ++ suf).length ≤ 1048576 → suf.length + 12 ≤ k →
  impl_clusterWide.l0 k (pre ++ suf) (bp ++ bs) m (pre.length : Int) = some (wgo m suf bs)
 | [], pre, bs, bp, m, k, hb, hp, hl, hk => by
  obtain ⟨k, rfl⟩ : ∃ j, k = j + 1 := ⟨k - 1, by omega⟩
  simp only [impl_clusterWide.l0]
  rw [if_neg (len_end pre)]
  cases bs <;> rfl
 | x :: suf, pre, [], bp, m, k, hb, hp, hl, hk => by simp at hb
 | x :: suf, pre, b :: bs, bp, m, k, hb, hp, hl, hk => by
  obtain ⟨k, rfl⟩ : ∃ j, k = j + 1 := ⟨k - 1, by omega⟩
  have hpl : (pre.length : Int) ≤ 1048576 := by simp at hl; omega
  have ih := implCW_l0 suf (pre ++ [x]) bs (bp ++ [b]) (mx m (rwide x)) k (by simpa using hb) (by simp [hp]) (by simpa using hl) (by simp at hk; omega)
  rw [len_snoc, ← app_cons, ← app_cons] at ih
  have e : rdOf false (bp ++ b :: bs) (pre.length : Int) = b := by rw [← hp]; exact rdB_mid bp b bs
  have e2 : (pre.length : Int) < ((bp ++ b :: bs).length : Int) := by rw [← hp]; exact len_mid bp b bs
  simp only [impl_clusterWide.l0, wgo]
  rw [if_pos (len_mid pre x suf), if_pos (by omega), if_pos e2, e, rd_mid, implWide x k (by simp at hk; omega), w64_len (by omega) (by omega)]
  simp only [Option.bind_some]
  rw [ih]
  by_cases h : b = true
  ·rw [if_pos h, if_pos h]
  ·rw [if_neg h, if_neg h]
theorem implCW (pre : List Int) (x : Int) (suf : List Int) (hl : (pre ++ x :: suf).length ≤ 1048576) (k : Nat) (hk : (pre ++ x :: suf).length + 20 ≤ k) :
  impl_clusterWide.f k (pre ++ x :: suf) (pre.length : Int) = some (wgo (rwide x) suf (joinGo (st (pre ++ [x])) suf)) := by
 have hpl : (pre.length : Int) ≤ 1048576 := by simp at hl; omega
 unfold impl_clusterWide.f
 rw [implJoined _ hl k (by omega)]
 simp only [Option.bind_some]
 rw [if_pos (by omega), if_pos (len_mid pre x suf), rd_mid, implWide x k (by omega), w64_len (by omega) (by omega)]
 simp only [Option.bind_some]
 have e : jb (pre ++ x :: suf) = joinGo 0 (pre ++ [x]) ++ joinGo (st (pre ++ [x])) suf := by
  rw [app_cons]
  exact joinGo_append _ _ 0
 rw [e, app_cons, ← len_snoc pre x]
 exact implCW_l0 suf (pre ++ [x]) _ _ (rwide x) k (joinGo_len _ _) (joinGo_len _ _) (by simpa using hl) (by simp at hk; omega)
def wideAt (l : List Int) (n : Nat) : Int := wgo (rwide (l.getD n 0)) (l.drop (n + 1)) (joinGo (st (l.take (n + 1))) (l.drop (n + 1)))
theorem wideAt_mid (pre : List Int) (x : Int) (suf : List Int) : wideAt (pre ++ x :: suf) pre.length = wgo (rwide x) suf (joinGo (st (pre ++ [x])) suf) := by
 unfold wideAt
 have e1 : (pre ++ x :: suf).getD pre.length 0 = x := by simp [List.getD_eq_getElem?_getD]
 have e2 : (pre ++ x :: suf).drop (pre.length + 1) = suf := by rw [app_cons]; exact List.drop_left' (by simp)
 have e3 : (pre ++ x :: suf).take (pre.length + 1) = pre ++ [x] := by rw [app_cons]; exact List.take_left' (by simp)
 rw [e1, e2, e3]
theorem implCWide (l : List Int) (n : Nat) (hn : n < l.length) (hl : l.length ≤ 1048576) (k : Nat) (hk : l.length + 20 ≤ k) : impl_clusterWide.f k l (n : Int) = some (wideAt l n) := by
 obtain ⟨x, e, hx⟩ := split_at l n hn
 have h1 := implCW (l.take n) x (l.drop (n + 1)) (by rw [← e]; exact hl) k (by rw [← e]; exact hk)
 have h2 := wideAt_mid (l.take n) x (l.drop (n + 1))
 rw [← e, hx] at h1 h2
 rw [h1, h2]

theorem specCW_l0 : ∀ (suf pre : List Int) (m : Int) (k : Nat), pre ≠ [] → (pre ++ suf).length ≤ 80 → 2 * suf.length + 300 ≤ k →
  spec_l2Wide.l0 k (pre ++ suf) m (pre.length : Int) = some (wgo m suf (joinGo (st pre) suf))
 | [], pre, m, k, hne, hl, hk => by
  obtain ⟨k, rfl⟩ : ∃ j, k = j + 2 := ⟨k - 2, by omega⟩
  simp only [spec_l2Wide.l0, spec_l2Wide.j1, joinGo]
  rw [if_neg (len_end pre), if_neg (by simp)]
  rfl
 | x :: suf, pre, m, k, hne, hl, hk => by
  obtain ⟨k, rfl⟩ : ∃ j, k = j + 2 := ⟨k - 2, by omega⟩
  have hpl : (pre.length : Int) ≤ 80 := by simp at hl; omega
  have ih := specCW_l0 suf (pre ++ [x]) (mx m (rwide x)) k (by simp) (by simpa using hl) (by simp at hk; omega)
  rw [len_snoc, ← app_cons, st_snoc] at ih
  simp only [spec_l2Wide.l0, joinGo, wgo]
  rw [if_pos (len_mid pre x suf), specJoins_mid pre x suf hne (by omega) _ (by simp at hk; omega)]
  simp only [Option.bind_some, spec_l2Wide.j1]
  by_cases hj : jn (st pre) x = true
  ·rw [if_pos hj, if_pos hj, if_pos (by omega), if_pos (len_mid pre x suf), rd_mid, specWide x k (by omega), w64_len (by omega) (by omega)]
   simp only [Option.bind_some]
   rw [← ih]
   unfold mx
   by_cases h : rwide x > m
   ·rw [if_pos h, if_pos (by omega)]
   ·rw [if_neg h, if_neg (by omega)]
  ·rw [if_neg hj, if_neg hj]
theorem specCWide (l : List Int) (n : Nat) (hn : n < l.length) (hl : l.length ≤ 80) (k : Nat) (hk : 600 ≤ k) : spec_l2Wide.f k l (n : Int) = some (wideAt l n) := by
 obtain ⟨x, e, hx⟩ := split_at l n hn
 have h2 := wideAt_mid (l.take n) x (l.drop (n + 1))
 have h1 : spec_l2Wide.f k (l.take n ++ x :: l.drop (n + 1)) ((l.take n).length : Int) = some (wgo (rwide x) (l.drop (n + 1)) (joinGo (st (l.take n ++ [x])) (l.drop (n + 1)))) := by
  unfold spec_l2Wide.f
  rw [if_pos (by omega), if_pos (len_mid _ x _), rd_mid, specWide x k (by omega), w64_len (by omega) (by omega)]
  simp only [Option.bind_some]
  rw [app_cons, ← len_snoc _ x]
  have hdl : (l.drop (n + 1)).length ≤ 80 := by simp; omega
  exact specCW_l0 (l.drop (n + 1)) (l.take n ++ [x]) (rwide x) k (by simp) (by rw [← app_cons, ← e]; exact hl) (by omega)
 rw [← e, hx] at h1 h2
 rw [h1, h2]

def fls : Nat → List Bool → List Int
 | _, [] => []
 | i, b :: bs => if b = true then fls (i + 1) bs else (i : Int) :: fls (i + 1) bs
theorem fls_len : ∀ (bs : List Bool) (i : Nat), (fls i bs).length ≤ bs.length
 | [], _ => Nat.le_refl _
 | b :: bs, i => by
  have := fls_len bs (i + 1)
  unfold fls
  split <;> simp <;> omega
theorem implStarts_l0 : ∀ (suf pre : List Bool) (out : List Int) (k : Nat), (pre ++ suf).length ≤ 1048576 → out.length ≤ pre.length → suf.length + 1 ≤ k →
  impl_starts.l0 k out (pre ++ suf) ((pre ++ suf).length : Int) (pre.length : Int) = some (out ++ fls pre.length suf)
 | [], pre, out, k, hl, ho, hk => by
  obtain ⟨k, rfl⟩ : ∃ m, k = m + 1 := ⟨k - 1, by simp at hk; omega⟩
  simp only [impl_starts.l0, fls]
  rw [if_neg (len_end pre)]
  simp
 | b :: suf, pre, out, k, hl, ho, hk => by
  obtain ⟨k, rfl⟩ : ∃ m, k = m + 1 := ⟨k - 1, by simp at hk; omega⟩
  have hp : (pre.length : Int) ≤ 1048576 := by simp at hl; omega
  have ih := fun out ho => implStarts_l0 suf (pre ++ [b]) out k (by simpa using hl) ho (by simp at hk; omega)
  simp only [len_snoc, ← app_cons] at ih
  have e : (pre ++ [b]).length = pre.length + 1 := by simp
  rw [e] at ih
  simp only [impl_starts.l0]
  rw [if_pos (len_mid pre b suf), if_pos (by omega), if_pos (len_mid pre b suf), rdB_mid, w64_len (by omega) (by omega)]
  cases b with
  | true =>
   rw [if_pos rfl, ih out (by omega)]
   simp [fls]
  | false =>
   rw [if_neg (by simp), if_pos (by omega), ih (out ++ [(pre.length : Int)]) (by simp; omega)]
   simp [fls]

abbrev Sp := S40
abbrev zSp : Sp := z40
theorem rdSp_mid (pre : List Sp) (x : Sp) (suf : List Sp) : zk (pre ++ x :: suf) (pre.length : Int) = x := getD_mid pre x suf _

/-- a span is ok by itself -/
def spOk (s : Sp) (c : Int) : Bool := decide (0 ≤ s.f0) && decide (s.f0 < c) && decide (s.f0 < s.f1) && decide (s.f1 ≤ c) && decide (1 ≤ s.f2) && decide (s.f2 ≤ 40) && decide (0 ≤ s.f3) && decide (s.f3 ≤ 9)
theorem implSpanOk (s : Sp) (c : Int) : impl_spanOk.f s.f0 s.f1 s.f2 s.f3 c = some (spOk s c) := by
 unfold impl_spanOk.f spOk
 by_cases h1 : 0 ≤ s.f0
 ·by_cases h2 : s.f0 < c
  ·by_cases h3 : s.f0 < s.f1
   ·by_cases h4 : s.f1 ≤ c
    ·by_cases h5 : 1 ≤ s.f2
     ·by_cases h6 : s.f2 ≤ 40
      ·by_cases h7 : 0 ≤ s.f3 <;> simp [h1, h2, h3, h4, h5, h6, h7]
      ·simp [h1, h2, h3, h4, h5, h6]
     ·simp [h1, h2, h3, h4, h5]
    ·simp [h1, h2, h3, h4]
   ·simp [h1, h2, h3]
  ·simp [h1, h2]
 ·simp [h1]
def chainOk (c : Int) : Int → List Sp → Bool
 | _, [] => true
 | p, s :: r => spOk s c && decide (p ≤ s.f0) && chainOk c s.f1 r
def spansOk (l : List Sp) (c : Int) : Bool := chainOk c 0 l && (decide (0 ≤ c) && decide (c ≤ 80) && decide (l.length ≤ 12))
def Ahead (pre : List Sp) (p : Int) : Prop := (pre = [] ∧ p = 0) ∨ ∃ q s, pre = q ++ [s] ∧ p = s.f1
theorem ahead_step (pre : List Sp) (s : Sp) : Ahead (pre ++ [s]) s.f1 := .inr ⟨pre, s, rfl, rfl⟩
theorem implSpansOk_l0 (c : Int) : ∀ (suf pre : List Sp) (p : Int) (k : Nat), Ahead pre p → (pre ++ suf).length ≤ 1048576 → suf.length + 1 ≤ k →
  impl_SpansOk.l0 k (pre ++ suf) c (pre ++ suf) ((pre ++ suf).length : Int) (pre.length : Int) = some (chainOk c p suf && (decide (0 ≤ c) && decide (c ≤ 80) && decide ((pre ++ suf).length ≤ 12)))
 | [], pre, p, k, ha, hl, hk => by
  obtain ⟨k, rfl⟩ : ∃ m, k = m + 1 := ⟨k - 1, by simp at hk; omega⟩
  simp only [impl_SpansOk.l0, chainOk]
  rw [if_neg (len_end pre)]
  by_cases h1 : 0 ≤ c <;> by_cases h2 : c ≤ 80 <;> simp [h1, h2]
  omega
 | s :: suf, pre, p, k, ha, hl, hk => by
  obtain ⟨k, rfl⟩ : ∃ m, k = m + 1 := ⟨k - 1, by simp at hk; omega⟩
  have hp : (pre.length : Int) ≤ 1048576 := by simp at hl; omega
  simp only [impl_SpansOk.l0, chainOk]
  rw [if_pos (len_mid pre s suf), if_pos (by omega), if_pos (len_mid pre s suf), rdSp_mid, implSpanOk]
  simp only [Option.bind_some]
  cases hs : spOk s c with
  | false => simp
  | true =>
   have ih := implSpansOk_l0 c suf (pre ++ [s]) s.f1 k (ahead_step pre s) (by simpa using hl) (by simp at hk; omega)
   rw [len_snoc, ← app_cons] at ih
   simp only [if_true, Bool.true_and]
   rw [w64_len (by omega) (by omega)]
   rcases ha with ⟨rfl, rfl⟩ | ⟨q, t, rfl, rfl⟩
   ·have h0 : (0 : Int) ≤ s.f0 := by
     simp only [spOk, Bool.and_eq_true, decide_eq_true_eq] at hs
     omega
    rw [if_neg (by simp), ih]
    simp [h0]
   ·have e1 : (((q ++ [t]).length : Int)) - 1 = (q.length : Int) := by simp
    rw [if_pos (by simp), e1, w64 (by omega) (by simp at hp; omega), if_pos (by omega), if_pos (by simp; omega)]
    have e2 : zk ((q ++ [t]) ++ s :: suf) (q.length : Int) = t := by
     rw [List.append_assoc]
     exact rdSp_mid q t _
    rw [e2, ih]
    by_cases hg : t.f1 > s.f0
    ·rw [if_pos hg]
     have : ¬ t.f1 ≤ s.f0 := by omega
     simp [this]
    ·rw [if_neg hg]
     have : t.f1 ≤ s.f0 := by omega
     simp [this]
theorem implSpansOk (l : List Sp) (c : Int) (hl : l.length ≤ 1048576) (k : Nat) (hk : l.length + 1 ≤ k) : impl_SpansOk.f k l c = some (spansOk l c) := by
 unfold impl_SpansOk.f spansOk
 exact implSpansOk_l0 c l [] 0 k (.inl ⟨rfl, rfl⟩) (by simpa using hl) hk

def lookL (i : Int) : List Sp → Int × Int
 | [] => (10, 0)
 | s :: r => if s.f0 ≤ i ∧ i < s.f1 then (s.f2, s.f3) else lookL i r
theorem chainOk_mem (c : Int) : ∀ (l : List Sp) (p : Int), chainOk c p l = true → ∀ s ∈ l, spOk s c = true
 | [], _, _, s, hs => by cases hs
 | x :: r, p, h, s, hs => by
  simp only [chainOk, Bool.and_eq_true] at h
  rcases List.mem_cons.1 hs with rfl | hs
  ·exact h.1.1
  ·exact chainOk_mem c r x.f1 h.2 s hs
theorem specL6At_l0 (i : Int) : ∀ (suf pre : List Sp) (k : Nat), (∀ s ∈ suf, spOk s 80 = true) → (pre ++ suf).length ≤ 1048576 → suf.length + 1 ≤ k →
  spec_l6At.l0 k (pre ++ suf) i (pre.length : Int) = some (lookL i suf)
 | [], pre, k, _, hl, hk => by
  obtain ⟨k, rfl⟩ : ∃ m, k = m + 1 := ⟨k - 1, by simp at hk; omega⟩
  simp only [spec_l6At.l0]
  rw [if_neg (len_end pre)]
  rfl
 | s :: suf, pre, k, hs, hl, hk => by
  obtain ⟨k, rfl⟩ : ∃ m, k = m + 1 := ⟨k - 1, by simp at hk; omega⟩
  have hp : (pre.length : Int) ≤ 1048576 := by simp at hl; omega
  have ih := specL6At_l0 i suf (pre ++ [s]) k (fun t ht => hs t (List.mem_cons_of_mem _ ht)) (by simpa using hl) (by simp at hk; omega)
  rw [len_snoc, ← app_cons] at ih
  have h0 := hs s List.mem_cons_self
  simp only [spOk, Bool.and_eq_true, decide_eq_true_eq] at h0
  simp only [spec_l6At.l0, lookL]
  rw [if_pos (len_mid pre s suf), if_pos (by omega), rdSp_mid, w64_len (by omega) (by omega), ih, w64 (by omega) (by omega), specIn]
  simp only [Option.bind_some]
  by_cases h1 : s.f0 ≤ i ∧ i < s.f1
  ·rw [if_pos h1, if_pos (by simp only [decide_eq_true_eq]; omega)]
  ·rw [if_neg h1, if_neg (by simp only [decide_eq_true_eq]; omega)]

theorem implLookAt_l0 (i : Int) : ∀ (suf pre : List Sp) (k : Nat), (pre ++ suf).length ≤ 1048576 → suf.length + 1 ≤ k →
  impl_lookAt.l0 k i (pre ++ suf) ((pre ++ suf).length : Int) (pre.length : Int) = some (lookL i suf)
 | [], pre, k, hl, hk => by
  obtain ⟨k, rfl⟩ : ∃ m, k = m + 1 := ⟨k - 1, by simp at hk; omega⟩
  simp only [impl_lookAt.l0]
  rw [if_neg (len_end pre)]
  rfl
 | s :: suf, pre, k, hl, hk => by
  obtain ⟨k, rfl⟩ : ∃ m, k = m + 1 := ⟨k - 1, by simp at hk; omega⟩
  have hp : (pre.length : Int) ≤ 1048576 := by simp at hl; omega
  have ih := implLookAt_l0 i suf (pre ++ [s]) k (by simpa using hl) (by simp at hk; omega)
  rw [len_snoc, ← app_cons] at ih
  simp only [impl_lookAt.l0, lookL]
  rw [if_pos (len_mid pre s suf), if_pos (by omega), if_pos (len_mid pre s suf), rdSp_mid, w64_len (by omega) (by omega), ih]
  by_cases h1 : s.f0 ≤ i <;> by_cases h2 : i < s.f1 <;> simp [h1, h2]

theorem specL6Ok (s : Sp) (c : Int) (h0 : 0 ≤ c) (h1 : c ≤ 80) (hs : -9223372036854775808 ≤ s.f0) (hs' : s.f0 ≤ 9223372036854775807) : spec_l6Ok.f s.f0 s.f1 s.f2 s.f3 c = some (spOk s c) := by
 unfold spec_l6Ok.f spOk
 rw [w64 (x := c - 1) (by omega) (by omega)]
 simp only [specIn, Option.bind_some, decide_eq_true_eq]
 by_cases g0 : 0 ≤ s.f0 ∧ s.f0 ≤ c - 1
 ·rw [if_pos g0, w64 (x := s.f0 + 1) (by omega) (by omega)]
  have a1 : (0 : Int) ≤ s.f0 := g0.1
  have a2 : s.f0 < c := by omega
  by_cases g1 : s.f0 + 1 ≤ s.f1 ∧ s.f1 ≤ c
  ·rw [if_pos g1]
   have a3 : s.f0 < s.f1 := by omega
   have a4 : s.f1 ≤ c := g1.2
   by_cases g2 : 1 ≤ s.f2 ∧ s.f2 ≤ 40
   ·rw [if_pos g2]
    simp [a1, a2, a3, a4, g2.1, g2.2]
   ·rw [if_neg g2]
    have : (decide (1 ≤ s.f2) && decide (s.f2 ≤ 40)) = false := by
     simp only [Bool.and_eq_false_iff, decide_eq_false_iff_not]
     omega
    simp only [Option.some.injEq, Bool.and_assoc]
    rw [show ∀ z, (decide (1 ≤ s.f2) && (decide (s.f2 ≤ 40) && z)) = ((decide (1 ≤ s.f2) && decide (s.f2 ≤ 40)) && z) from fun z => (Bool.and_assoc _ _ _).symm, this]
    simp
  ·rw [if_neg g1]
   have : (decide (s.f0 < s.f1) && decide (s.f1 ≤ c)) = false := by
    simp only [Bool.and_eq_false_iff, decide_eq_false_iff_not]
    omega
   simp only [Option.some.injEq, Bool.and_assoc]
   rw [show ∀ z, (decide (s.f0 < s.f1) && (decide (s.f1 ≤ c) && z)) = ((decide (s.f0 < s.f1) && decide (s.f1 ≤ c)) && z) from fun z => (Bool.and_assoc _ _ _).symm, this]
   simp
 ·rw [if_neg g0]
  have : (decide (0 ≤ s.f0) && decide (s.f0 < c)) = false := by
   simp only [Bool.and_eq_false_iff, decide_eq_false_iff_not]
   omega
  simp only [Option.some.injEq, Bool.and_assoc]
  rw [show ∀ z, (decide (0 ≤ s.f0) && (decide (s.f0 < c) && z)) = ((decide (0 ≤ s.f0) && decide (s.f0 < c)) && z) from fun z => (Bool.and_assoc _ _ _).symm, this]
  simp
def InI (x : Int) : Prop := -9223372036854775808 ≤ x ∧ x ≤ 9223372036854775807
theorem specSpansOk_l0 (c : Int) (hc : 0 ≤ c ∧ c ≤ 80) : ∀ (suf pre : List Sp) (p : Int) (k : Nat), Ahead pre p → (∀ s ∈ suf, InI s.f0) → (pre ++ suf).length ≤ 1048576 → suf.length + 1 ≤ k →
  spec_SpansOk.l0 k (pre ++ suf) c (pre.length : Int) = some (chainOk c p suf && decide ((pre ++ suf).length ≤ 12))
 | [], pre, p, k, ha, hw, hl, hk => by
  obtain ⟨k, rfl⟩ : ∃ m, k = m + 1 := ⟨k - 1, by simp at hk; omega⟩
  simp only [spec_SpansOk.l0, chainOk]
  rw [if_neg (len_end pre)]
  simp only [specIn, Option.bind_some, hc, and_self, decide_true, Bool.true_and]
  by_cases h2 : (pre ++ []).length ≤ 12
  ·rw [if_pos (by omega)]; simp only [h2, decide_true]
  ·rw [if_neg (by omega)]; simp only [h2, decide_false]
 | s :: suf, pre, p, k, ha, hw, hl, hk => by
  obtain ⟨k, rfl⟩ : ∃ m, k = m + 1 := ⟨k - 1, by simp at hk; omega⟩
  have hp : (pre.length : Int) ≤ 1048576 := by simp at hl; omega
  simp only [spec_SpansOk.l0, chainOk]
  obtain ⟨hs0, hs1⟩ := hw s List.mem_cons_self
  rw [if_pos (len_mid pre s suf), if_pos (by omega), rdSp_mid, specL6Ok s c hc.1 hc.2 hs0 hs1]
  simp only [Option.bind_some]
  cases hs : spOk s c with
  | false => simp
  | true =>
   have ih := specSpansOk_l0 c hc suf (pre ++ [s]) s.f1 k (ahead_step pre s) (fun t ht => hw t (List.mem_cons_of_mem _ ht)) (by simpa using hl) (by simp at hk; omega)
   rw [len_snoc, ← app_cons] at ih
   simp only [if_true, Bool.true_and]
   rw [w64_len (by omega) (by omega)]
   rcases ha with ⟨rfl, rfl⟩ | ⟨q, t, rfl, rfl⟩
   ·have h0 : (0 : Int) ≤ s.f0 := by
     simp only [spOk, Bool.and_eq_true, decide_eq_true_eq] at hs
     omega
    rw [if_neg (by simp), ih]
    simp [h0]
   ·have e1 : (((q ++ [t]).length : Int)) - 1 = (q.length : Int) := by simp
    rw [if_pos (by simp), e1, w64 (by omega) (by simp at hp; omega), if_pos (by omega), if_pos (by simp; omega)]
    have e2 : zk ((q ++ [t]) ++ s :: suf) (q.length : Int) = t := by
     rw [List.append_assoc]
     exact rdSp_mid q t _
    rw [e2, ih]
    by_cases hg : t.f1 > s.f0
    ·rw [if_pos hg]
     have : ¬ t.f1 ≤ s.f0 := by omega
     simp [this]
    ·rw [if_neg hg]
     have : t.f1 ≤ s.f0 := by omega
     simp [this]
theorem specL6_some (a b c d e : Int) : ∃ r, spec_l6Ok.f a b c d e = some r := by
 unfold spec_l6Ok.f
 simp only [specIn, Option.bind_some]
 repeat' split
 all_goals exact ⟨_, rfl⟩
theorem specSpansOk_bad (c : Int) (hc : ¬ (0 ≤ c ∧ c ≤ 80)) : ∀ (suf pre : List Sp) (k : Nat), (pre ++ suf).length ≤ 1048576 → suf.length + 1 ≤ k → spec_SpansOk.l0 k (pre ++ suf) c (pre.length : Int) = some false
 | [], pre, k, hl, hk => by
  obtain ⟨k, rfl⟩ : ∃ m, k = m + 1 := ⟨k - 1, by simp at hk; omega⟩
  simp only [spec_SpansOk.l0]
  rw [if_neg (len_end pre)]
  simp only [specIn, Option.bind_some, hc, decide_false, ite_self]
 | s :: suf, pre, k, hl, hk => by
  obtain ⟨k, rfl⟩ : ∃ m, k = m + 1 := ⟨k - 1, by simp at hk; omega⟩
  have hp : (pre.length : Int) ≤ 1048576 := by simp at hl; omega
  have ih := specSpansOk_bad c hc suf (pre ++ [s]) k (by simpa using hl) (by simp at hk; omega)
  rw [len_snoc, ← app_cons] at ih
  simp only [spec_SpansOk.l0]
  rw [if_pos (len_mid pre s suf), if_pos (by omega), rdSp_mid]
  obtain ⟨r, hr⟩ := specL6_some s.f0 s.f1 s.f2 s.f3 c
  rw [hr]
  simp only [Option.bind_some]
  rw [w64_len (by omega) (by omega), ih]
  cases r with
  | false => simp
  | true =>
   simp only [if_true]
   by_cases h0 : (pre.length : Int) > 0
   ·rw [if_pos h0, w64 (by omega) (by omega), if_pos (by omega), if_pos (by simp; omega)]
    simp
   ·rw [if_neg h0]
theorem specSpansOk (l : List Sp) (c : Int) (hw : ∀ s ∈ l, InI s.f0) (hl : l.length ≤ 1048576) (k : Nat) (hk : l.length + 1 ≤ k) : spec_SpansOk.f k l c = some (spansOk l c) := by
 unfold spec_SpansOk.f spansOk
 by_cases hc : 0 ≤ c ∧ c ≤ 80
 ·have h := specSpansOk_l0 c hc l [] 0 k (.inl ⟨rfl, rfl⟩) hw (by simpa using hl) hk
  rw [show ((0 : Int)) = (([] : List Sp).length : Int) from rfl]
  rw [show l = [] ++ l from rfl, h]
  simp [hc.1, hc.2]
 ·have h := specSpansOk_bad c hc l [] k (by simpa using hl) hk
  have e : (decide (0 ≤ c) && decide (c ≤ 80)) = false := by
   simp only [Bool.and_eq_false_iff, decide_eq_false_iff_not]
   omega
  rw [e]
  simpa using h

theorem spansOk_mem {l : List Sp} {c : Int} (h : spansOk l c = true) : ∀ s ∈ l, spOk s c = true := by
 unfold spansOk at h
 rw [Bool.and_eq_true] at h
 exact chainOk_mem c l 0 h.1

def cellW (l : List Int) (sp : List Sp) (i : Nat) : Int := if (jb l).getD i false = true then 0 else wrap64 (wideAt l i * (lookL (i : Int) sp).1)
def rowW (l : List Int) (sp : List Sp) : Nat → Nat → List Int
 | 0, _ => []
 | n + 1, i => cellW l sp i :: rowW l sp n (i + 1)
theorem rowW_len (l : List Int) (sp : List Sp) : ∀ n i, (rowW l sp n i).length = n
 | 0, _ => rfl
 | n + 1, i => by simp [rowW, rowW_len l sp n]
theorem dn_start (bs : List Bool) (i : Nat) (h0 : bs.getD 0 false = false) : dn bs i = i ↔ ¬ bs.getD i false = true := by
 cases i with
 | zero => rw [h0]; simp [dn]
 | succ m =>
  have := dn_le bs m
  unfold dn
  by_cases h : bs.getD (m + 1) false = true
  ·rw [if_pos h]
   constructor
   ·intro g; omega
   ·intro g; exact absurd h g
  ·rw [if_neg h]
   exact ⟨fun _ => h, fun _ => rfl⟩
theorem spOk_mono (s : Sp) (c : Int) (hc : c ≤ 80) (h : spOk s c = true) : spOk s 80 = true := by
 simp only [spOk, Bool.and_eq_true, decide_eq_true_eq] at h ⊢
 omega
theorem specWides_l0 (l : List Int) (sp : List Sp) (hl : l.length ≤ 80) (hsl : sp.length ≤ 12) (hs : ∀ s ∈ sp, spOk s 80 = true) : ∀ (n i : Nat) (out : List Int) (k : Nat), i + n = l.length → out.length = i → n + 1000 ≤ k →
  spec_l6Wides.l0 k l sp out (i : Int) = some (out ++ rowW l sp n i)
 | 0, i, out, k, hi, ho, hk => by
  obtain ⟨k, rfl⟩ : ∃ m, k = m + 1 := ⟨k - 1, by omega⟩
  simp only [spec_l6Wides.l0, rowW]
  rw [if_neg (by omega)]
  simp
 | n + 1, i, out, k, hi, ho, hk => by
  obtain ⟨k, rfl⟩ : ∃ m, k = m + 1 := ⟨k - 1, by omega⟩
  have ih := fun v => specWides_l0 l sp hl hsl hs n (i + 1) (out ++ [v]) k (by omega) (by simp [ho]) (by omega)
  have ec : (((i + 1 : Nat)) : Int) = (i : Int) + 1 := by omega
  simp only [ec] at ih
  have e1 : spec_l2At.f k l (i : Int) = some (dn (jb l) i : Int) := specAt_l0 l (by omega) i k (by omega) (by omega)
  have e2 : spec_l6At.f k sp (i : Int) = some (lookL (i : Int) sp) := specL6At_l0 (i : Int) sp [] k hs (by simp; omega) (by omega)
  have hd := dn_start (jb l) i (jb_zero l)
  simp only [spec_l6Wides.l0, rowW]
  rw [if_pos (by omega), e1, w64_len (by omega) (by omega)]
  simp only [Option.bind_some]
  unfold cellW
  by_cases h : (jb l).getD i false = true
  ·rw [if_pos h, if_neg (fun g => (hd.1 (by omega)) h), if_pos (by omega), ih]
   simp
  ·rw [if_neg h, if_pos (by rw [hd.2 h]), e2]
   simp only [Option.bind_some]
   rw [specCWide l i (by omega) hl k (by omega)]
   simp only [Option.bind_some]
   rw [if_pos (by omega), ih]
   simp
theorem implWides_l0 (l : List Int) (sp : List Sp) (hl : l.length ≤ 80) (hsl : sp.length ≤ 12) : ∀ (bs : List Bool) (A : List Int) (i : Nat) (don : List Int) (k : Nat), bs = (jb l).drop i → i + bs.length = l.length → don.length = i → A.length ≤ i → bs.length + 200 ≤ k →
  impl_widesOf.l0 k l sp (don ++ List.replicate bs.length 0) (A ++ fls i bs) ((A ++ fls i bs).length : Int) (A.length : Int) = some (don ++ rowW l sp bs.length i)
 | [], A, i, don, k, hb, hi, hd, hA, hk => by
  obtain ⟨k, rfl⟩ : ∃ m, k = m + 1 := ⟨k - 1, by omega⟩
  show impl_widesOf.l0 (k + 1) l sp (don ++ []) (A ++ []) ((A ++ []).length : Int) (A.length : Int) = some (don ++ [])
  simp only [impl_widesOf.l0]
  rw [if_neg (len_end A)]
 | b :: bs, A, i, don, k, hb, hi, hd, hA, hk => by
  simp only [List.length_cons] at hi hk
  have hbit : (jb l).getD i false = b := by
   have := congrArg (fun x => x.getD 0 false) hb
   simp only [List.getD_cons_zero] at this
   rw [this, List.getD_eq_getElem?_getD, List.getD_eq_getElem?_getD, List.getElem?_drop, Nat.add_zero]
  have hb' : bs = (jb l).drop (i + 1) := by
   have := congrArg List.tail hb
   simpa using this
  cases b with
  | true =>
   have ih := implWides_l0 l sp hl hsl bs A (i + 1) (don ++ [0]) k hb' (by omega) (by simp [hd]) (by omega) (by omega)
   have e : don ++ List.replicate (true :: bs).length 0 = (don ++ [0]) ++ List.replicate bs.length 0 := by simp [List.replicate_succ]
   have e2 : fls i (true :: bs) = fls (i + 1) bs := rfl
   have e3 : cellW l sp i = 0 := by unfold cellW; rw [if_pos hbit]
   rw [e, e2, ih]
   simp [rowW, e3]
  | false =>
   obtain ⟨k, rfl⟩ : ∃ m, k = m + 1 := ⟨k - 1, by omega⟩
   have e2 : fls i (false :: bs) = (i : Int) :: fls (i + 1) bs := rfl
   have ih := implWides_l0 l sp hl hsl bs (A ++ [(i : Int)]) (i + 1) (don ++ [cellW l sp i]) k hb' (by omega) (by simp [hd]) (by simp; omega) (by omega)
   rw [len_snoc, ← app_cons A] at ih
   have e3 : cellW l sp i = wrap64 (wideAt l i * (lookL (i : Int) sp).1) := by unfold cellW; rw [if_neg (by rw [hbit]; simp)]
   have e4 : impl_lookAt.f k sp (i : Int) = some (lookL (i : Int) sp) := implLookAt_l0 (i : Int) sp [] k (by simp; omega) (by omega)
   have e5 : (don ++ List.replicate (false :: bs).length 0).set ((i : Int)).toNat (cellW l sp i) = (don ++ [cellW l sp i]) ++ List.replicate bs.length 0 := by
    have := set_mid don 0 (cellW l sp i) (List.replicate bs.length 0)
    rw [hd] at this
    simpa [List.replicate_succ] using this
   rw [e2]
   simp only [impl_widesOf.l0]
   rw [if_pos (len_mid A _ _), if_pos (by omega), if_pos (len_mid A _ _), rd_mid, implCWide l i (by omega) (by omega) k (by omega), e4]
   simp only [Option.bind_some]
   rw [if_pos (by omega), if_pos (by simp; omega), ← e3, e5, w64_len (by omega) (by omega), ih]
   simp [rowW]
def widesL (l : List Int) (sp : List Sp) : List Int := if okT l = true ∧ spansOk sp (l.length : Int) = true then rowW l sp l.length 0 else []
theorem spansOk_len {sp : List Sp} {c : Int} (h : spansOk sp c = true) : sp.length ≤ 12 := by
 unfold spansOk at h
 simp only [Bool.and_eq_true, decide_eq_true_eq] at h
 omega

/-! what a line costs -/
def wsum : Int → List Int → Int
 | a, [] => a
 | a, x :: r => wsum (wrap64 (a + x)) r
theorem implSumG : ∀ (suf pre : List Int) (a : Int) (k : Nat), (pre ++ suf).length ≤ 1048576 → suf.length + 1 ≤ k →
  impl_lineWide.l0 k a (pre ++ suf) ((pre ++ suf).length : Int) (pre.length : Int) = some (wsum a suf)
 | [], pre, a, k, hl, hk => by
  obtain ⟨k, rfl⟩ : ∃ m, k = m + 1 := ⟨k - 1, by simp at hk; omega⟩
  simp only [impl_lineWide.l0]
  rw [if_neg (len_end pre)]
  rfl
 | x :: suf, pre, a, k, hl, hk => by
  obtain ⟨k, rfl⟩ : ∃ m, k = m + 1 := ⟨k - 1, by simp at hk; omega⟩
  have hp : (pre.length : Int) ≤ 1048576 := by simp at hl; omega
  have ih := implSumG suf (pre ++ [x]) (wrap64 (a + x)) k (by simpa using hl) (by simp at hk; omega)
  rw [len_snoc, ← app_cons] at ih
  simp only [impl_lineWide.l0]
  rw [if_pos (len_mid pre x suf), if_pos (by omega), if_pos (len_mid pre x suf), rd_mid, w64_len (by omega) (by omega), ih]
  rfl
theorem specSumG : ∀ (mid pre post : List Int) (a : Int) (k : Nat), (pre ++ (mid ++ post)).length ≤ 1048576 → mid.length + 1 ≤ k →
  spec_l7Wide.l1 k (pre ++ (mid ++ post)) (((pre ++ mid).length : Nat) : Int) a (pre.length : Int) = some (wsum a mid)
 | [], pre, post, a, k, hl, hk => by
  obtain ⟨k, rfl⟩ : ∃ m, k = m + 1 := ⟨k - 1, by simp at hk; omega⟩
  simp only [spec_l7Wide.l1]
  rw [if_neg (by simp)]
  rfl
 | x :: mid, pre, post, a, k, hl, hk => by
  obtain ⟨k, rfl⟩ : ∃ m, k = m + 1 := ⟨k - 1, by simp at hk; omega⟩
  have hp : (pre.length : Int) ≤ 1048576 := by simp at hl; omega
  have ih := specSumG mid (pre ++ [x]) post (wrap64 (a + x)) k (by simpa using hl) (by simp at hk; omega)
  rw [len_snoc, ← app_cons, ← app_cons] at ih
  simp only [spec_l7Wide.l1, List.cons_append]
  rw [if_pos (by simp; omega), if_pos (by omega), if_pos (len_mid pre x _), rd_mid, w64_len (by omega) (by omega), ih]
  rfl
def lineG (l ws : List Int) (f t : Nat) : Int := wsum 0 ((ws.take (bodyN l f t)).drop f)
theorem implLineG (l ws : List Int) (f t : Nat) (hl : l.length ≤ 80) (hw : ws.length = l.length) (hf : f ≤ t) (ht : t ≤ l.length) (k : Nat) (hk : 100 ≤ k) : impl_lineWide.f k l ws (f : Int) (t : Int) = some (lineG l ws f t) := by
 have h1 := bodyN_le l f t
 have h2 := bodyN_ge l f t hf
 unfold impl_lineWide.f impl_body.f lineG
 rw [implBody_l0 l f (by omega) t k ht (by omega)]
 simp only [Option.bind_some]
 rw [if_pos (by omega), if_pos (by omega), if_pos (by omega), Int.toNat_natCast, Int.toNat_natCast]
 have hlen : ((ws.take (bodyN l f t)).drop f).length ≤ 80 := by simp; omega
 exact implSumG ((ws.take (bodyN l f t)).drop f) [] 0 k (by simp; omega) (by omega)
theorem specLineG_j1 (ws : List Int) (f : Nat) (hw : ws.length ≤ 80) (b : Nat) (h1 : f ≤ b) (h2 : b ≤ ws.length) (k : Nat) (hk : 90 ≤ k) : spec_l7Wide.j1 k ws (f : Int) (b : Int) = some (wsum 0 ((ws.take b).drop f)) := by
 obtain ⟨k, rfl⟩ : ∃ m, k = m + 1 := ⟨k - 1, by omega⟩
 simp only [spec_l7Wide.j1]
 have hlen : ((ws.take b).drop f).length ≤ 80 := by simp; omega
 have := specSumG ((ws.take b).drop f) (ws.take f) (ws.drop b) 0 k (by simp; omega) (by omega)
 have e1 : ws.take f ++ ((ws.take b).drop f ++ ws.drop b) = ws := by
  rw [← List.append_assoc]
  have : ws.take f ++ (ws.take b).drop f = ws.take b := by
   have := List.take_append_drop f (ws.take b)
   rw [List.take_take, Nat.min_eq_left h1] at this
   exact this
  rw [this, List.take_append_drop]
 have e2 : (ws.take f ++ (ws.take b).drop f).length = b := by simp; omega
 have e3 : (ws.take f).length = f := by simp; omega
 rw [e1, e2, e3] at this
 exact this
theorem specLineG_l0 (l ws : List Int) (f : Nat) (hl : l.length ≤ 80) (hw : ws.length = l.length) : ∀ (t k : Nat), f ≤ t → t ≤ l.length → t + 150 ≤ k → spec_l7Wide.l0 k l ws (f : Int) (t : Int) = some (lineG l ws f t)
 | 0, k, hf, ht, hk => by
  obtain ⟨k, rfl⟩ : ∃ m, k = m + 1 := ⟨k - 1, by omega⟩
  simp only [spec_l7Wide.l0]
  rw [if_neg (by omega)]
  exact specLineG_j1 ws f (by omega) 0 (by omega) (by omega) k (by omega)
 | t + 1, k, hf, ht, hk => by
  obtain ⟨k, rfl⟩ : ∃ m, k = m + 1 := ⟨k - 1, by omega⟩
  have key := specLineG_j1 ws f (by omega) (t + 1) hf (by omega) k (by omega)
  have e : wrap64 (((t + 1 : Nat) : Int) - 1) = (t : Int) := by rw [w64 (by omega) (by omega)]; omega
  simp only [spec_l7Wide.l0]
  rw [e, rd_nat, specEmpty _ k (by omega)]
  simp only [Option.bind_some, decide_eq_true_eq]
  unfold lineG
  simp only [bodyN]
  by_cases h : f < t + 1
  ·have ih := specLineG_l0 l ws f hl hw t k (by omega) (by omega) (by omega)
   rw [if_pos (by omega), if_pos (by omega), if_pos (by omega)]
   by_cases h2 : emp (l.getD t 0)
   ·rw [if_pos h2, ih, if_pos ⟨h, h2⟩]
    rfl
   ·rw [if_neg h2, key, if_neg (fun g => h2 g.2)]
  ·rw [if_neg (by omega), key, if_neg (fun g => h g.1)]
def costV (l lw lb : List Int) (wd : Int) (f t : Nat) : Int := if rd lb ((t : Int) - 1) = 2 then 0 else wrap64 (wrap64 (wd - lineG l lw f t) * wrap64 (wd - lineG l lw f t))
theorem specCost (l lw lb : List Int) (wd : Int) (f t : Nat) (hl : l.length ≤ 80) (hw : lw.length = l.length) (hb : lb.length = l.length) (hf : f < t) (ht : t ≤ l.length) (k : Nat) (hk : 300 ≤ k) : spec_FillCost.cost k l lw lb wd (f : Int) (t : Int) = some (costV l lw lb wd f t) := by
 unfold spec_FillCost.cost costV spec_l7Wide.f
 rw [w64 (by omega) (by omega), if_pos (by omega), specLineG_l0 l lw f hl hw t k (by omega) ht (by omega)]
 split <;> rfl
theorem implCost (l lw lb : List Int) (wd : Int) (f t : Nat) (hl : l.length ≤ 80) (hw : lw.length = l.length) (hb : lb.length = l.length) (hf : f < t) (ht : t ≤ l.length) (k : Nat) (hk : 300 ≤ k) : impl_FillCost.cost k l lw lb wd (f : Int) (t : Int) = some (costV l lw lb wd f t) := by
 unfold impl_FillCost.cost costV
 rw [w64 (by omega) (by omega), if_pos (by omega), implLineG l lw f t hl hw (by omega) ht k (by omega)]
 split <;> rfl
/-! ends of lines -/
def endsGo (n : Int) : Int → List Int → Bool
 | p, [] => p == n
 | p, e :: r => decide (p < e) && endsGo n e r
theorem endsGo_big (n : Int) : ∀ (r : List Int) (p : Int), n < p → endsGo n p r = false
 | [], p, h => by simp [endsGo]; omega
 | e :: r, p, h => by
  unfold endsGo
  by_cases h2 : p < e
  ·rw [endsGo_big n r e (by omega), Bool.and_false]
  ·rw [decide_eq_false h2, Bool.false_and]
theorem implEnds_l0 (n : Int) : ∀ (suf pre : List Int) (p : Int) (k : Nat), (pre ++ suf).length ≤ 1048576 → suf.length + 1 ≤ k →
  impl_endsOk.l0 k n p (pre ++ suf) ((pre ++ suf).length : Int) (pre.length : Int) = some (endsGo n p suf)
 | [], pre, p, k, hl, hk => by
  obtain ⟨k, rfl⟩ : ∃ m, k = m + 1 := ⟨k - 1, by simp at hk; omega⟩
  simp only [impl_endsOk.l0]
  rw [if_neg (len_end pre)]
  rfl
 | x :: suf, pre, p, k, hl, hk => by
  obtain ⟨k, rfl⟩ : ∃ m, k = m + 1 := ⟨k - 1, by simp at hk; omega⟩
  have hp : (pre.length : Int) ≤ 1048576 := by simp at hl; omega
  have ih := implEnds_l0 n suf (pre ++ [x]) x k (by simpa using hl) (by simp at hk; omega)
  rw [len_snoc, ← app_cons] at ih
  simp only [impl_endsOk.l0]
  rw [if_pos (len_mid pre x suf), if_pos (by omega), if_pos (len_mid pre x suf), rd_mid, w64_len (by omega) (by omega), ih]
  unfold endsGo
  by_cases h : x ≤ p
  ·rw [if_pos h, decide_eq_false (by omega), Bool.false_and]
  ·rw [if_neg h, decide_eq_true (by omega), Bool.true_and]
   cases suf <;> rfl
theorem implEnds (l : List Int) (n : Int) (hl : l.length ≤ 1048576) (k : Nat) (hk : l.length + 1 ≤ k) : impl_endsOk.f k l n = some (endsGo n 0 l) := implEnds_l0 n l [] 0 k (by simpa using hl) hk
def AheadI (pre : List Int) (p : Int) : Prop := (pre = [] ∧ p = 0) ∨ ∃ q, pre = q ++ [p] ∧ 1 ≤ p
theorem specEnds_l0 (n : Int) (hn : 0 ≤ n) : ∀ (suf pre : List Int) (p : Int) (k : Nat), AheadI pre p → p ≤ n → (pre ++ suf).length ≤ 1048576 → suf.length + 1 ≤ k →
  spec_l7Ends.l0 k (pre ++ suf) n (pre.length : Int) = some (endsGo n p suf)
 | [], pre, p, k, ha, hp, hl, hk => by
  obtain ⟨k, rfl⟩ : ∃ m, k = m + 1 := ⟨k - 1, by simp at hk; omega⟩
  simp only [spec_l7Ends.l0]
  rw [if_neg (len_end pre), List.append_nil]
  unfold endsGo
  rcases ha with ⟨rfl, rfl⟩ | ⟨q, rfl, h1⟩
  ·by_cases h0 : n = 0
   ·rw [if_pos h0, h0]; rfl
   ·rw [if_neg h0, if_neg (by simp), beq_eq_false_iff_ne.2 (by omega)]
  ·have e : (((q ++ [p]).length : Nat) : Int) = (q.length : Int) + 1 := by simp
   have hq : (q.length : Int) ≤ 1048576 := by simp at hl; omega
   have e2 : rd (q ++ [p]) (q.length : Int) = p := rd_mid q p []
   rw [if_neg (by omega), if_pos (by omega), e, w64 (by omega) (by omega), if_pos (by omega), if_pos (by omega), show (q.length : Int) + 1 - 1 = (q.length : Int) from by omega, e2]
 | x :: suf, pre, p, k, ha, hp, hl, hk => by
  obtain ⟨k, rfl⟩ : ∃ m, k = m + 1 := ⟨k - 1, by simp at hk; omega⟩
  have hpl : (pre.length : Int) ≤ 1048576 := by simp at hl; omega
  have ih := fun h1 h2 => specEnds_l0 n hn suf (pre ++ [x]) x k (.inr ⟨pre, rfl, h1⟩) h2 (by simpa using hl) (by simp at hk; omega)
  rw [len_snoc, ← app_cons] at ih
  simp only [spec_l7Ends.l0]
  rw [if_pos (len_mid pre x suf), rd_mid, w64_len (by omega) (by omega), specIn]
  simp only [Option.bind_some, decide_eq_true_eq]
  unfold endsGo
  have tail : p < x → (if 1 ≤ x ∧ x ≤ n then spec_l7Ends.l0 k (pre ++ x :: suf) n ((pre.length : Int) + 1) else some false) = some (decide (p < x) && endsGo n x suf) ∨ p < 0 := by
   intro hlt
   by_cases h0 : p < 0
   ·exact .inr h0
   ·refine .inl ?_
    rw [decide_eq_true hlt, Bool.true_and]
    by_cases h : 1 ≤ x ∧ x ≤ n
    ·rw [if_pos h, ih h.1 h.2]
    ·rw [if_neg h, endsGo_big n suf x (by omega)]
  rcases ha with ⟨rfl, rfl⟩ | ⟨q, rfl, h1⟩
  ·rw [if_neg (by simp), if_pos (by simp)]
   by_cases h : (0 : Int) < x
   ·rcases tail h with t | t
    ·exact t
    ·omega
   ·rw [if_neg (by omega), decide_eq_false h, Bool.false_and]
  ·have e : (((q ++ [p]).length : Nat) : Int) = (q.length : Int) + 1 := by simp
   have hq : (q.length : Int) ≤ 1048576 := by simp at hl; omega
   have e2 : rd (q ++ [p] ++ x :: suf) (q.length : Int) = p := by rw [List.append_assoc]; exact rd_mid q p (x :: suf)
   have hlt : (q.length : Int) < (((q ++ [p] ++ x :: suf).length : Nat) : Int) := by simp; omega
   have e3 : wrap64 ((q.length : Int) + 1 - 1) = (q.length : Int) := by rw [w64 (by omega) (by omega)]; omega
   rw [e] at tail ⊢
   rw [if_pos (by omega), e3, if_pos (by omega), if_pos hlt, if_pos (by omega), e2]
   by_cases h : p < x
   ·rw [if_neg (by omega)]
    rcases tail h with t | t
    ·exact t
    ·omega
   ·rw [if_pos (by omega), decide_eq_false h, Bool.false_and]
theorem specEnds (l : List Int) (n : Int) (hn : 0 ≤ n) (hl : l.length ≤ 1048576) (k : Nat) (hk : l.length + 1 ≤ k) : spec_l7Ends.f k l n = some (endsGo n 0 l) := specEnds_l0 n hn l [] 0 k (.inl ⟨rfl, rfl⟩) hn (by simpa using hl) hk
theorem costs_both (l lw lb : List Int) (wd : Int) (hl : l.length ≤ 80) (hw : lw.length = l.length) (hb : lb.length = l.length) (k : Nat) (hk : 300 ≤ k) : ∀ (es : List Int) (n : Int) (f : Nat), endsGo (l.length : Int) (f : Int) es = true →
  ∃ v, spec_FillCost.go k l lw lb wd es n (f : Int) = some v ∧ impl_FillCost.go k l lw lb wd es n (f : Int) = some v
 | [], n, f, _ => ⟨n, rfl, rfl⟩
 | e :: es, n, f, h => by
  unfold endsGo at h
  rw [Bool.and_eq_true, decide_eq_true_eq] at h
  have hle : e ≤ (l.length : Int) := by
   by_cases g : e ≤ (l.length : Int)
   ·exact g
   ·have := endsGo_big (l.length : Int) es e (by omega)
    rw [this] at h
    exact absurd h.2 (by decide)
  obtain ⟨t, rfl⟩ := Int.eq_ofNat_of_zero_le (show 0 ≤ e by omega)
  unfold spec_FillCost.go impl_FillCost.go
  have h1 : f < t := by have := h.1; omega
  rw [specCost l lw lb wd f t hl hw hb h1 (by omega) k hk, implCost l lw lb wd f t hl hw hb h1 (by omega) k hk]
  simp only [Option.bind_some]
  exact costs_both l lw lb wd hl hw hb k hk es _ t h.2
theorem specAll (l : List Int) (sp : List Sp) (a : Int) (hw : ∀ s ∈ sp, InI s.f0) (hl : l.length ≤ 1048576) (hsl : sp.length ≤ 1048576) (k : Nat) (hk : l.length + sp.length + 500 ≤ k) :
  spec_l7All.f k l sp a = some (okT l && (spansOk sp (l.length : Int) && decide (0 ≤ a ∧ a ≤ 20000))) := by
 unfold spec_l7All.f
 rw [specL1Ok l hl k (by omega)]
 simp only [Option.bind_some]
 cases okT l with
 | false => rfl
 | true =>
  rw [if_pos rfl, specSpansOk sp _ hw hsl k (by omega)]
  simp only [Option.bind_some]
  cases spansOk sp (l.length : Int) with
  | false => rfl
  | true => rw [if_pos rfl, specIn]; rfl
theorem implFillable (l : List Int) (sp : List Sp) (a : Int) (hsl : sp.length ≤ 1048576) (k : Nat) (hk : sp.length + 500 ≤ k) :
  impl_fillable.f k l sp a = some (okT l && (spansOk sp (l.length : Int) && decide (0 ≤ a ∧ a ≤ 20000))) := by
 unfold impl_fillable.f impl_isWide.f
 rw [implLettersOk]
 simp only [Option.bind_some]
 cases okT l with
 | false => rfl
 | true =>
  rw [if_pos rfl, implSpansOk sp _ hsl k (by omega)]
  simp only [Option.bind_some]
  cases spansOk sp (l.length : Int) with
  | false => rfl
  | true =>
   rw [if_pos rfl]
   by_cases h : a ≥ 0
   ·rw [if_pos h]
    simp [h]
   ·rw [if_neg h]
    simp [h]
theorem fill_both (l : List Int) (sp : List Sp) (a : Int) (es : List Int) (hw : ∀ s ∈ sp, InI s.f0) (hl : l.length ≤ 1048576) (hsl : sp.length ≤ 1048576) (hes : es.length ≤ 1048576) (k : Nat) (hk : l.length + sp.length + es.length + 1500 ≤ k) :
  ∃ v, spec_FillCost.f k l sp a es = some v ∧ impl_FillCost.f k l sp a es = some v := by
 unfold spec_FillCost.f impl_FillCost.f
 rw [specAll l sp a hw hl hsl k (by omega), implFillable l sp a hsl k (by omega)]
 simp only [Option.bind_some]
 by_cases h : (okT l && (spansOk sp (l.length : Int) && decide (0 ≤ a ∧ a ≤ 20000))) = true
 ·rw [if_pos h, if_pos h, specEnds es _ (by omega) hes k (by omega), implEnds es _ hes k (by omega)]
  simp only [Option.bind_some]
  by_cases h2 : endsGo (l.length : Int) 0 es = true
  ·rw [if_pos h2, if_pos h2]
   simp only [Bool.and_eq_true] at h
   obtain ⟨ho, hs, _⟩ := h
   have h80 := okT_len ho
   have h12 := spansOk_len hs
   have e1 : spec_l6Wides.f k l sp = some (rowW l sp l.length 0) := specWides_l0 l sp (by omega) h12 (fun s h => spOk_mono s _ (by omega) (spansOk_mem hs s h)) l.length 0 [] k (by omega) rfl (by omega)
   have e2 : impl_widesOf.f k l sp = some (rowW l sp l.length 0) := by
    have e0 : impl_starts.f k l = some (fls 0 (jb l)) := by
     unfold impl_starts.f
     rw [implJoined l (by omega) k (by omega)]
     exact implStarts_l0 (jb l) [] [] k (by simp [jb_len]; omega) (by simp) (by rw [jb_len]; omega)
    unfold impl_widesOf.f
    rw [if_pos (by omega), if_pos (by omega), e0, Int.toNat_natCast]
    simp only [Option.bind_some]
    have := implWides_l0 l sp (by omega) h12 (jb l) [] 0 [] k rfl (by rw [jb_len]; omega) rfl (Nat.le_refl _) (by rw [jb_len]; omega)
    rw [jb_len] at this
    exact this
   have e3 : spec_l5Breaks.f k l = some (breaksL l) := by
    unfold spec_l5Breaks.f
    rw [specCounts l (by omega) k (by omega)]
    simp only [Option.bind_some]
    have := specBreaks_l0 l (countsL l) h80 (countsL_len l) (countsL l) [] [] k rfl rfl (by rw [countsL_len]; omega)
    simp only [List.length_nil, List.nil_append] at this
    rw [show (0 : Int) = ((0 : Nat) : Int) from rfl, this]
    rfl
   have e4 : impl_breaks.f k l = some (breaksL l) := by
    unfold impl_breaks.f
    rw [implCounts l (by omega) k (by omega), implJoined l (by omega) k (by omega)]
    simp only [Option.bind_some]
    rw [if_pos ⟨countsL_len l, jb_len l, by omega⟩, brkGo_eq l (countsL l) k (by omega)]
    rfl
   rw [e1, e2]
   simp only [Option.bind_some]
   rw [e3, e4]
   simp only [Option.bind_some]
   obtain ⟨v, g1, g2⟩ := costs_both l (rowW l sp l.length 0) (breaksL l) a h80 (rowW_len _ _ _ _) (breaksL_len l) k (by omega) es 0 0 h2
   have g1' : spec_FillCost.go k l (rowW l sp l.length 0) (breaksL l) a es 0 0 = some v := g1
   have g2' : impl_FillCost.go k l (rowW l sp l.length 0) (breaksL l) a es 0 0 = some v := g2
   rw [if_pos (by omega), if_pos (by omega), g1', g2']
   exact ⟨(v, true), rfl, rfl⟩
  ·rw [if_neg h2, if_neg h2]
   exact ⟨(0, false), rfl, rfl⟩
 ·rw [if_neg h, if_neg h]
  exact ⟨(0, false), rfl, rfl⟩

abbrev LSp := S59
theorem rdLSp_mid (pre : List LSp) (x : LSp) (suf : List LSp) : zyb (pre ++ x :: suf) (pre.length : Int) = x := getD_mid pre x suf _
def cvt (x : LSp) : Sp := ⟨x.f0, x.f1, x.f2, x.f3⟩
theorem toSpanS_l0 : ∀ (suf pre : List LSp) (rest : List Sp) (k : Nat), rest.length = suf.length → (pre ++ suf).length ≤ 1048576 → suf.length + 1 ≤ k →
  laws_toSpanS.l0 k (pre ++ suf) (pre.map cvt ++ rest) (pre.length : Int) = some ((pre ++ suf).map cvt)
 | [], pre, rest, k, hr, hl, hk => by
  obtain ⟨k, rfl⟩ : ∃ m, k = m + 1 := ⟨k - 1, by simp at hk; omega⟩
  obtain rfl : rest = [] := List.eq_nil_of_length_eq_zero (by simpa using hr)
  simp only [laws_toSpanS.l0]
  rw [if_neg (len_end pre)]
  simp
 | x :: suf, pre, [], k, hr, hl, hk => by simp at hr
 | x :: suf, pre, y :: rest, k, hr, hl, hk => by
  obtain ⟨k, rfl⟩ : ∃ m, k = m + 1 := ⟨k - 1, by simp at hk; omega⟩
  have hp : (pre.length : Int) ≤ 1048576 := by simp at hl; omega
  have ih := toSpanS_l0 suf (pre ++ [x]) rest k (by simpa using hr) (by simpa using hl) (by simp at hk; omega)
  rw [len_snoc, ← app_cons] at ih
  have e : (pre.map cvt ++ y :: rest).set ((pre.length : Int)).toNat (cvt x) = (pre ++ [x]).map cvt ++ rest := by
   have := set_mid (pre.map cvt) y (cvt x) rest
   rw [List.length_map] at this
   rw [this]
   simp
  simp only [laws_toSpanS.l0, laws_toSpan.f]
  rw [if_pos (len_mid pre x suf), if_pos (by omega), rdLSp_mid]
  simp only [Option.bind_some]
  rw [if_pos (by simp; omega), w64_len (by omega) (by omega), ← ih, ← e]
  rfl
theorem toSpanS_ok (l : List LSp) (hl : l.length ≤ 1048576) (k : Nat) (hk : l.length + 1 ≤ k) : laws_toSpanS.f k l = some (l.map cvt) := by
 unfold laws_toSpanS.f
 rw [if_pos (by omega), if_pos (by omega), Int.toNat_natCast]
 exact toSpanS_l0 l [] (List.replicate l.length zSp) k (by simp) (by simpa using hl) hk

theorem eqSpanS_l0 : ∀ (suf pre : List Sp) (k : Nat), (pre ++ suf).length ≤ 1048576 → suf.length + 1 ≤ k → laws_eqSpanS.l0 k (pre ++ suf) (pre ++ suf) (pre.length : Int) = some true
 | [], pre, k, hl, hk => by
  obtain ⟨k, rfl⟩ : ∃ m, k = m + 1 := ⟨k - 1, by simp at hk; omega⟩
  simp only [laws_eqSpanS.l0]
  rw [if_neg (len_end pre)]
 | x :: suf, pre, k, hl, hk => by
  obtain ⟨k, rfl⟩ : ∃ m, k = m + 1 := ⟨k - 1, by simp at hk; omega⟩
  have hp : (pre.length : Int) ≤ 1048576 := by simp at hl; omega
  have ih := eqSpanS_l0 suf (pre ++ [x]) k (by simpa using hl) (by simp at hk; omega)
  rw [len_snoc, ← app_cons] at ih
  simp only [laws_eqSpanS.l0]
  rw [if_pos (len_mid pre x suf), if_pos (by omega), if_pos (len_mid pre x suf), rdSp_mid]
  simp only [laws_eqSpan.f, if_true, ↓reduceIte, Option.bind_some]
  rw [w64_len (by omega) (by omega), ih]
theorem eqSpanS_ok (l : List Sp) (hl : l.length ≤ 1048576) (k : Nat) (hk : l.length + 1 ≤ k) : laws_eqSpanS.f k l l = some true := by
 unfold laws_eqSpanS.f
 rw [if_pos rfl]
 exact eqSpanS_l0 l [] k (by simpa using hl) hk

theorem toIntS_l0 : ∀ (suf pre rest : List Int) (k : Nat), rest.length = suf.length → (pre ++ suf).length ≤ 1048576 → suf.length + 1 ≤ k → laws_toIntS.l0 k (pre ++ suf) (pre ++ rest) (pre.length : Int) = some (pre ++ suf)
 | [], pre, rest, k, hr, hl, hk => by
  obtain ⟨k, rfl⟩ : ∃ m, k = m + 1 := ⟨k - 1, by simp at hk; omega⟩
  obtain rfl : rest = [] := List.eq_nil_of_length_eq_zero (by simpa using hr)
  simp only [laws_toIntS.l0]
  rw [if_neg (len_end pre)]
 | x :: suf, pre, [], k, hr, hl, hk => by simp at hr
 | x :: suf, pre, y :: rest, k, hr, hl, hk => by
  obtain ⟨k, rfl⟩ : ∃ m, k = m + 1 := ⟨k - 1, by simp at hk; omega⟩
  simp only [laws_toIntS.l0]
  have hp : (pre.length : Int) ≤ 1048576 := by simp at hl; omega
  rw [if_pos (len_mid pre x suf), if_pos (by omega), if_pos (len_mid pre y rest), rd_mid, set_mid, w64_len (by omega) (by omega), ← len_snoc pre x, app_cons pre x suf, app_cons pre x rest]
  exact toIntS_l0 suf (pre ++ [x]) rest k (by simpa using hr) (by simpa using hl) (by simp at hk; omega)
theorem toIntS_ok (l : List Int) (hl : l.length ≤ 1048576) (k : Nat) (hk : l.length + 1 ≤ k) : laws_toIntS.f k l = some l := by
 unfold laws_toIntS.f
 rw [if_pos (by omega), if_pos (by omega), Int.toNat_natCast]
 exact toIntS_l0 l [] (List.replicate l.length 0) k (by simp) (by simpa using hl) hk

theorem eqIntS_l0 : ∀ (suf pre : List Int) (k : Nat), (pre ++ suf).length ≤ 4000000 → suf.length + 1 ≤ k → laws_eqIntS.l0 k (pre ++ suf) (pre ++ suf) (pre.length : Int) = some true
 | [], pre, k, hl, hk => by
  obtain ⟨k, rfl⟩ : ∃ m, k = m + 1 := ⟨k - 1, by simp at hk; omega⟩
  simp only [laws_eqIntS.l0]
  rw [if_neg (len_end pre)]
 | x :: suf, pre, k, hl, hk => by
  obtain ⟨k, rfl⟩ : ∃ m, k = m + 1 := ⟨k - 1, by simp at hk; omega⟩
  simp only [laws_eqIntS.l0]
  have hp : (pre.length : Int) ≤ 4000000 := by simp at hl; omega
  rw [if_pos (len_mid pre x suf), if_pos (by omega), if_pos (len_mid pre x suf), if_pos trivial, w64_len (by omega) (by omega), ← len_snoc pre x, app_cons pre x suf]
  exact eqIntS_l0 suf (pre ++ [x]) k (by simpa using hl) (by simp at hk; omega)
theorem eqIntS_ok (l : List Int) (hl : l.length ≤ 4000000) (k : Nat) (hk : l.length + 1 ≤ k) : laws_eqIntS.f k l l = some true := by
 unfold laws_eqIntS.f
 rw [if_pos rfl]
 exact eqIntS_l0 l [] k (by simpa using hl) hk

theorem FnExactFillCost : laws_FnExactFillCost.Pure := by
 intro l s a es _ hl0 _ _ hs0 hws _ _ he0 _
 unfold laws_FnExactFillCost.f laws_szSpanS.f
 by_cases hb : l.length ≤ 1048576
 ·by_cases hb3 : es.length ≤ 1048576
  ·by_cases hb2 : s.length ≤ 1048576
   ·refine ⟨l.length + s.length + es.length + 2001, ?_⟩
    generalize hK : l.length + s.length + es.length + 2000 = K
    have hK1 : l.length + s.length + es.length + 2001 = K + 1 := by omega
    rw [hK1]
    have hsp : ∀ x ∈ s.map cvt, InI x.f0 := by
     intro x hx
     obtain ⟨y, hy, rfl⟩ := List.mem_map.1 hx
     exact in_i64 (hws y hy).1
    have hsl : (s.map cvt).length ≤ 1048576 := by simpa using hb2
    have hsl' : (s.map cvt).length = s.length := by simp
    have hT := fun k (hk : K ≤ k) => toIntS_ok l hb k (by omega)
    have hT3 := fun k (hk : K ≤ k) => toIntS_ok es hb3 k (by omega)
    have hT2 := fun k (hk : K ≤ k) => toSpanS_ok s hb2 k (by omega)
    obtain ⟨v, h1, h2⟩ := fill_both l (s.map cvt) a es hsp hb hsl hb3 (K + 1) (by omega)
    rw [if_neg (by omega), if_neg (by omega), w64 (by omega) (by omega), if_neg (by omega)]
    simp only [Option.bind_some]
    rw [if_neg (by omega), hT _ (by omega)]
    simp only [Option.bind_some]
    rw [hT2 _ (by omega)]
    simp only [Option.bind_some]
    rw [hT3 _ (by omega)]
    simp only [Option.bind_some]
    rw [h1, h2]
    simp only [Option.bind_some, if_true, bne_self_eq_false, laws_FnExactFillCost.j0, Bool.false_eq_true, if_false]
    rw [hT _ (by omega)]
    simp only [Option.bind_some]
    rw [eqIntS_ok l (by omega) _ (by omega)]
    simp only [Option.bind_some, if_true]
    rw [hT2 _ (by omega)]
    simp only [Option.bind_some]
    rw [eqSpanS_ok _ hsl _ (by omega)]
    simp only [Option.bind_some, if_true]
    rw [hT3 _ (by omega)]
    simp only [Option.bind_some]
    rw [eqIntS_ok es (by omega) _ (by omega)]
    simp
   ·refine ⟨0, ?_⟩
    rw [if_neg (by omega), if_neg (by omega), w64 (by omega) (by omega), if_pos (by omega)]
    simp
  ·refine ⟨0, ?_⟩
   rw [if_neg (by omega), if_pos (by omega)]
 ·refine ⟨0, ?_⟩
  rw [if_pos (by omega)]

end Go.Proofs.Ytmjhdgofepdgkaa.Pure
