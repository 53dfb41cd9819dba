/- Of drawn letters: a line ends where it must (behind a line feed, and at the end) and there alone must it end, never within a cluster, never ahead of a blank or a line feed, nor, behind a letter or a figure, ahead of what closes or divides: the law FnBreaks answers true; no condition. -/
import Derived.Test.YtmjhdgofepdgkaaPFnBreaksx15
namespace Go.Proofs.Ytmjhdgofepdgkaa.Pure
open Go.RowKit Go.Proofs.Ytmjhdgofepdgkaa.PFnBreaks Go.Proofs.YtmjhdgofepdgkaaW.PrintWords Go.Proofs.YtmjhdgofepdgkaaW.PrintLast Go.Proofs.YtmjhdgofepdgkaaW.PrintMore
set_option linter.unusedVariables false
set_option linter.unusedSimpArgs false

/-! small lemmas on whole numbers, lists and rounds -/
theorem w64 {x : Int} (h : -9223372036854775808 ≤ x) (h' : x ≤ 9223372036854775807) : wrap64 x = x := by
  unfold wrap64
  omega
theorem in_i64 {x : Int} (h : (Lit.int .i64 x).wf = true) : -9223372036854775808 ≤ x ∧ x ≤ 9223372036854775807 := by
  simpa [Lit.wf, IntKind.min, IntKind.max, IntKind.bits, IntKind.signed] using h
theorem in_u8 {x : Int} (h : (Lit.int .u8 x).wf = true) : 0 ≤ x ∧ x ≤ 255 := by
  simpa [Lit.wf, IntKind.min, IntKind.max, IntKind.bits, IntKind.signed] using h
theorem rd_nat (l : List Int) (i : Nat) : rd l (i : Int) = l.getD i 0 := by
  unfold rd
  rw [Int.toNat_natCast]

/-- the class of a letter for its side -/
def bidi (a : Int) : Int :=
  if (97 ≤ a ∧ a ≤ 122) ∨ (65 ≤ a ∧ a ≤ 90) ∨ (19968 ≤ a ∧ a ≤ 40959) then 1 else if 1488 ≤ a ∧ a ≤ 1514 then 2 else if 1569 ≤ a ∧ a ≤ 1610 then 3
  else if 48 ≤ a ∧ a ≤ 57 then 4 else if 1632 ≤ a ∧ a ≤ 1641 then 7 else if a = 43 ∨ a = 45 then 5 else if 35 ≤ a ∧ a ≤ 37 then 6
  else if a = 44 ∨ a = 46 ∨ a = 47 ∨ a = 58 then 8 else if 768 ≤ a ∧ a ≤ 879 then 9 else if a = 8203 ∨ a = 8205 ∨ a = 173 then 10
  else if a = 9 then 11 else if a = 32 then 12 else if 8234 ≤ a ∧ a ≤ 8238 then a - 8220 else if 8294 ≤ a ∧ a ≤ 8297 then a - 8275 else 13
theorem or_ite {α : Type} {p q : Prop} [Decidable p] [Decidable q] (x y : α) : (if p ∨ q then x else y) = if p then x else if q then x else y := by
  by_cases h1 : p <;> by_cases h2 : q <;> simp [h1, h2]

theorem specIn (a b c : Int) : spec_l1In.f a b c = some (decide (b ≤ a ∧ a ≤ c)) := by
  unfold spec_l1In.f
  by_cases h1 : b ≤ a <;> by_cases h2 : a ≤ c <;> simp [h1, h2]

theorem specMoves (a : Int) (k : Nat) (hk : 12 ≤ k) : spec_l1Moves.f k a = some (if 8234 ≤ a ∧ a ≤ 8238 then a - 8220 else if 8294 ≤ a ∧ a ≤ 8297 then a - 8275 else 13) := by
  obtain ⟨k, rfl⟩ : ∃ m, k = m + 12 := ⟨k - 12, by omega⟩
  unfold spec_l1Moves.f
  by_cases h1 : a = 8234
  · subst h1; simp [spec_l1Moves.l0, rd, wrap64]
  by_cases h2 : a = 8235
  · subst h2; simp [spec_l1Moves.l0, rd, wrap64]
  by_cases h3 : a = 8236
  · subst h3; simp [spec_l1Moves.l0, rd, wrap64]
  by_cases h4 : a = 8237
  · subst h4; simp [spec_l1Moves.l0, rd, wrap64]
  by_cases h5 : a = 8238
  · subst h5; simp [spec_l1Moves.l0, rd, wrap64]
  by_cases h6 : a = 8294
  · subst h6; simp [spec_l1Moves.l0, rd, wrap64]
  by_cases h7 : a = 8295
  · subst h7; simp [spec_l1Moves.l0, rd, wrap64]
  by_cases h8 : a = 8296
  · subst h8; simp [spec_l1Moves.l0, rd, wrap64]
  by_cases h9 : a = 8297
  · subst h9; simp [spec_l1Moves.l0, rd, wrap64]
  rw [if_neg (by omega), if_neg (by omega)]
  simp [spec_l1Moves.l0, rd, wrap64, Ne.symm h1, Ne.symm h2, Ne.symm h3, Ne.symm h4, Ne.symm h5, Ne.symm h6, Ne.symm h7, Ne.symm h8, Ne.symm h9, eq_comm, h1, h2, h3, h4, h5, h6, h7, h8, h9]
/-- the class of a sign -/
def bsign (a : Int) : Int :=
  if a = 43 ∨ a = 45 then 5 else if 35 ≤ a ∧ a ≤ 37 then 6
  else if a = 44 ∨ a = 46 ∨ a = 47 ∨ a = 58 then 8 else if 768 ≤ a ∧ a ≤ 879 then 9 else if a = 8203 ∨ a = 8205 ∨ a = 173 then 10
  else if a = 9 then 11 else if a = 32 then 12 else if 8234 ≤ a ∧ a ≤ 8238 then a - 8220 else if 8294 ≤ a ∧ a ≤ 8297 then a - 8275 else 13
theorem specSigns (a : Int) (k : Nat) (hk : 20 ≤ k) : spec_l1Signs.f k a = some (bsign a) := by
  obtain ⟨k, rfl⟩ : ∃ m, k = m + 20 := ⟨k - 20, by omega⟩
  unfold spec_l1Signs.f bsign
  simp only [spec_l1Signs.j0, spec_l1Signs.j1, spec_l1Signs.j2, specIn, specMoves a _ (show 12 ≤ k + 17 by omega), Option.bind_some, decide_eq_true_eq, beq_iff_eq, if_true, ↓reduceIte]
  simp only [or_ite, apply_ite some]
theorem specBidi (a : Int) (k : Nat) (hk : 30 ≤ k) : spec_RuneBidi.f k a = some (bidi a) := by
  obtain ⟨k, rfl⟩ : ∃ m, k = m + 30 := ⟨k - 30, by omega⟩
  unfold spec_RuneBidi.f bidi
  simp only [spec_RuneBidi.j0, specIn, specSigns a _ (show 20 ≤ k + 29 by omega), Option.bind_some, decide_eq_true_eq, if_true, ↓reduceIte, bsign]
  simp only [or_ite, apply_ite some]

theorem lookR_is {l : List _} {a o b : Int} (h1 : ∀ x ∈ l, hitR x a = true → x.f2 = b) (h2 : (∀ x ∈ l, hitR x a = false) → o = b) : lookR l a o = b := by
  induction l with
  | nil => exact h2 (fun x hx => by cases hx)
  | cons x xs ih =>
    cases hh : hitR x a with
    | true =>
      have : lookR (x :: xs) a o = x.f2 := by simp [lookR, List.find?_cons, hh]
      rw [this]
      exact h1 x List.mem_cons_self hh
    | false =>
      have : lookR (x :: xs) a o = lookR xs a o := by simp [lookR, List.find?_cons, hh]
      rw [this]
      exact ih (fun y hy => h1 y (List.mem_cons_of_mem _ hy)) (fun hn => h2 (fun y hy => by
        rcases List.mem_cons.1 hy with rfl | hy
        · exact hh
        · exact hn y hy))
theorem bidi_none {a : Int} (h1 : ¬ (9 ≤ a ∧ a ≤ 9)) (h2 : ¬ (32 ≤ a ∧ a ≤ 32)) (h3 : ¬ (35 ≤ a ∧ a ≤ 37)) (h4 : ¬ (43 ≤ a ∧ a ≤ 43)) (h5 : ¬ (44 ≤ a ∧ a ≤ 44)) (h6 : ¬ (45 ≤ a ∧ a ≤ 45)) (h7 : ¬ (46 ≤ a ∧ a ≤ 47)) (h8 : ¬ (48 ≤ a ∧ a ≤ 57)) (h9 : ¬ (58 ≤ a ∧ a ≤ 58)) (h10 : ¬ (65 ≤ a ∧ a ≤ 90)) (h11 : ¬ (97 ≤ a ∧ a ≤ 122)) (h12 : ¬ (173 ≤ a ∧ a ≤ 173)) (h13 : ¬ (768 ≤ a ∧ a ≤ 879)) (h14 : ¬ (1488 ≤ a ∧ a ≤ 1514)) (h15 : ¬ (1569 ≤ a ∧ a ≤ 1610)) (h16 : ¬ (1632 ≤ a ∧ a ≤ 1641)) (h17 : ¬ (8203 ≤ a ∧ a ≤ 8203)) (h18 : ¬ (8205 ≤ a ∧ a ≤ 8205)) (h19 : ¬ (8234 ≤ a ∧ a ≤ 8234)) (h20 : ¬ (8235 ≤ a ∧ a ≤ 8235)) (h21 : ¬ (8236 ≤ a ∧ a ≤ 8236)) (h22 : ¬ (8237 ≤ a ∧ a ≤ 8237)) (h23 : ¬ (8238 ≤ a ∧ a ≤ 8238)) (h24 : ¬ (8294 ≤ a ∧ a ≤ 8294)) (h25 : ¬ (8295 ≤ a ∧ a ≤ 8295)) (h26 : ¬ (8296 ≤ a ∧ a ≤ 8296)) (h27 : ¬ (8297 ≤ a ∧ a ≤ 8297)) (h28 : ¬ (19968 ≤ a ∧ a ≤ 40959)) : bidi a = 13 := by
  have e43 : ¬ a = 43 := (fun e => h4 ⟨by omega, by omega⟩)
  have e45 : ¬ a = 45 := (fun e => h6 ⟨by omega, by omega⟩)
  have e44 : ¬ a = 44 := (fun e => h5 ⟨by omega, by omega⟩)
  have e58 : ¬ a = 58 := (fun e => h9 ⟨by omega, by omega⟩)
  have e8203 : ¬ a = 8203 := (fun e => h17 ⟨by omega, by omega⟩)
  have e8205 : ¬ a = 8205 := (fun e => h18 ⟨by omega, by omega⟩)
  have e173 : ¬ a = 173 := (fun e => h12 ⟨by omega, by omega⟩)
  have e9 : ¬ a = 9 := (fun e => h1 ⟨by omega, by omega⟩)
  have e32 : ¬ a = 32 := (fun e => h2 ⟨by omega, by omega⟩)
  have e8234 : ¬ a = 8234 := (fun e => h19 ⟨by omega, by omega⟩)
  have e8235 : ¬ a = 8235 := (fun e => h20 ⟨by omega, by omega⟩)
  have e8236 : ¬ a = 8236 := (fun e => h21 ⟨by omega, by omega⟩)
  have e8237 : ¬ a = 8237 := (fun e => h22 ⟨by omega, by omega⟩)
  have e8238 : ¬ a = 8238 := (fun e => h23 ⟨by omega, by omega⟩)
  have e8294 : ¬ a = 8294 := (fun e => h24 ⟨by omega, by omega⟩)
  have e8295 : ¬ a = 8295 := (fun e => h25 ⟨by omega, by omega⟩)
  have e8296 : ¬ a = 8296 := (fun e => h26 ⟨by omega, by omega⟩)
  have e8297 : ¬ a = 8297 := (fun e => h27 ⟨by omega, by omega⟩)
  have e46 : ¬ a = 46 := (fun e => h7 ⟨by omega, by omega⟩)
  have e47 : ¬ a = 47 := (fun e => h7 ⟨by omega, by omega⟩)
  have g1 : ¬ (8234 ≤ a ∧ a ≤ 8238) := by clear h1 h2 h3 h4 h5 h6 h7 h8 h9 h10 h11 h12 h13 h14 h15 h16 h17 h18 h19 h20 h21 h22 h23 h24 h25 h26 h27 h28; omega
  have g2 : ¬ (8294 ≤ a ∧ a ≤ 8297) := by clear h1 h2 h3 h4 h5 h6 h7 h8 h9 h10 h11 h12 h13 h14 h15 h16 h17 h18 h19 h20 h21 h22 h23 h24 h25 h26 h27 h28 g1; omega
  unfold bidi
  simp only [h1, h2, h3, h4, h5, h6, h7, h8, h9, h10, h11, h12, h13, h14, h15, h16, h17, h18, h19, h20, h21, h22, h23, h24, h25, h26, h27, h28, e43, e45, e44, e58, e8203, e8205, e173, e9, e32, e46, e47, g1, g2, or_self, if_false, ↓reduceIte]
theorem implBidi (a : Int) : impl_RuneBidi.f a = some (bidi a) := by
  unfold impl_RuneBidi.f impl_bidiReaches.f impl_find.f
  simp only [Option.bind_some]
  rw [if_pos ⟨by decide, by decide⟩]
  simp only [Option.bind_some, Option.some.injEq]
  apply lookR_is
  · intro x hx hh
    unfold hitR at hh
    simp only [List.mem_cons, List.not_mem_nil, or_false] at hx
    simp only [Bool.and_eq_true, decide_eq_true_eq] at hh
    obtain ⟨h1, h2⟩ := hh
    unfold bidi
    rcases hx with rfl | rfl | rfl | rfl | rfl | rfl | rfl | rfl | rfl | rfl | rfl | rfl | rfl | rfl | rfl | rfl | rfl | rfl | rfl | rfl | rfl | rfl | rfl | rfl | rfl | rfl | rfl | rfl
    all_goals
      simp only [] at h1 h2 ⊢
      simp (disch := omega) only [if_pos, if_neg]
      try omega
  · intro hn
    simp only [List.mem_cons, List.not_mem_nil, or_false, forall_eq_or_imp, forall_eq, hitR, Bool.and_eq_false_iff, decide_eq_false_iff_not, ← Classical.not_and_iff_not_or_not] at hn
    obtain ⟨h1, h2, h3, h4, h5, h6, h7, h8, h9, h10, h11, h12, h13, h14, h15, h16, h17, h18, h19, h20, h21, h22, h23, h24, h25, h26, h27, h28⟩ := hn
    exact (bidi_none h1 h2 h3 h4 h5 h6 h7 h8 h9 h10 h11 h12 h13 h14 h15 h16 h17 h18 h19 h20 h21 h22 h23 h24 h25 h26 h27 h28).symm

/-! the class of a letter -/

/-! lists, place by place: what lies ahead of a place, the place, what lies behind -/
theorem getD_mid {α : Type} (pre : List α) (x : α) (suf : List α) (d : α) : (pre ++ x :: suf).getD ((pre.length : Int)).toNat d = x := by
  rw [Int.toNat_natCast, List.getD_eq_getElem?_getD]
  simp
theorem set_mid {α : Type} (pre : List α) (x y : α) (suf : List α) : (pre ++ x :: suf).set ((pre.length : Int)).toNat y = pre ++ y :: suf := by
  rw [Int.toNat_natCast]
  simp
theorem rd_mid (pre : List Int) (x : Int) (suf : List Int) : rd (pre ++ x :: suf) (pre.length : Int) = x := getD_mid pre x suf 0
theorem len_mid {α : Type} (pre : List α) (x : α) (suf : List α) : (pre.length : Int) < ((pre ++ x :: suf).length : Int) := by
  simp only [List.length_append, List.length_cons]
  omega
theorem len_end {α : Type} (pre : List α) : ¬ (pre.length : Int) < ((pre ++ []).length : Int) := by simp
theorem len_snoc {α : Type} (pre : List α) (x : α) : ((pre ++ [x]).length : Int) = (pre.length : Int) + 1 := by simp
theorem app_cons {α : Type} (pre : List α) (x : α) (suf : List α) : pre ++ x :: suf = (pre ++ [x]) ++ suf := by simp
theorem w64_len {n : Int} (h0 : 0 ≤ n) (h : n ≤ 9000000000000000000) : wrap64 (n + 1) = n + 1 := w64 (by omega) (by omega)

theorem and_ite {α : Type} {p q : Prop} [Decidable p] [Decidable q] (x y : α) : (if p ∧ q then x else y) = if p then (if q then x else y) else y := by
  by_cases h1 : p <;> by_cases h2 : q <;> simp [h1, h2]
theorem dup_ite {α : Type} {p : Prop} [Decidable p] (x y z : α) : (if p then (if p then x else y) else z) = if p then x else z := by
  by_cases h1 : p <;> simp [h1]

/-- letters that may be clustered -/
def okT (l : List Int) : Bool := decide ((l.length : Int) ≤ 80) && l.all isL
theorem implLettersOk (l : List Int) : impl_lettersOk.f l = some (okT l) := by
  unfold impl_lettersOk.f okT
  congr 2
  induction l with
  | nil => rfl
  | cons x r ih => simp only [List.any_cons, List.all_cons, Bool.not_or, Bool.not_not, ih]
theorem specSize (x : Int) : ∃ n, spec_l1Size.f x = some n ∧ (n = 0 ↔ isL x = false) := by
  unfold spec_l1Size.f isL
  simp only [specIn, Option.bind_some, decide_eq_true_eq]
  by_cases h1 : 0 ≤ x ∧ x ≤ 127
  · exact ⟨1, by rw [if_pos h1], by simp; omega⟩
  by_cases h2 : 128 ≤ x ∧ x ≤ 2047
  · exact ⟨2, by rw [if_neg h1, if_pos h2], by simp; omega⟩
  by_cases h3 : 55296 ≤ x ∧ x ≤ 57343
  · exact ⟨0, by rw [if_neg h1, if_neg h2, if_pos h3], by simp; omega⟩
  by_cases h4 : 2048 ≤ x ∧ x ≤ 65535
  · exact ⟨3, by rw [if_neg h1, if_neg h2, if_neg h3, if_pos h4], by simp; omega⟩
  by_cases h5 : 65536 ≤ x ∧ x ≤ 1114111
  · exact ⟨4, by rw [if_neg h1, if_neg h2, if_neg h3, if_neg h4, if_pos h5], by simp; omega⟩
  · exact ⟨0, by rw [if_neg h1, if_neg h2, if_neg h3, if_neg h4, if_neg h5], by simp; omega⟩
theorem okT_len {l : List Int} (h : okT l = true) : l.length ≤ 80 := by
  unfold okT at h
  simp only [Bool.and_eq_true, decide_eq_true_eq] at h
  omega

theorem specL1Ok_l0 : ∀ (suf pre : List Int) (k : Nat), (pre ++ suf).length ≤ 1048576 → suf.length + 1 ≤ k →
    spec_l1Ok.l0 k (pre ++ suf) (pre.length : Int) = some (decide (((pre ++ suf).length : Int) ≤ 80) && suf.all isL)
  | [], pre, k, hl, hk => by
    obtain ⟨k, rfl⟩ : ∃ m, k = m + 1 := ⟨k - 1, by simp at hk; omega⟩
    simp only [spec_l1Ok.l0]
    rw [if_neg (len_end pre)]
    simp
  | x :: suf, pre, k, hl, hk => by
    obtain ⟨k, rfl⟩ : ∃ m, k = m + 1 := ⟨k - 1, by simp at hk; omega⟩
    have hp : (pre.length : Int) ≤ 1048576 := by simp at hl; omega
    have ih := specL1Ok_l0 suf (pre ++ [x]) k (by simpa using hl) (by simp at hk; omega)
    rw [len_snoc, ← app_cons] at ih
    obtain ⟨n, e, hn⟩ := specSize x
    simp only [spec_l1Ok.l0]
    rw [if_pos (len_mid pre x suf), if_pos (by omega), rd_mid, e, w64_len (by omega) (by omega), ih]
    simp only [Option.bind_some, List.all_cons]
    cases h : isL x with
    | false => rw [if_pos (hn.2 h)]; simp
    | true => rw [if_neg (fun g => by rw [hn.1 g] at h; cases h)]; simp
theorem specL1Ok (l : List Int) (hl : l.length ≤ 1048576) (k : Nat) (hk : l.length + 1 ≤ k) : spec_l1Ok.f k l = some (okT l) := specL1Ok_l0 l [] k (by simpa using hl) hk

def reg (x : Int) : Prop := 127462 ≤ x ∧ x ≤ 127487
instance (x : Int) : Decidable (reg x) := by unfold reg; infer_instance
/-- the state behind a letter: 0 at the start, 1 behind 13, 2 behind 10, 3 and 4 behind an odd and an even flag letter, 5 behind others -/
def nx (s x : Int) : Int := if x = 13 then 1 else if x = 10 then 2 else if reg x then (if s = 3 then 4 else 3) else 5
def jn (s x : Int) : Bool := if s = 0 then false else if s = 2 ∨ x = 10 then decide (s = 1 ∧ x = 10) else if bidi x = 9 ∨ x = 8205 then true else if reg x then decide (s = 3) else false
def joinGo : Int → List Int → List Bool
  | _, [] => []
  | s, x :: r => jn s x :: joinGo (nx s x) r
def st (l : List Int) : Int := l.foldl nx 0
def tr (l : List Int) : Nat := l.foldl (fun n y => if reg y then n + 1 else 0) 0
def jb (l : List Int) : List Bool := joinGo 0 l
theorem st_snoc (q : List Int) (y : Int) : st (q ++ [y]) = nx (st q) y := by simp [st]
theorem tr_snoc (q : List Int) (y : Int) : tr (q ++ [y]) = if reg y then tr q + 1 else 0 := by simp [tr]
theorem snoc_cases (l : List Int) : l = [] ∨ ∃ q y, l = q ++ [y] := by
  rcases List.eq_nil_or_concat l with h | ⟨q, t, h⟩
  · exact .inl h
  · exact .inr ⟨q, t, by simpa using h⟩
theorem st3 : ∀ (n : Nat) (l : List Int), l.length = n → (st l = 3 ↔ tr l % 2 = 1)
  | 0, l, h => by
    obtain rfl := List.eq_nil_of_length_eq_zero h
    simp [st, tr]
  | n + 1, l, h => by
    rcases snoc_cases l with rfl | ⟨q, y, rfl⟩
    · simp at h
    · have ih := st3 n q (by simpa using h)
      rw [st_snoc, tr_snoc]
      unfold nx
      by_cases hr : reg y
      · have h13 : ¬ y = 13 := by unfold reg at hr; omega
        have h10 : ¬ y = 10 := by unfold reg at hr; omega
        rw [if_neg h13, if_neg h10, if_pos hr, if_pos hr]
        by_cases h3 : st q = 3
        · have := ih.1 h3
          rw [if_pos h3]
          omega
        · have : ¬ tr q % 2 = 1 := fun h => h3 (ih.2 h)
          rw [if_neg h3]
          omega
      · rw [if_neg hr, if_neg hr]
        repeat' split
        all_goals simp
theorem joinGo_len : ∀ (l : List Int) (s : Int), (joinGo s l).length = l.length
  | [], _ => rfl
  | x :: r, s => by simp [joinGo, joinGo_len r]
theorem joinGo_append : ∀ (a b : List Int) (s : Int), joinGo s (a ++ b) = joinGo s a ++ joinGo (a.foldl nx s) b
  | [], b, s => rfl
  | x :: a, b, s => by simp [joinGo, joinGo_append a b]
theorem jb_at (pre : List Int) (x : Int) (suf : List Int) : (jb (pre ++ x :: suf)).getD pre.length false = jn (st pre) x := by
  unfold jb
  rw [joinGo_append, List.getD_eq_getElem?_getD, List.getElem?_append_right (by rw [joinGo_len]; exact Nat.le_refl _), joinGo_len]
  simp [joinGo, st]
theorem jb_len (l : List Int) : (jb l).length = l.length := joinGo_len l 0
theorem jb_zero (l : List Int) : (jb l).getD 0 false = false := by
  cases l with
  | nil => rfl
  | cons x r => simp [jb, joinGo, jn]
theorem implJoins (s x : Int) (k : Nat) (hk : 1 ≤ k) : impl_joining_joins.f k s x = some (jn s x) := by
  obtain ⟨k, rfl⟩ : ∃ m, k = m + 1 := ⟨k - 1, by omega⟩
  unfold impl_joining_joins.f jn
  simp only [impl_joining_joins.j0, implBidi, impl_isRegional.f, Option.bind_some, beq_iff_eq]
  generalize bidi x = c
  unfold reg
  by_cases h0 : s = 0
  · simp [h0]
  by_cases h2 : s = 2
  · subst h2
    simp
  by_cases h10 : x = 10
  · subst h10
    by_cases h1 : s = 1 <;> simp [h0, h1, h2]
  by_cases h9 : c = 9
  · simp [h0, h2, h10, h9]
  by_cases h8 : x = 8205
  · subst h8
    simp [h0, h2, h9]
  by_cases g1 : 127462 ≤ x <;> by_cases g2 : x ≤ 127487 <;> simp [h0, h2, h10, h9, h8, g1, g2] <;> (try (by_cases h3 : s = 3 <;> simp [h3]))
theorem implNext (s x : Int) (k : Nat) (hk : 1 ≤ k) : impl_joining_next.f k s x = some (nx s x) := by
  obtain ⟨k, rfl⟩ : ∃ m, k = m + 1 := ⟨k - 1, by omega⟩
  unfold impl_joining_next.f nx
  simp only [impl_joining_next.j0, impl_isRegional.f, Option.bind_some]
  by_cases h13 : x = 13
  · rw [if_pos h13, if_pos h13]
  by_cases h10 : x = 10
  · rw [if_neg h13, if_neg h13, if_pos h10, if_pos h10]
  rw [if_neg h13, if_neg h13, if_neg h10, if_neg h10]
  unfold reg
  by_cases g1 : 127462 ≤ x <;> by_cases g2 : x ≤ 127487 <;> by_cases h3 : s = 3 <;> simp [g1, g2, h3]
theorem implJoined_l0 : ∀ (suf pre : List Int) (out : List Bool) (s : Int) (k : Nat), (pre ++ suf).length ≤ 1048576 → out.length = pre.length → suf.length + 2 ≤ k →
    impl_joined.l0 k out s (pre ++ suf) ((pre ++ suf).length : Int) (pre.length : Int) = some (out ++ joinGo s suf)
  | [], pre, out, s, k, hl, ho, hk => by
    obtain ⟨k, rfl⟩ : ∃ m, k = m + 1 := ⟨k - 1, by simp at hk; omega⟩
    simp only [impl_joined.l0, joinGo]
    rw [if_neg (len_end pre)]
    simp
  | x :: suf, pre, out, s, k, hl, ho, hk => by
    obtain ⟨k, rfl⟩ : ∃ m, k = m + 1 := ⟨k - 1, by simp at hk; omega⟩
    have hp : (pre.length : Int) ≤ 1048576 := by simp at hl; omega
    have ih := implJoined_l0 suf (pre ++ [x]) (out ++ [jn s x]) (nx s x) k (by simpa using hl) (by simp [ho]) (by simp at hk; omega)
    rw [len_snoc, ← app_cons] at ih
    simp only [impl_joined.l0, joinGo]
    rw [if_pos (len_mid pre x suf), if_pos (by omega), if_pos (len_mid pre x suf), rd_mid, implJoins s x k (by simp at hk; omega), implNext s x k (by simp at hk; omega)]
    simp only [Option.bind_some]
    rw [if_pos (by omega), w64_len (by omega) (by omega), ih]
    simp
theorem implJoined (l : List Int) (hl : l.length ≤ 1048576) (k : Nat) (hk : l.length + 2 ≤ k) : impl_joined.f k l = some (jb l) := implJoined_l0 l [] [] 0 k (by simpa using hl) rfl hk
theorem specFlag (x : Int) : spec_l2Flag.f x = some (decide (reg x)) := by
  unfold spec_l2Flag.f reg
  rw [specIn]
  rfl
theorem par (m : Nat) : (((m : Nat) : Int) % 2 == 1) = decide (m % 2 = 1) := by
  rw [Bool.eq_iff_iff, beq_iff_eq, decide_eq_true_eq]
  omega
theorem specJoins_l0 (x : Int) : ∀ (n : Nat) (pre suf : List Int) (c : Nat) (k : Nat), pre.length = n → n ≤ 1048576 → c + n ≤ 3000000 → n + 1 ≤ k →
    spec_l2Joins.l0 k (pre ++ suf) x (c : Int) ((pre.length : Int) - 1) = some (decide (reg x) && decide ((c + tr pre) % 2 = 1))
  | 0, pre, suf, c, k, hn, hl, hc, hk => by
    obtain ⟨k, rfl⟩ : ∃ m, k = m + 1 := ⟨k - 1, by omega⟩
    obtain rfl := List.eq_nil_of_length_eq_zero hn
    simp only [spec_l2Joins.l0]
    rw [if_neg (by simp), specFlag]
    simp only [Option.bind_some, decide_eq_true_eq]
    by_cases h : reg x
    · rw [if_pos h, Int.tmod_eq_emod_of_nonneg (by omega)]
      show some ((c : Int) % 2 == 1) = some (decide (reg x) && decide ((c + 0) % 2 = 1))
      rw [decide_eq_true h, Bool.true_and, Nat.add_zero, par]
    · rw [if_neg h]
      simp [h]
  | n + 1, pre, suf, c, k, hn, hl, hc, hk => by
    obtain ⟨k, rfl⟩ : ∃ m, k = m + 1 := ⟨k - 1, by omega⟩
    rcases snoc_cases pre with rfl | ⟨q, y, rfl⟩
    · simp at hn
    have hq : q.length = n := by simpa using hn
    have ih := specJoins_l0 x n q (y :: suf) (c + 1) k hq (by omega) (by omega) (by omega)
    have e1 : ((q ++ [y]).length : Int) - 1 = (q.length : Int) := by simp
    have e2 : (q ++ [y]) ++ suf = q ++ y :: suf := by simp
    simp only [spec_l2Joins.l0]
    rw [e1, e2, if_pos (by omega), if_pos (by omega), if_pos (len_mid q y suf), rd_mid, specFlag, specFlag]
    simp only [Option.bind_some, decide_eq_true_eq]
    rw [tr_snoc]
    by_cases hy : reg y
    · rw [if_pos hy, if_pos hy, w64 (by omega) (by omega), w64 (by omega) (by omega)]
      have e3 : (c : Int) + 1 = ((c + 1 : Nat) : Int) := by omega
      rw [e3, ih, show c + (tr q + 1) = c + 1 + tr q by omega]
    · rw [if_neg hy, if_neg hy]
      by_cases h : reg x
      · rw [if_pos h, Int.tmod_eq_emod_of_nonneg (by omega), decide_eq_true h, Bool.true_and, Nat.add_zero, par]
      · rw [if_neg h]
        simp [h]
theorem specJoins_mid (pre : List Int) (x : Int) (suf : List Int) (hne : pre ≠ []) (hl : pre.length ≤ 1048576) (k : Nat) (hk : pre.length + 60 ≤ k) : spec_l2Joins.f k (pre ++ x :: suf) (pre.length : Int) = some (jn (st pre) x) := by
  obtain ⟨k, rfl⟩ : ∃ m, k = m + 2 := ⟨k - 2, by omega⟩
  rcases snoc_cases pre with rfl | ⟨q, y, rfl⟩
  · exact absurd rfl hne
  have hq : q.length + 1 ≤ 1048576 := by simpa using hl
  have hk' : q.length + 59 ≤ k := by simp at hk; omega
  have e1 : wrap64 (((q ++ [y]).length : Int) - 1) = (q.length : Int) := by rw [w64 (by simp only [List.length_append, List.length_singleton]; omega) (by simp only [List.length_append, List.length_singleton]; omega)]; simp
  have e2 : rd ((q ++ [y]) ++ x :: suf) (q.length : Int) = y := by rw [List.append_assoc]; exact rd_mid q y _
  have e4 : (q.length : Int) < (((q ++ [y]) ++ x :: suf).length : Int) := by simp; omega
  have e5 : ((q ++ [y]).length : Int) - 1 = (q.length : Int) := by simp
  have hlp := specJoins_l0 x (q ++ [y]).length (q ++ [y]) (x :: suf) 0 k rfl hl (by omega) (by simp; omega)
  rw [e5] at hlp
  have h3 := st3 (q ++ [y]).length (q ++ [y]) rfl
  have hs1 : st (q ++ [y]) = 1 ↔ y = 13 := by
    rw [st_snoc]; unfold nx
    constructor
    · intro h; by_cases g : y = 13
      · exact g
      · rw [if_neg g] at h; repeat' split at h
        all_goals omega
    · intro h; rw [if_pos h]
  have hs2 : st (q ++ [y]) = 2 ↔ y = 10 := by
    rw [st_snoc]; unfold nx
    constructor
    · intro h; by_cases g : y = 10
      · exact g
      · rw [if_neg g] at h; repeat' split at h
        all_goals omega
    · intro h; subst h; simp
  have hs0 : ¬ st (q ++ [y]) = 0 := by
    rw [st_snoc]; unfold nx
    repeat' split
    all_goals omega
  unfold spec_l2Joins.f
  rw [if_pos (by omega), if_pos (len_mid _ x suf), rd_mid]
  unfold jn
  rw [if_neg hs0]
  by_cases hx : x = 10
  · rw [if_pos hx, if_pos (.inr hx)]
    simp only [spec_l2Joins.j0, if_true]
    rw [e1, if_pos (by omega), if_pos e4, e2]
    by_cases hy : y = 13
    · rw [if_pos hy]
      simp [hs1.2 hy, hx]
    · rw [if_neg hy]
      have : ¬ st (q ++ [y]) = 1 := fun h => hy (hs1.1 h)
      simp [this]
  rw [if_neg hx, e1, if_pos (by omega), if_pos e4, e2]
  simp only [spec_l2Joins.j0]
  rw [e1, if_pos (show (0 : Int) ≤ (q.length : Int) by omega), if_pos e4, e2]
  by_cases hy : y = 10
  · subst hy
    rw [if_pos (by simp), if_neg (by omega), if_pos (.inl (hs2.2 rfl))]
    simp [hx]
  have hy2 : ¬ st (q ++ [y]) = 2 := fun h => hy (hs2.1 h)
  rw [if_neg (by simpa using hy), if_neg (by omega), specBidi x _ (by omega)]
  simp only [Option.bind_some, spec_l2Joins.j1, if_true]
  rw [e1]
  by_cases h9 : bidi x = 9
  · rw [if_pos h9, if_pos (.inl h9)]
  rw [if_neg h9]
  by_cases h8 : x = 8205
  · rw [if_pos (by simp [h8]), if_pos (.inr h8)]
  have hlp' : spec_l2Joins.l0 k ((q ++ [y]) ++ x :: suf) x 0 (q.length : Int) = some (decide (reg x) && decide (st (q ++ [y]) = 3)) := by
    refine hlp.trans ?_
    congr 2
    rw [decide_eq_decide, h3, Nat.zero_add]
  rw [if_neg (by simpa using h8), if_neg (by omega), hlp']
  by_cases hr : reg x <;> simp [hr]
theorem split_at (l : List Int) (n : Nat) (h : n < l.length) : ∃ x, l = l.take n ++ x :: l.drop (n + 1) ∧ (l.take n).length = n := by
  refine ⟨l[n], ?_, by simp; omega⟩
  rw [← List.drop_eq_getElem_cons h, List.take_append_drop]
theorem specJoins_at (l : List Int) (n : Nat) (h1 : 1 ≤ n) (h2 : n < l.length) (hl : l.length ≤ 1048576) (k : Nat) (hk : l.length + 60 ≤ k) : spec_l2Joins.f k l (n : Int) = some ((jb l).getD n false) := by
  obtain ⟨x, e, hn⟩ := split_at l n h2
  have hne : l.take n ≠ [] := fun h => by rw [h] at hn; simp at hn; omega
  have h3 := specJoins_mid (l.take n) x (l.drop (n + 1)) hne (by omega) k (by omega)
  have h4 := jb_at (l.take n) x (l.drop (n + 1))
  rw [← e, hn] at h3 h4
  rw [h3, h4]

def lsign (a : Int) : Int :=
  if a = 40 ∨ a = 91 ∨ a = 123 then 8 else if a = 41 ∨ a = 93 ∨ a = 125 then 9 else if a = 33 ∨ a = 63 then 10 else if a = 34 then 11
  else if a = 45 then 12 else if a = 44 ∨ a = 46 ∨ a = 58 ∨ a = 59 ∨ a = 47 then 13 else if a = 9 ∨ a = 173 then 14 else 1
/-- the class of a letter for the line -/
def lineC (a : Int) : Int :=
  if a = 10 then 4 else if a = 32 then 3 else if a = 160 then 5 else if a = 8203 then 6 else if bidi a = 9 ∨ a = 8205 ∨ 14 ≤ bidi a then 7
  else if (48 ≤ a ∧ a ≤ 57) ∨ (1632 ≤ a ∧ a ≤ 1641) then 2 else if 19968 ≤ a ∧ a ≤ 40959 then 15 else lsign a
theorem specLSigns (a : Int) (k : Nat) (hk : 20 ≤ k) : spec_l5Signs.f k a = some (lsign a) := by
  obtain ⟨k, rfl⟩ : ∃ m, k = m + 20 := ⟨k - 20, by omega⟩
  unfold spec_l5Signs.f lsign
  simp only [spec_l5Signs.j0, spec_l5Signs.j1, spec_l5Signs.j2, spec_l5Signs.j3, Option.bind_some, beq_iff_eq]
  simp only [dup_ite, or_ite, apply_ite some]
theorem specLine (a : Int) (k : Nat) (hk : 40 ≤ k) : spec_RuneLine.f k a = some (lineC a) := by
  obtain ⟨k, rfl⟩ : ∃ m, k = m + 40 := ⟨k - 40, by omega⟩
  unfold spec_RuneLine.f lineC
  rw [specBidi a _ (by omega)]
  generalize bidi a = c
  simp only [spec_RuneLine.j0, spec_RuneLine.j1, specIn, specLSigns a _ (show 20 ≤ k + 38 by omega), Option.bind_some, decide_eq_true_eq, if_true, ↓reduceIte, ge_iff_le]
  simp only [or_ite, apply_ite some]
theorem line_none {a : Int} (hb : ¬ bidi a = 9) (hb' : ¬ 14 ≤ bidi a) (h1 : ¬ (9 ≤ a ∧ a ≤ 9)) (h2 : ¬ (10 ≤ a ∧ a ≤ 10)) (h3 : ¬ (32 ≤ a ∧ a ≤ 32)) (h4 : ¬ (33 ≤ a ∧ a ≤ 33)) (h5 : ¬ (34 ≤ a ∧ a ≤ 34)) (h6 : ¬ (40 ≤ a ∧ a ≤ 40)) (h7 : ¬ (41 ≤ a ∧ a ≤ 41)) (h8 : ¬ (44 ≤ a ∧ a ≤ 44)) (h9 : ¬ (45 ≤ a ∧ a ≤ 45)) (h10 : ¬ (46 ≤ a ∧ a ≤ 47)) (h11 : ¬ (48 ≤ a ∧ a ≤ 57)) (h12 : ¬ (58 ≤ a ∧ a ≤ 59)) (h13 : ¬ (63 ≤ a ∧ a ≤ 63)) (h14 : ¬ (91 ≤ a ∧ a ≤ 91)) (h15 : ¬ (93 ≤ a ∧ a ≤ 93)) (h16 : ¬ (123 ≤ a ∧ a ≤ 123)) (h17 : ¬ (125 ≤ a ∧ a ≤ 125)) (h18 : ¬ (160 ≤ a ∧ a ≤ 160)) (h19 : ¬ (173 ≤ a ∧ a ≤ 173)) (h20 : ¬ (1632 ≤ a ∧ a ≤ 1641)) (h21 : ¬ (8203 ≤ a ∧ a ≤ 8203)) (h22 : ¬ (8205 ≤ a ∧ a ≤ 8205)) (h23 : ¬ (19968 ≤ a ∧ a ≤ 40959)) : lineC a = 1 := by
  have g : ∀ z : Int, ¬ (z ≤ a ∧ a ≤ z) → ¬ a = z := fun z h e => h ⟨by omega, by omega⟩
  have e46 : ¬ a = 46 := fun e => h10 ⟨by omega, by omega⟩
  have e47 : ¬ a = 47 := fun e => h10 ⟨by omega, by omega⟩
  have e58 : ¬ a = 58 := fun e => h12 ⟨by omega, by omega⟩
  have e59 : ¬ a = 59 := fun e => h12 ⟨by omega, by omega⟩
  unfold lineC lsign
  simp only [hb, hb', g 9 h1, g 10 h2, g 32 h3, g 33 h4, g 34 h5, g 40 h6, g 41 h7, g 44 h8, g 45 h9, e46, e47, h11, e58, e59, g 63 h13, g 91 h14, g 93 h15, g 123 h16, g 125 h17, g 160 h18, g 173 h19, h20, g 8203 h21, g 8205 h22, h23, or_self, if_false, ↓reduceIte]
theorem implLine (a : Int) (k : Nat) (hk : 2 ≤ k) : impl_RuneLine.f k a = some (lineC a) := by
  obtain ⟨k, rfl⟩ : ∃ m, k = m + 2 := ⟨k - 2, by omega⟩
  unfold impl_RuneLine.f
  rw [implBidi a]
  simp only [impl_RuneLine.j0, Option.bind_some, decide_eq_true_eq, ge_iff_le, if_true]
  by_cases hb : bidi a = 9 ∨ 14 ≤ bidi a
  · have n10 : ¬ a = 10 := by rintro rfl; exact absurd hb (by decide)
    have n32 : ¬ a = 32 := by rintro rfl; exact absurd hb (by decide)
    have n160 : ¬ a = 160 := by rintro rfl; exact absurd hb (by decide)
    have n8203 : ¬ a = 8203 := by rintro rfl; exact absurd hb (by decide)
    have e : lineC a = 7 := by
      unfold lineC
      rw [if_neg n10, if_neg n32, if_neg n160, if_neg n8203, if_pos (by omega)]
    rw [e]
    rcases hb with h | h
    · rw [if_pos h]
    · rw [if_neg (by omega), if_pos h]
  have hb9 : ¬ bidi a = 9 := fun h => hb (.inl h)
  have hb14 : ¬ 14 ≤ bidi a := fun h => hb (.inr h)
  rw [if_neg hb9, if_neg hb14]
  unfold impl_lineReaches.f impl_find.f
  simp only [Option.bind_some]
  rw [if_pos ⟨by decide, by decide⟩]
  simp only [Option.bind_some, Option.some.injEq]
  clear hb
  apply lookR_is
  · intro x hx hh
    unfold hitR at hh
    simp only [List.mem_cons, List.not_mem_nil, or_false] at hx
    simp only [Bool.and_eq_true, decide_eq_true_eq] at hh
    obtain ⟨h1, h2⟩ := hh
    generalize hc : bidi a = c at hb9 hb14
    unfold lineC lsign
    rw [hc]
    clear hc
    rcases hx with rfl | rfl | rfl | rfl | rfl | rfl | rfl | rfl | rfl | rfl | rfl | rfl | rfl | rfl | rfl | rfl | rfl | rfl | rfl | rfl | rfl | rfl | rfl
    all_goals
      simp only [] at h1 h2 ⊢
      simp (disch := omega) only [if_pos, if_neg]
      try omega
  · intro hn
    simp only [List.mem_cons, List.not_mem_nil, or_false, forall_eq_or_imp, forall_eq, hitR, Bool.and_eq_false_iff, decide_eq_false_iff_not, ← Classical.not_and_iff_not_or_not] at hn
    obtain ⟨h1, h2, h3, h4, h5, h6, h7, h8, h9, h10, h11, h12, h13, h14, h15, h16, h17, h18, h19, h20, h21, h22, h23⟩ := hn
    exact (line_none hb9 hb14 h1 h2 h3 h4 h5 h6 h7 h8 h9 h10 h11 h12 h13 h14 h15 h16 h17 h18 h19 h20 h21 h22 h23).symm

def cnt (p x : Int) : Int := if lineC x = 7 then (if p = 3 ∨ p = 4 ∨ p = 6 then 1 else p) else lineC x
def countsGo : Int → List Int → List Int
  | _, [] => []
  | p, x :: r => cnt p x :: countsGo (cnt p x) r
def countsL (l : List Int) : List Int := countsGo 3 l
theorem countsGo_len : ∀ (l : List Int) (p : Int), (countsGo p l).length = l.length
  | [], _ => rfl
  | x :: r, p => by simp [countsGo, countsGo_len r]
theorem countsL_len (l : List Int) : (countsL l).length = l.length := countsGo_len l 3
theorem implAfter (a : Int) (k : Nat) (hk : 30 ≤ k) : impl_afterSpace.f k a = some (decide (a = 3 ∨ a = 4 ∨ a = 6)) := by
  unfold impl_afterSpace.f
  rw [oneOf_eq a _ (by decide) k hk]
  simp [oneB]
theorem rd_last (out : List Int) (h : out ≠ []) : rd out ((out.length : Int) - 1) = (out.getLast?).getD 3 := by
  rcases snoc_cases out with rfl | ⟨q, y, rfl⟩
  · exact absurd rfl h
  · have e : ((q ++ [y]).length : Int) - 1 = (q.length : Int) := by simp
    rw [e, rd_mid q y []]
    simp
theorem implCounts_l0 : ∀ (suf pre out : List Int) (k : Nat), (pre ++ suf).length ≤ 1000000 → out.length = pre.length → suf.length + 60 ≤ k →
    impl_countsOf.l0 k out (pre ++ suf) ((pre ++ suf).length : Int) (pre.length : Int) = some (out ++ countsGo ((out.getLast?).getD 3) suf)
  | [], pre, out, k, hl, ho, hk => by
    obtain ⟨k, rfl⟩ : ∃ m, k = m + 1 := ⟨k - 1, by simp at hk; omega⟩
    simp only [impl_countsOf.l0, countsGo]
    rw [if_neg (len_end pre)]
    simp
  | x :: suf, pre, out, k, hl, ho, hk => by
    obtain ⟨k, rfl⟩ : ∃ m, k = m + 1 := ⟨k - 1, by simp at hk; omega⟩
    have hk' : suf.length + 60 ≤ k := by simp at hk; omega
    have hp : pre.length ≤ 1000000 := by simp at hl; omega
    have ih := fun y => implCounts_l0 suf (pre ++ [x]) (out ++ [y]) k (by simpa using hl) (by simp [ho]) hk'
    simp only [len_snoc, ← app_cons, List.getLast?_concat, Option.getD_some, List.append_assoc, List.singleton_append] at ih
    simp only [impl_countsOf.l0, countsGo]
    rw [if_pos (len_mid pre x suf), if_pos (by omega), if_pos (len_mid pre x suf), rd_mid, implLine x k (by omega), w64_len (by omega) (by omega)]
    simp only [Option.bind_some]
    unfold cnt
    by_cases h7 : lineC x = 7
    · rw [if_pos h7, if_pos h7]
      by_cases h0 : (pre.length : Int) > 0
      · have hne : out ≠ [] := by rintro rfl; simp at ho; omega
        rw [if_pos h0, w64 (by omega) (by omega), if_pos (by omega), if_pos (by omega), ← ho, rd_last out hne, implAfter _ k (by omega)]
        simp only [Option.bind_some, decide_eq_true_eq]
        by_cases h3 : (out.getLast?).getD 3 = 3 ∨ (out.getLast?).getD 3 = 4 ∨ (out.getLast?).getD 3 = 6
        · rw [if_pos h3, if_pos h3, if_pos (by omega), ho, ih]
        · rw [if_neg h3, if_neg h3, if_pos (by omega), ho, ih]
      · have hn : out = [] := List.eq_nil_of_length_eq_zero (by omega)
        rw [if_neg h0, if_pos (by omega), ih, hn]
        rfl
    · rw [if_neg h7, if_neg h7, if_pos (by omega), ih]
theorem implCounts (l : List Int) (hl : l.length ≤ 1000000) (k : Nat) (hk : l.length + 60 ≤ k) : impl_countsOf.f k l = some (countsL l) := implCounts_l0 l [] [] k (by simpa using hl) rfl hk
theorem specCounts_l0 : ∀ (suf pre out : List Int) (k : Nat), (pre ++ suf).length ≤ 1000000 → out.length = pre.length → suf.length + 60 ≤ k →
    spec_l5Counts.l0 k (pre ++ suf) out (pre.length : Int) = some (out ++ countsGo ((out.getLast?).getD 3) suf)
  | [], pre, out, k, hl, ho, hk => by
    obtain ⟨k, rfl⟩ : ∃ m, k = m + 1 := ⟨k - 1, by simp at hk; omega⟩
    simp only [spec_l5Counts.l0, countsGo]
    rw [if_neg (len_end pre)]
    simp
  | x :: suf, pre, out, k, hl, ho, hk => by
    obtain ⟨k, rfl⟩ : ∃ m, k = m + 1 := ⟨k - 1, by simp at hk; omega⟩
    have hk' : suf.length + 60 ≤ k := by simp at hk; omega
    have hp : pre.length ≤ 1000000 := by simp at hl; omega
    have ih := fun y => specCounts_l0 suf (pre ++ [x]) (out ++ [y]) k (by simpa using hl) (by simp [ho]) hk'
    simp only [len_snoc, ← app_cons, List.getLast?_concat, Option.getD_some, List.append_assoc, List.singleton_append] at ih
    simp only [spec_l5Counts.l0, countsGo]
    rw [if_pos (len_mid pre x suf), if_pos (by omega), rd_mid, specLine x k (by omega), w64_len (by omega) (by omega)]
    simp only [Option.bind_some]
    unfold cnt
    by_cases h7 : lineC x = 7
    · rw [if_pos h7, if_pos h7]
      by_cases h0 : (pre.length : Int) > 0
      · have hne : out ≠ [] := by rintro rfl; simp at ho; omega
        rw [if_pos h0, w64 (by omega) (by omega), if_pos (by omega), if_pos (by omega), ← ho, rd_last out hne]
        generalize (out.getLast?).getD 3 = p
        by_cases h3 : p = 3
        · rw [if_pos h3, if_pos (show p = 3 ∨ p = 4 ∨ p = 6 from .inl h3), if_pos (by omega), ho, ih]
        · rw [if_neg h3]
          by_cases h4 : p = 4
          · rw [if_pos h4, if_pos (show p = 3 ∨ p = 4 ∨ p = 6 from .inr (.inl h4)), if_pos (by omega), ho, ih]
          · rw [if_neg h4]
            by_cases h6 : p = 6
            · rw [if_pos h6, if_pos (show p = 3 ∨ p = 4 ∨ p = 6 from .inr (.inr h6)), if_pos (by omega), ho, ih]
            · rw [if_neg h6, if_neg (show ¬ (p = 3 ∨ p = 4 ∨ p = 6) by omega), if_pos (by omega), ho, ih]
      · have hn : out = [] := List.eq_nil_of_length_eq_zero (by omega)
        rw [if_neg h0, if_pos (by omega), ih, hn]
        rfl
    · rw [if_neg h7, if_neg h7, if_pos (by omega), ih]
theorem specCounts (l : List Int) (hl : l.length ≤ 1000000) (k : Nat) (hk : l.length + 60 ≤ k) : spec_l5Counts.f k l = some (countsL l) := specCounts_l0 l [] [] k (by simpa using hl) rfl hk
/-- the answer between two letters whose pair no rule ahead decides -/
def inner (a b : Int) : Int := if ((a = 1 ∨ a = 2) ∧ (b = 1 ∨ b = 2)) ∨ (b = 2 ∧ (a = 12 ∨ a = 13)) ∨ (a = 13 ∧ b = 1) ∨ ((a = 1 ∨ a = 2) ∧ b = 8) ∨ (a = 9 ∧ (b = 1 ∨ b = 2)) then 0 else 1
def placeL (a b s : Int) : Int :=
  if a = 4 then 2 else if b = 4 ∨ b = 3 ∨ b = 6 then 0 else if s = 6 then 1 else if a = 5 ∨ (b = 5 ∧ ¬ (a = 3 ∨ a = 14 ∨ a = 12)) then 0
  else if ((b = 9 ∨ b = 10 ∨ b = 13) ∧ ¬ a = 3) ∨ ((b = 9 ∨ b = 10) ∧ ¬ s = 0) then 0 else if s = 8 then 0 else if a = 3 then 1 else if a = 11 ∨ b = 11 ∨ b = 14 ∨ b = 12 then 0 else inner a b
theorem specWord (a : Int) : spec_l5Word.f a = some (decide (a = 1 ∨ a = 2)) := by
  unfold spec_l5Word.f
  by_cases h : a = 1
  · simp [h]
  · rw [if_neg h]
    congr 1
    rw [Bool.eq_iff_iff]
    simp [h]
theorem specNever (a : Int) : spec_l5Never.f a = some (decide (a = 9 ∨ a = 10 ∨ a = 13)) := by
  unfold spec_l5Never.f
  by_cases h : a = 9
  · simp [h]
  · by_cases h2 : a = 10
    · simp [h2]
    · rw [if_neg h, if_neg h2]
      congr 1
      rw [Bool.eq_iff_iff]
      simp [h, h2]
theorem specInner (a b : Int) (k : Nat) (hk : 3 ≤ k) : spec_l5Inner.f k a b = some (inner a b) := by
  obtain ⟨k, rfl⟩ : ∃ m, k = m + 3 := ⟨k - 3, by omega⟩
  unfold spec_l5Inner.f inner
  simp only [spec_l5Inner.j0, spec_l5Inner.j1, spec_l5Inner.j2, specWord, Option.bind_some, decide_eq_true_eq, beq_iff_eq, Bool.false_eq_true, if_true, if_false, ↓reduceIte]
  repeat' split
  all_goals first | rfl | (exfalso; omega)
theorem specPlace (a b s : Int) (k : Nat) (hk : 8 ≤ k) : spec_l5Place.f k a b s = some (placeL a b s) := by
  obtain ⟨k, rfl⟩ : ∃ m, k = m + 3 := ⟨k - 3, by omega⟩
  have h2 : ∀ (n : Nat), 5 ≤ n → ∀ t, spec_l5Place.j2 (n + 1) a b s t = some (if t = true then 0 else if s = 8 then 0 else if a = 3 then 1 else if a = 11 ∨ b = 11 ∨ b = 14 ∨ b = 12 then 0 else inner a b) := by
    intro n hn t
    simp only [spec_l5Place.j2, specInner a b n (by omega), Option.bind_some]
    generalize inner a b = c
    repeat' split
    all_goals first | rfl | (exfalso; omega)
  have h1 : ∀ (n : Nat), 6 ≤ n → ∀ t, spec_l5Place.j1 (n + 1) a b s t = some (if t = true then 0 else if ((b = 9 ∨ b = 10 ∨ b = 13) ∧ ¬ a = 3) ∨ ((b = 9 ∨ b = 10) ∧ ¬ s = 0) then 0 else if s = 8 then 0 else if a = 3 then 1 else if a = 11 ∨ b = 11 ∨ b = 14 ∨ b = 12 then 0 else inner a b) := by
    intro n hn t
    obtain ⟨n, rfl⟩ : ∃ m, n = m + 1 := ⟨n - 1, by omega⟩
    simp only [spec_l5Place.j1, h2 n (by omega), specNever, Option.bind_some, decide_eq_true_eq, bne_iff_ne, ne_eq, Bool.false_eq_true, if_true, if_false, ↓reduceIte]
    generalize (if s = 8 then (0 : Int) else if a = 3 then 1 else if a = 11 ∨ b = 11 ∨ b = 14 ∨ b = 12 then 0 else inner a b) = c
    repeat' split
    all_goals first | rfl | (exfalso; omega)
  unfold spec_l5Place.f placeL
  obtain ⟨k, rfl⟩ : ∃ m, k = m + 5 := ⟨k - 5, by omega⟩
  simp only [spec_l5Place.j0, h1 _ (show 6 ≤ k + 6 by omega), bne_iff_ne, ne_eq, beq_iff_eq, Bool.false_eq_true, if_true, if_false, ↓reduceIte]
  generalize (if ((b = 9 ∨ b = 10 ∨ b = 13) ∧ ¬ a = 3) ∨ ((b = 9 ∨ b = 10) ∧ ¬ s = 0) then (0 : Int) else if s = 8 then 0 else if a = 3 then 1 else if a = 11 ∨ b = 11 ∨ b = 14 ∨ b = 12 then 0 else inner a b) = c
  repeat' split
  all_goals first | rfl | (exfalso; omega)
theorem verd_eq (a b s : Int) : verd a b s = placeL a b s := by
  have e : verd a b s = (if prd 0 a b s = true then (2 : Int) else if prd 1 a b s = true then 0 else if prd 2 a b s = true then 1 else if prd 3 a b s = true then 0 else if prd 4 a b s = true then 0 else if prd 5 a b s = true then 0 else if prd 6 a b s = true then 1 else if prd 7 a b s = true then 0 else if prd 8 a b s = true then 0 else if prd 9 a b s = true then 1 else 0) := rfl
  rw [e]
  unfold placeL inner
  simp only [prd, oneB, wordB, List.mem_cons, List.not_mem_nil, or_false, Bool.or_eq_true, Bool.and_eq_true, beq_iff_eq, bne_iff_ne, ne_eq, Bool.not_eq_true', decide_eq_true_eq, decide_eq_false_iff_not, if_true, ↓reduceIte]
  repeat' split
  all_goals first | rfl | (exfalso; omega)
def nxs (s a : Int) : Int := if a = 3 then s else a
def bef (l : List Int) : Int := l.foldl nxs 0
theorem bef_snoc (q : List Int) (y : Int) : bef (q ++ [y]) = nxs (bef q) y := by simp [bef]
theorem specBefore : ∀ (n : Nat) (pre suf : List Int) (k : Nat), pre.length = n → n ≤ 1000000 → n + 1 ≤ k →
    ∃ j, spec_l5Before.f k (pre ++ suf) ((pre.length : Int) - 1) = some j ∧ ((j < 0 ∧ bef pre = 0) ∨ (0 ≤ j ∧ j < (pre.length : Int) ∧ rd (pre ++ suf) j = bef pre))
  | 0, pre, suf, k, hn, hl, hk => by
    obtain ⟨k, rfl⟩ : ∃ m, k = m + 1 := ⟨k - 1, by omega⟩
    obtain rfl := List.eq_nil_of_length_eq_zero hn
    refine ⟨-1, ?_, .inl ⟨by omega, rfl⟩⟩
    unfold spec_l5Before.f
    simp [spec_l5Before.l0]
  | n + 1, pre, suf, k, hn, hl, hk => by
    obtain ⟨k, rfl⟩ : ∃ m, k = m + 1 := ⟨k - 1, by omega⟩
    rcases snoc_cases pre with rfl | ⟨q, y, rfl⟩
    · simp at hn
    have hq : q.length = n := by simpa using hn
    obtain ⟨j, h1, h2⟩ := specBefore n q (y :: suf) k hq (by omega) (by omega)
    have e1 : ((q ++ [y]).length : Int) - 1 = (q.length : Int) := by simp
    have e2 : (q ++ [y]) ++ suf = q ++ y :: suf := by simp
    have e3 : ((q ++ [y]).length : Int) = (q.length : Int) + 1 := by simp
    unfold spec_l5Before.f at h1 ⊢
    simp only [spec_l5Before.l0]
    rw [e1, e2, e3, if_pos (by omega), if_pos (by omega), if_pos (len_mid q y suf), rd_mid, bef_snoc, w64 (by omega) (by omega), h1]
    unfold nxs
    by_cases hy : y = 3
    · rw [if_pos hy, if_pos hy]
      refine ⟨j, rfl, ?_⟩
      rcases h2 with h | ⟨g1, g2, g3⟩
      · exact .inl h
      · exact .inr ⟨g1, by omega, g3⟩
    · rw [if_neg hy, if_neg hy]
      exact ⟨_, rfl, .inr ⟨by omega, by omega, rd_mid q y suf⟩⟩
def brk (a b r s : Int) (j : Bool) : Int := if j = true then 0 else if lineC r = 7 ∧ ¬ (a = 3 ∨ a = 4 ∨ a = 6) then 0 else placeL a b s
theorem brk1_eq (a b r s : Int) (j : Bool) (k : Nat) (hk : 30 ≤ k) : brk1 k a b r s j = some (brk a b r s j) := by
  unfold brk1 brk
  rw [implLine r k (by omega), implAfter a k hk, verd_eq]
  simp only [Option.bind_some, decide_eq_true_eq]
  repeat' split
  all_goals first | rfl | (exfalso; simp_all; done)
def brkL (l cs : List Int) : Int → Nat → List Int → List Int
  | _, _, [] => []
  | s, i, a :: rest => (if i + 1 = l.length then 2 else brk a (cs.getD (i + 1) 0) (l.getD (i + 1) 0) (nxs s a) ((jb l).getD (i + 1) false)) :: brkL l cs (nxs s a) (i + 1) rest
theorem brkL_len (l cs : List Int) : ∀ (suf : List Int) (s : Int) (i : Nat), (brkL l cs s i suf).length = suf.length
  | [], _, _ => rfl
  | a :: r, s, i => by simp [brkL, brkL_len l cs r]
theorem brkGo_eq (l cs : List Int) (k : Nat) (hk : 30 ≤ k) : ∀ (suf : List Int) (s : Int) (i : Nat), brkGo k l cs (jb l) s i suf = some (brkL l cs s i suf)
  | [], _, _ => rfl
  | a :: r, s, i => by
    unfold brkGo brkL
    have ih := brkGo_eq l cs k hk r (nxs s a) (i + 1)
    unfold nxs at ih ⊢
    rw [ih, brk1_eq _ _ _ _ _ k hk]
    by_cases h : i + 1 = l.length
    · rw [if_pos h, if_pos h]
      rfl
    · rw [if_neg h, if_neg h]
      rfl
def breaksL (l : List Int) : List Int := brkL l (countsL l) 0 0 (countsL l)
theorem breaksL_len (l : List Int) : (breaksL l).length = l.length := by
  unfold breaksL
  rw [brkL_len, countsL_len]
def breaksOfL (l : List Int) : List Int := if okT l = true then breaksL l else []
theorem breaksOfL_len (l : List Int) : (breaksOfL l).length ≤ 80 := by
  unfold breaksOfL
  by_cases h : okT l = true
  · rw [if_pos h, breaksL_len]
    exact okT_len h
  · rw [if_neg h]
    simp
theorem implBreaksOf (l : List Int) (k : Nat) (hk : 200 ≤ k) : impl_BreaksOf.f k l = some (breaksOfL l) := by
  unfold impl_BreaksOf.f breaksOfL
  rw [implLettersOk]
  simp only [Option.bind_some]
  by_cases h : okT l = true
  · have h80 := okT_len h
    rw [if_pos h, if_pos h]
    unfold impl_breaks.f
    rw [implCounts l (by omega) k (by omega), implJoined l (by omega) k (by omega)]
    simp only [Option.bind_some]
    rw [if_pos ⟨countsL_len l, jb_len l, by omega⟩, brkGo_eq l (countsL l) k (by omega)]
    rfl
  · rw [if_neg h, if_neg h]
theorem specBreaks_l0 (l cs : List Int) (hl : l.length ≤ 80) (hc : cs.length = l.length) : ∀ (suf pre out : List Int) (k : Nat), pre ++ suf = cs → out.length = pre.length → 2 * suf.length + 300 ≤ k →
    spec_l5Breaks.l0 k l cs out (pre.length : Int) = some (out ++ brkL l cs (bef pre) pre.length suf)
  | [], pre, out, k, he, ho, hk => by
    obtain ⟨k, rfl⟩ : ∃ m, k = m + 1 := ⟨k - 1, by simp at hk; omega⟩
    subst he
    simp only [spec_l5Breaks.l0, brkL]
    rw [if_neg (len_end pre)]
    simp
  | a :: suf, pre, out, k, he, ho, hk => by
    obtain ⟨k, rfl⟩ : ∃ m, k = m + 1 := ⟨k - 1, by simp at hk; omega⟩
    simp only [spec_l5Breaks.l0, brkL]
    obtain ⟨k, rfl⟩ : ∃ m, k = m + 1 := ⟨k - 1, by simp at hk; omega⟩
    have hk' : 2 * suf.length + 300 ≤ k := by simp at hk; omega
    have hlen : cs.length = pre.length + (suf.length + 1) := by rw [← he]; simp
    have ihA := fun y => specBreaks_l0 l cs hl hc suf (pre ++ [a]) (out ++ [y]) (k + 1) (by rw [← app_cons]; exact he) (by simp [ho]) (by omega)
    have ihB := fun y => specBreaks_l0 l cs hl hc suf (pre ++ [a]) (out ++ [y]) k (by rw [← app_cons]; exact he) (by simp [ho]) hk'
    simp only [len_snoc] at ihA ihB
    simp only [List.length_append, List.length_singleton, bef_snoc, List.append_assoc, List.singleton_append] at ihA ihB
    have ra : rd cs (pre.length : Int) = a := by rw [← he]; exact rd_mid pre a suf
    have e1 : wrap64 ((pre.length : Int) + 1) = (pre.length : Int) + 1 := w64_len (by omega) (by omega)
    rw [if_pos (by omega), e1]
    by_cases hend : (pre.length : Int) + 1 = (cs.length : Int)
    · rw [if_pos hend, if_pos (by omega), ihA, if_pos (by omega)]
    rw [if_neg hend, if_neg (show ¬ pre.length + 1 = l.length by omega)]
    have n1 : (pre.length : Int) + 1 = ((pre.length + 1 : Nat) : Int) := by omega
    have hj := specJoins_at l (pre.length + 1) (by omega) (by omega) (by omega) (k + 1) (by omega)
    rw [← n1] at hj
    rw [hj]
    simp only [Option.bind_some]
    have rl : rd l ((pre.length : Int) + 1) = l.getD (pre.length + 1) 0 := by rw [n1, rd_nat]
    have rc : rd cs ((pre.length : Int) + 1) = cs.getD (pre.length + 1) 0 := by rw [n1, rd_nat]
    have hT : spec_l5Breaks.j1 (k + 1) l cs out (pre.length : Int) true = some (out ++ 0 :: brkL l cs (nxs (bef pre) a) (pre.length + 1) suf) := by
      simp only [spec_l5Breaks.j1, if_true]
      rw [if_pos (by omega), e1, ihB]
    have hF : spec_l5Breaks.j1 (k + 1) l cs out (pre.length : Int) false = some (out ++ placeL a (cs.getD (pre.length + 1) 0) (nxs (bef pre) a) :: brkL l cs (nxs (bef pre) a) (pre.length + 1) suf) := by
      obtain ⟨j, h1, h2⟩ := specBefore (pre.length + 1) (pre ++ [a]) suf k (by simp) (by omega) (by omega)
      have e5 : ((pre ++ [a]).length : Int) - 1 = (pre.length : Int) := by simp
      rw [e5, ← app_cons, he] at h1
      rw [← app_cons, he, bef_snoc, len_snoc] at h2
      simp only [spec_l5Breaks.j1, Bool.false_eq_true, if_false]
      rw [h1]
      simp only [Option.bind_some]
      rw [e1, ra, rc]
      rcases h2 with ⟨g1, g2⟩ | ⟨g1, g2, g3⟩
      · rw [if_neg (by omega), if_pos (by omega), if_pos (by omega), if_pos (by omega), if_pos (by omega), specPlace _ _ _ k (by omega)]
        simp only [Option.bind_some]
        rw [if_pos (by omega), ihB, g2]
      · rw [if_pos (by omega), if_pos (by omega), if_pos (by omega), if_pos (by omega), if_pos (by omega), if_pos (by omega), if_pos (by omega), g3, specPlace _ _ _ k (by omega)]
        simp only [Option.bind_some]
        rw [if_pos (by omega), ihB]
    unfold brk
    by_cases hjb : (jb l).getD (pre.length + 1) false = true
    · rw [if_pos hjb, if_pos hjb, hT]
    rw [if_neg hjb, if_neg hjb, if_pos (by omega), if_pos (by omega), rl, specLine _ _ (by omega)]
    simp only [Option.bind_some]
    by_cases h7 : lineC (l.getD (pre.length + 1) 0) = 7
    · rw [if_pos h7, if_pos (by omega), ra]
      by_cases c3 : a = 3
      · rw [if_pos c3, if_neg (by omega), hF]
      rw [if_neg c3]
      by_cases c4 : a = 4
      · rw [if_pos c4, if_neg (by omega), hF]
      rw [if_neg c4]
      by_cases c6 : a = 6
      · rw [show (a != 6) = false by simp [c6], if_neg (by omega), hF]
      · rw [show (a != 6) = true by simp [c6], if_pos (by omega), hT]
    · rw [if_neg h7, if_neg (by omega), hF]
theorem specBreaksOf (l : List Int) (hl : l.length ≤ 1048576) (k : Nat) (hk : 500 ≤ k) (hk2 : l.length + 1 ≤ k) : spec_BreaksOf.f k l = some (breaksOfL l) := by
  unfold spec_BreaksOf.f breaksOfL
  rw [specL1Ok l hl k hk2]
  simp only [Option.bind_some]
  by_cases h : okT l = true
  · have h80 := okT_len h
    rw [if_pos h, if_pos h]
    unfold spec_l5Breaks.f
    rw [specCounts l (by omega) k (by omega)]
    simp only [Option.bind_some]
    have := specBreaks_l0 l (countsL l) h80 (countsL_len l) (countsL l) [] [] k rfl rfl (by rw [countsL_len]; omega)
    simp only [List.length_nil, List.nil_append] at this
    rw [show (0 : Int) = ((0 : Nat) : Int) from rfl, this]
    rfl
  · rw [if_neg h, if_neg h]

theorem countsGo_at : ∀ (l : List Int) (p : Int) (i : Nat), i < l.length → ∃ q, (countsGo p l).getD i 0 = cnt q (l.getD i 0)
  | [], _, _, h => by simp at h
  | x :: r, p, 0, _ => ⟨p, rfl⟩
  | x :: r, p, i + 1, h => by
    obtain ⟨q, e⟩ := countsGo_at r (cnt p x) i (by simpa using h)
    exact ⟨q, by simp only [countsGo, List.getD_cons_succ]; exact e⟩
theorem brkL_at (l cs : List Int) : ∀ (suf : List Int) (s : Int) (i m : Nat), m < suf.length → ¬ i + m + 1 = l.length →
    (brkL l cs s i suf).getD m 0 = brk (suf.getD m 0) (cs.getD (i + m + 1) 0) (l.getD (i + m + 1) 0) (nxs ((suf.take m).foldl nxs s) (suf.getD m 0)) ((jb l).getD (i + m + 1) false)
  | [], _, _, _, h, _ => by simp at h
  | a :: r, s, i, 0, h, hn => by
    unfold brkL
    rw [if_neg (show ¬ i + 1 = l.length from hn)]
    rfl
  | a :: r, s, i, m + 1, h, hn => by
    have ih := brkL_at l cs r (nxs s a) (i + 1) m (by simpa using h) (by omega)
    rw [show i + 1 + m + 1 = i + (m + 1) + 1 from by omega] at ih
    unfold brkL
    rw [List.getD_cons_succ, ih]
    rfl
theorem brkL_last (l cs : List Int) : ∀ (suf : List Int) (s : Int) (i : Nat), suf ≠ [] → i + suf.length = l.length → (brkL l cs s i suf).getLast? = some 2
  | [], _, _, h, _ => absurd rfl h
  | [a], s, i, _, hn => by
    unfold brkL brkL
    rw [if_pos (show i + 1 = l.length from hn)]
    rfl
  | a :: b :: r, s, i, _, hn => by
    have ih := brkL_last l cs (b :: r) (nxs s a) (i + 1) (by simp) (by simp at hn ⊢; omega)
    have e : brkL l cs s i (a :: b :: r) = (if i + 1 = l.length then 2 else brk a (cs.getD (i + 1) 0) (l.getD (i + 1) 0) (nxs s a) ((jb l).getD (i + 1) false)) :: brkL l cs (nxs s a) (i + 1) (b :: r) := rfl
    rw [e, List.getLast?_cons, ih]
    rfl
theorem bk_last {l : List Int} (h : breaksOfL l ≠ []) : (breaksOfL l).getLast? = some 2 := by
  unfold breaksOfL at h ⊢
  by_cases ho : okT l = true
  · rw [if_pos ho] at h ⊢
    unfold breaksL at h ⊢
    refine brkL_last l _ _ 0 0 (fun e => ?_) (by rw [countsL_len]; omega)
    rw [e] at h
    exact h rfl
  · rw [if_neg ho] at h
    exact absurd rfl h
theorem bk_len {l : List Int} (h : breaksOfL l ≠ []) : (breaksOfL l).length = l.length := by
  unfold breaksOfL at h ⊢
  by_cases ho : okT l = true
  · rw [if_pos ho, breaksL_len]
  · rw [if_neg ho] at h
    exact absurd rfl h
theorem foldl_take_succ (cs : List Int) (s : Int) (i : Nat) (h : i < cs.length) : (cs.take (i + 1)).foldl nxs s = nxs ((cs.take i).foldl nxs s) (cs.getD i 0) := by
  rw [List.take_succ_eq_append_getElem h, List.foldl_append, List.getD_eq_getElem?_getD, List.getElem?_eq_getElem h]
  rfl
theorem jb_next (l : List Int) (i : Nat) (h : i + 1 < l.length) : ∃ t, (jb l).getD (i + 1) false = jn (nx t (l.getD i 0)) (l.getD (i + 1) 0) := by
  obtain ⟨x, h1, h2⟩ := split_at l (i + 1) h
  have hx : l.getD (i + 1) 0 = x := by
    rw [h1]
    have := getD_mid (l.take (i + 1)) x (l.drop (i + 1 + 1)) 0
    rw [h2, Int.toNat_natCast] at this
    exact this
  have hj := jb_at (l.take (i + 1)) x (l.drop (i + 1 + 1))
  rw [← h1, h2] at hj
  rw [hj, hx]
  have hi : i < l.length := by omega
  rw [List.take_succ_eq_append_getElem hi, st_snoc]
  refine ⟨st (l.take i), ?_⟩
  rw [List.getD_eq_getElem?_getD, List.getElem?_eq_getElem hi]
  rfl
theorem bk_at {l : List Int} (ho : okT l = true) (i : Nat) (hi : i + 1 < l.length) : ∃ p q s t, (breaksOfL l).getD i 0 = brk (cnt p (l.getD i 0)) (cnt q (l.getD (i + 1) 0)) (l.getD (i + 1) 0) (nxs s (cnt p (l.getD i 0))) ((jb l).getD (i + 1) false) ∧
    (jb l).getD (i + 1) false = jn (nx t (l.getD i 0)) (l.getD (i + 1) 0) ∧ (0 < i → ∃ s' p', s = nxs s' (cnt p' (l.getD (i - 1) 0))) := by
  have hcl := countsL_len l
  obtain ⟨p, hp⟩ := countsGo_at l 3 i (by omega)
  obtain ⟨q, hq⟩ := countsGo_at l 3 (i + 1) hi
  obtain ⟨t, ht⟩ := jb_next l i hi
  have hb := brkL_at l (countsL l) (countsL l) 0 0 i (by omega) (by omega)
  rw [Nat.zero_add] at hb
  refine ⟨p, q, ((countsL l).take i).foldl nxs 0, t, ?_, ht, ?_⟩
  · unfold breaksOfL breaksL
    rw [if_pos ho, hb]
    unfold countsL
    rw [hp, hq]
  · intro h0
    obtain ⟨p', hp'⟩ := countsGo_at l 3 (i - 1) (by omega)
    refine ⟨((countsL l).take (i - 1)).foldl nxs 0, p', ?_⟩
    have := foldl_take_succ (countsL l) 0 (i - 1) (by omega)
    rw [show i - 1 + 1 = i from by omega] at this
    rw [this]
    unfold countsL
    rw [hp']
theorem cnt_keep {p x : Int} (h : ¬ lineC x = 7) : cnt p x = lineC x := by
  unfold cnt
  rw [if_neg h]
theorem cnt_346 {p x : Int} (h : cnt p x = 3 ∨ cnt p x = 4 ∨ cnt p x = 6) : cnt p x = lineC x := by
  unfold cnt at h ⊢
  by_cases h7 : lineC x = 7
  · rw [if_pos h7] at h
    split at h <;> omega
  · rw [if_neg h7]
theorem lineC4 {x : Int} (h : lineC x = 4) : x = 10 := by
  unfold lineC lsign at h
  repeat' split at h
  all_goals first | assumption | omega
theorem lineC3 {x : Int} (h : lineC x = 3) : x = 32 := by
  unfold lineC lsign at h
  repeat' split at h
  all_goals first | assumption | omega
/-- behind a line feed or a blank nothing is joined but what joins all -/
theorem jn_10 (t x : Int) : jn (nx t 10) x = false := by
  have : nx t 10 = 2 := rfl
  rw [this]
  rfl
theorem jn_32 (t x : Int) (h : ¬ lineC x = 7) (h4 : ¬ lineC x = 4) : jn (nx t 32) x = false := by
  have e : nx t 32 = 5 := by
    unfold nx reg
    simp
  rw [e]
  unfold jn
  have h10 : ¬ x = 10 := by rintro rfl; exact h4 (by decide)
  have hb : ¬ (bidi x = 9 ∨ x = 8205) := by
    intro hh
    apply h
    unfold lineC
    have n32 : ¬ x = 32 := by rintro rfl; exact absurd hh (by decide)
    have n160 : ¬ x = 160 := by rintro rfl; exact absurd hh (by decide)
    have n8203 : ¬ x = 8203 := by rintro rfl; exact absurd hh (by decide)
    rw [if_neg h10, if_neg n32, if_neg n160, if_neg n8203, if_pos (by omega)]
  rw [if_neg (by omega), if_neg (by omega), if_neg hb]
  split
  · rfl
  · rfl

/-- the place where the cluster over a place begins -/
def dn (bs : List Bool) : Nat → Nat
  | 0 => 0
  | n + 1 => if bs.getD (n + 1) false = true then dn bs n else n + 1
theorem rdB_nat (l : List Bool) (i : Nat) : rdOf false l (i : Int) = l.getD i false := by
  unfold rdOf
  rw [Int.toNat_natCast]
theorem dn_le (bs : List Bool) : ∀ n, dn bs n ≤ n
  | 0 => Nat.le_refl _
  | n + 1 => by
    unfold dn
    have := dn_le bs n
    split <;> omega
def clusterAt (l : List Int) (i : Int) : Int := if okT l = true ∧ 0 ≤ i ∧ i < (l.length : Int) then (dn (jb l) i.toNat : Int) else -1

theorem implStartOf_l0 (bs : List Bool) (h0 : bs.getD 0 false = false) (hl : bs.length ≤ 1048576) : ∀ (n k : Nat), n < bs.length → n + 1 ≤ k → impl_startOf.l0 k (n : Int) bs = some (dn bs n : Int)
  | 0, k, hn, hk => by
    obtain ⟨k, rfl⟩ : ∃ m, k = m + 1 := ⟨k - 1, by omega⟩
    simp only [impl_startOf.l0]
    rw [if_pos (by omega), if_pos (by omega), rdB_nat, h0]
    simp [dn]
  | n + 1, k, hn, hk => by
    obtain ⟨k, rfl⟩ : ∃ m, k = m + 1 := ⟨k - 1, by omega⟩
    have ih := implStartOf_l0 bs h0 hl n k (by omega) (by omega)
    have e : wrap64 (((n + 1 : Nat) : Int) - 1) = (n : Int) := by rw [w64 (by omega) (by omega)]; omega
    simp only [impl_startOf.l0, dn]
    rw [if_pos (by omega), if_pos (by omega), rdB_nat, e, ih]
    by_cases h : bs.getD (n + 1) false = true
    · rw [if_pos h, if_pos h]
    · rw [if_neg h, if_neg h]
theorem implStartOf (l : List Int) (n : Nat) (hn : n < l.length) (hl : l.length ≤ 1048576) (k : Nat) (hk : l.length + 2 ≤ k) : impl_startOf.f k l (n : Int) = some (dn (jb l) n : Int) := by
  unfold impl_startOf.f
  rw [implJoined l hl k hk]
  exact implStartOf_l0 (jb l) (jb_zero l) (by rw [jb_len]; exact hl) n k (by rw [jb_len]; exact hn) (by omega)



theorem implClusterAt (l : List Int) (i : Int) (k : Nat) (hk : 200 ≤ k) : impl_ClusterAt.f k l i = some (clusterAt l i) := by
  unfold impl_ClusterAt.f clusterAt
  rw [implLettersOk]
  simp only [Option.bind_some]
  by_cases h : okT l = true
  · have hl := okT_len h
    rw [if_pos h]
    by_cases h0 : i < 0
    · rw [if_pos h0, if_neg (by omega)]
    rw [if_neg h0]
    by_cases h1 : i ≥ (l.length : Int)
    · rw [if_pos h1, if_neg (by omega)]
    rw [if_neg h1, if_pos ⟨h, by omega, by omega⟩]
    obtain ⟨n, rfl⟩ : ∃ n : Nat, i = n := ⟨i.toNat, by omega⟩
    rw [implStartOf l n (by omega) (by omega) k (by omega)]
    rfl
  · rw [if_neg h, if_neg (fun g => h g.1)]

theorem wcInts_l0 : ∀ (suf pre : List Int) (k : Nat), (pre ++ suf).length ≤ 4000000 → suf.length + 1 ≤ k → laws_wcInts.l0 k (pre ++ suf) (pre ++ suf) (pre.length : Int) = some true
  | [], pre, k, hl, hk => by
    obtain ⟨k, rfl⟩ : ∃ m, k = m + 1 := ⟨k - 1, by simp at hk; omega⟩
    simp only [laws_wcInts.l0]
    rw [if_neg (len_end pre)]
  | x :: suf, pre, k, hl, hk => by
    obtain ⟨k, rfl⟩ : ∃ m, k = m + 1 := ⟨k - 1, by simp at hk; omega⟩
    simp only [laws_wcInts.l0]
    have hp : (pre.length : Int) ≤ 4000000 := by simp at hl; omega
    rw [if_pos (len_mid pre x suf), if_pos (by omega), if_pos (len_mid pre x suf), if_pos trivial, w64_len (by omega) (by omega), ← len_snoc pre x, app_cons pre x suf]
    exact wcInts_l0 suf (pre ++ [x]) k (by simpa using hl) (by simp at hk; omega)
theorem wcInts_ok (l : List Int) (hl : l.length ≤ 4000000) (k : Nat) (hk : l.length + 1 ≤ k) : laws_wcInts.f k l l = some true := by
  unfold laws_wcInts.f
  rw [if_pos rfl]
  exact wcInts_l0 l [] k (by simpa using hl) hk

/-! what is drawn: a reader of bytes -/
theorem xor_i64 (a b : Nat) (ha : a < 2 ^ 40) (hb : b < 2 ^ 40) : bits .xor .i64 (a : Int) (b : Int) = ((a ^^^ b : Nat) : Int) := by
  have hp : (2 : Nat) ^ 40 ≤ 2 ^ IntKind.i64.bits := by decide
  have ha' : a % 2 ^ IntKind.i64.bits = a := Nat.mod_eq_of_lt (Nat.lt_of_lt_of_le ha hp)
  have hb' : b % 2 ^ IntKind.i64.bits = b := Nat.mod_eq_of_lt (Nat.lt_of_lt_of_le hb hp)
  simp only [bits, BitVec.ofInt_natCast, BitVec.toNat_xor, BitVec.toNat_ofNat, ha', hb']
  have h := Nat.xor_lt_two_pow ha hb
  rw [IntKind.wrap_i64]
  omega
theorem xor_pos {x y : Int} (hx : 0 ≤ x) (hx' : x < 1099511627776) (hy : 0 ≤ y) (hy' : y < 1099511627776) : 0 ≤ bits .xor .i64 x y ∧ bits .xor .i64 x y < 1099511627776 := by
  obtain ⟨a, rfl⟩ := Int.eq_ofNat_of_zero_le hx
  obtain ⟨b, rfl⟩ := Int.eq_ofNat_of_zero_le hy
  have ha : a < 2 ^ 40 := by omega
  have hb : b < 2 ^ 40 := by omega
  rw [xor_i64 a b ha hb]
  have h := Nat.xor_lt_two_pow ha hb
  omega
theorem tmod_in {x n : Int} (hx : 0 ≤ x) (hn : 0 < n) : 0 ≤ Int.tmod x n ∧ Int.tmod x n < n := by
  rw [Int.tmod_eq_emod_of_nonneg hx]
  exact ⟨Int.emod_nonneg _ (by omega), Int.emod_lt_of_pos _ hn⟩
theorem tdiv_in {x n : Int} (hx : 0 ≤ x) (hn : 0 < n) : 0 ≤ Int.tdiv x n ∧ Int.tdiv x n ≤ x := by
  rw [Int.tdiv_eq_ediv_of_nonneg hx]
  exact ⟨Int.ediv_nonneg hx (by omega), Int.ediv_le_self _ hx⟩
/-- bytes -/
def Bytes (b : List Int) : Prop := b.length ≤ 2000 ∧ ∀ x ∈ b, 0 ≤ x ∧ x ≤ 255
theorem rd_byte {b : List Int} (hb : Bytes b) {i : Int} (h : i < b.length) (h0 : 0 ≤ i) : 0 ≤ rd b i ∧ rd b i ≤ 255 := by
  unfold rd
  have hi : i.toNat < b.length := by omega
  rw [List.getD_eq_getElem?_getD, List.getElem?_eq_getElem hi]
  exact hb.2 _ (List.getElem_mem hi)
theorem pick_ok {b : List Int} (hb : Bytes b) (p n : Int) (hp : 0 ≤ p) (hp' : p ≤ 1000000) (k : Nat) (hk : 1 ≤ k) :
    ∃ v, spec_l1Rd_pick.f k b p n = some (v, p + 1) ∧ 0 ≤ v ∧ (1 ≤ n → v < n) ∧ (n < 1 → v = 0) := by
  obtain ⟨k, rfl⟩ : ∃ m, k = m + 1 := ⟨k - 1, by omega⟩
  have hl := hb.1
  have e1 : wrap64 (p + 1) = p + 1 := w64 (by omega) (by omega)
  have e2 : wrap64 (p + 1 - 1) = p := by rw [w64 (by omega) (by omega)]; omega
  unfold spec_l1Rd_pick.f
  by_cases hn : n < 1
  · rw [if_pos hn, e1]
    simp only [spec_l1Rd_pick.j0, if_true]
    exact ⟨0, rfl, by omega, by omega, fun _ => rfl⟩
  · rw [if_neg hn, e1]
    by_cases h0 : b.length = 0
    · have e0 : ((b.length : Int) == 0) = true := by simp [h0]
      simp only [spec_l1Rd_pick.j0, e0, if_true]
      exact ⟨0, rfl, by omega, by omega, fun _ => rfl⟩
    · have e0 : ((b.length : Int) == 0) = false := by simp; intro h; exact h0 (by rw [h]; rfl)
      have hlen : (0 : Int) < b.length := by omega
      simp only [spec_l1Rd_pick.j0, e0, e2, Bool.false_eq_true, if_false]
      have hn0 : ¬ n = 0 := by omega
      by_cases hlt : p < (b.length : Int)
      · rw [if_pos hlt, if_pos hp, if_neg hn0]
        obtain ⟨r0, r1⟩ := rd_byte hb hlt hp
        rw [w64 (by omega) (by omega)]
        have h := tmod_in r0 (show 0 < n by omega)
        exact ⟨_, rfl, h.1, fun _ => h.2, fun h' => absurd h' hn⟩
      · have m1 := tmod_in hp hlen
        have e7 : wrap64 (wrap64 (p * 7) + 3) = p * 7 + 3 := by rw [w64 (x := p * 7) (by omega) (by omega), w64 (by omega) (by omega)]
        have m2 := tmod_in (show 0 ≤ p * 7 + 3 by omega) hlen
        have r1 := rd_byte hb m1.2 m1.1
        have r2 := rd_byte hb m2.2 m2.1
        have d1 := tdiv_in hp hlen
        rw [if_neg hlt, if_neg (by omega), if_pos m1.1, if_pos m1.2, e7, if_pos m2.1, if_pos m2.2, if_neg hn0]
        generalize rd b (Int.tmod p (b.length : Int)) = x1 at *
        generalize rd b (Int.tmod (p * 7 + 3) (b.length : Int)) = x2 at *
        generalize Int.tdiv p (b.length : Int) = x3 at *
        have eX : wrap64 (wrap64 (wrap64 (wrap64 (wrap64 x1 * 131) + wrap64 (wrap64 x2 * 1117)) + wrap64 (p * 29)) + wrap64 (wrap64 x3 * 53)) = x1 * 131 + x2 * 1117 + p * 29 + x3 * 53 := by
          rw [w64 (x := x1) (by omega) (by omega), w64 (x := x2) (by omega) (by omega), w64 (x := x3) (by omega) (by omega), w64 (x := x1 * 131) (by omega) (by omega), w64 (x := x2 * 1117) (by omega) (by omega), w64 (x := p * 29) (by omega) (by omega), w64 (x := x3 * 53) (by omega) (by omega), w64 (x := x1 * 131 + x2 * 1117) (by omega) (by omega), w64 (x := x1 * 131 + x2 * 1117 + p * 29) (by omega) (by omega), w64 (by omega) (by omega)]
        rw [eX]
        have hX0 : 0 ≤ x1 * 131 + x2 * 1117 + p * 29 + x3 * 53 := by omega
        have hX1 : x1 * 131 + x2 * 1117 + p * 29 + x3 * 53 < 1000000000 := by omega
        generalize x1 * 131 + x2 * 1117 + p * 29 + x3 * 53 = X at *
        have d2 := tdiv_in hX0 (show (0 : Int) < 64 by omega)
        rw [w64 (x := Int.tdiv X 64) (by omega) (by omega)]
        have hx := xor_pos hX0 (by omega) d2.1 (by omega)
        have h := tmod_in hx.1 (show 0 < n by omega)
        exact ⟨_, rfl, h.1, fun _ => h.2, fun h' => absurd h' hn⟩
theorem open_ok {l : List Int} (h : ∀ x ∈ l, (Lit.int .u8 x).wf = true) : ∃ b, spec_l1Open.f l = some (b, 0) ∧ Bytes b := by
  unfold spec_l1Open.f
  by_cases h1 : (l.length : Int) > 2000
  · rw [if_pos h1, if_pos (by omega)]
    exact ⟨_, rfl, by rw [List.length_take]; omega, fun x hx => in_u8 (h x (List.mem_of_mem_take hx))⟩
  · rw [if_neg h1]
    exact ⟨_, rfl, by omega, fun x hx => in_u8 (h x hx)⟩

theorem one_ok {b : List Int} (hb : Bytes b) (p : Int) (hp : 0 ≤ p) (hp' : p ≤ 1000000) (l : List Int) (hl : 1 ≤ l.length) (k : Nat) (hk : 1 ≤ k) :
    ∃ v, spec_l1Rd_one.f k b p l = some (v, p + 1) ∧ v ∈ l := by
  obtain ⟨v, e, h0, h1, _⟩ := pick_ok hb p (l.length : Int) hp hp' k hk
  unfold spec_l1Rd_one.f
  rw [e]
  simp only [Option.bind_some]
  have h2 := h1 (by omega)
  rw [if_pos h0, if_pos h2]
  refine ⟨_, rfl, ?_⟩
  unfold rd
  have hi : v.toNat < l.length := by omega
  rw [List.getD_eq_getElem?_getD, List.getElem?_eq_getElem hi]
  exact List.getElem_mem hi

/-- a number that is drawn as a letter -/
def LRange (v : Int) : Prop := 0 ≤ v ∧ v ≤ 1114111
theorem rune_ok {b : List Int} (hb : Bytes b) (p : Int) (hp : 0 ≤ p) (hp' : p ≤ 900000) (k : Nat) (hk : 10 ≤ k) :
    ∃ v q, spec_l13Rune.f k b p = some (v, q) ∧ p ≤ q ∧ q ≤ p + 2 ∧ LRange v := by
  obtain ⟨k, rfl⟩ : ∃ m, k = m + 10 := ⟨k - 10, by omega⟩
  obtain ⟨v, e, h0, h1, _⟩ := pick_ok hb p 16 hp (by omega) (k + 10) (by omega)
  have h2 := h1 (by omega)
  unfold spec_l13Rune.f
  rw [e]
  have one : ∀ (l : List Int) (j : Nat), 1 ≤ l.length → 1 ≤ j → (∀ x ∈ l, LRange x) → ∃ u q, ((spec_l1Rd_one.f j b (p + 1) l).bind fun bt => some (bt.1, bt.2)) = some (u, q) ∧ p ≤ q ∧ q ≤ p + 2 ∧ LRange u := by
    intro l j h3 h4 h5
    obtain ⟨u, e1, h6⟩ := one_ok hb (p + 1) (by omega) (by omega) l h3 j h4
    exact ⟨u, p + 1 + 1, by rw [e1]; rfl, by omega, by omega, h5 u h6⟩
  simp only [Option.bind_some]
  have hv : v = 0 ∨ v = 1 ∨ v = 2 ∨ v = 3 ∨ v = 4 ∨ v = 5 ∨ v = 6 ∨ v = 7 ∨ v = 8 ∨ v = 9 ∨ v = 10 ∨ v = 11 ∨ v = 12 ∨ v = 13 ∨ v = 14 ∨ v = 15 := by omega
  rcases hv with rfl | rfl | rfl | rfl | rfl | rfl | rfl | rfl | rfl | rfl | rfl | rfl | rfl | rfl | rfl | rfl
  all_goals simp only [spec_l13Rune.j0, spec_l13Rune.j1, spec_l13Rune.j2, Int.reduceEq, Int.reduceBEq, if_true, if_false, ↓reduceIte, Bool.false_eq_true, beq_self_eq_true]
  all_goals first
    | exact ⟨32, p + 1, rfl, by omega, by omega, by unfold LRange; omega⟩
    | exact one _ _ (by simp) (by omega) (by simp [LRange])

theorem runes_l1 {b : List Int} (hb : Bytes b) : ∀ (n : Nat) (out : List Int) (p : Int) (k : Nat), out.length + n = 80 → 0 ≤ p → p + n ≤ 900000 → (∀ x ∈ out, LRange x) → n + 1 ≤ k →
    ∃ v q, spec_l13Runes.l1 k out b p = some (v, q) ∧ v.length ≤ 80 ∧ (∀ x ∈ v, LRange x) ∧ p ≤ q ∧ q ≤ p + n
  | 0, out, p, k, ho, hp, hp', hx, hk => by
    obtain ⟨k, rfl⟩ : ∃ m, k = m + 1 := ⟨k - 1, by omega⟩
    simp only [spec_l13Runes.l1]
    rw [if_neg (by omega)]
    exact ⟨_, _, rfl, by omega, hx, by omega, by omega⟩
  | n + 1, out, p, k, ho, hp, hp', hx, hk => by
    obtain ⟨k, rfl⟩ : ∃ m, k = m + 1 := ⟨k - 1, by omega⟩
    simp only [spec_l13Runes.l1]
    rw [if_pos (by omega)]
    obtain ⟨u, e1, h3⟩ := one_ok hb p (by omega) (by omega) [8235, 8238, 8295, 1488, 97] (by simp) k (by omega)
    rw [e1]
    simp only [Option.bind_some]
    rw [if_pos (by omega)]
    have hu : LRange u := by simp at h3; unfold LRange; omega
    obtain ⟨v, q, g1, g2, g3, g4, g5⟩ := runes_l1 hb n (out ++ [u]) (p + 1) k (by simp; omega) (by omega) (by omega) (fun x hx' => by
      rcases List.mem_append.1 hx' with h | h
      · exact hx x h
      · simp at h
        exact h ▸ hu) (by omega)
    exact ⟨v, q, g1, g2, g3, by omega, by omega⟩
theorem runes_l0 {b : List Int} (hb : Bytes b) : ∀ (n : Nat) (out : List Int) (p : Int) (k : Nat), out.length + n ≤ 80 → 0 ≤ p → p + 2 * n ≤ 800000 → (∀ x ∈ out, LRange x) → n + 100 ≤ k →
    ∃ v q, spec_l13Runes.l0 k out (n : Int) b p = some (v, q) ∧ v.length ≤ 80 ∧ (∀ x ∈ v, LRange x) ∧ p ≤ q ∧ q ≤ p + 2 * n + 81
  | 0, out, p, k, ho, hp, hp', hx, hk => by
    obtain ⟨k, rfl⟩ : ∃ m, k = m + 1 := ⟨k - 1, by omega⟩
    simp only [spec_l13Runes.l0]
    rw [if_neg (by omega)]
    obtain ⟨v, e, h0, h1, _⟩ := pick_ok hb p 24 hp (by omega) k (by omega)
    rw [e]
    simp only [Option.bind_some]
    by_cases hv : v = 0
    · rw [if_pos hv]
      obtain ⟨v, q, g1, g2, g3, g4, g5⟩ := runes_l1 hb (80 - out.length) out (p + 1) k (by omega) (by omega) (by omega) hx (by omega)
      exact ⟨v, q, g1, g2, g3, by omega, by omega⟩
    · rw [if_neg hv]
      exact ⟨_, _, rfl, by omega, hx, by omega, by omega⟩
  | n + 1, out, p, k, ho, hp, hp', hx, hk => by
    obtain ⟨k, rfl⟩ : ∃ m, k = m + 1 := ⟨k - 1, by omega⟩
    simp only [spec_l13Runes.l0]
    rw [if_pos (by omega)]
    obtain ⟨u, q, e1, h2, h3, hu⟩ := rune_ok hb p (by omega) (by omega) k (by omega)
    rw [e1]
    simp only [Option.bind_some]
    rw [if_pos (by omega)]
    have e6 : wrap64 (((n + 1 : Nat) : Int) - 1) = (n : Int) := by rw [w64 (by omega) (by omega)]; omega
    rw [e6]
    obtain ⟨v, q', g1, g2, g3, g4, g5⟩ := runes_l0 hb n (out ++ [u]) q k (by simp; omega) (by omega) (by omega) (fun x hx' => by
      rcases List.mem_append.1 hx' with h | h
      · exact hx x h
      · simp at h
        exact h ▸ hu) (by omega)
    exact ⟨v, q', g1, g2, g3, by omega, by omega⟩
theorem runes_ok {b : List Int} (hb : Bytes b) (p : Int) (hp : 0 ≤ p) (hp' : p ≤ 700000) (k : Nat) (hk : 150 ≤ k) :
    ∃ v q, spec_l13Runes.f k b p = some (v, q) ∧ v.length ≤ 80 ∧ (∀ x ∈ v, LRange x) ∧ p ≤ q ∧ q ≤ p + 200 := by
  obtain ⟨n, e, h0, h1, _⟩ := pick_ok hb p 24 hp (by omega) k (by omega)
  have h2 := h1 (by omega)
  unfold spec_l13Runes.f
  rw [e]
  simp only [Option.bind_some]
  obtain ⟨m, rfl⟩ : ∃ m : Nat, n = m := ⟨n.toNat, by omega⟩
  obtain ⟨v, q, g1, g2, g3, g4, g5⟩ := runes_l0 hb m [] (p + 1) k (by simp; omega) (by omega) (by omega) (by simp) (by omega)
  exact ⟨v, q, g1, g2, g3, by omega, by omega⟩

def ARange (v : Int) : Prop := -1 ≤ v ∧ v ≤ 1114112
theorem any_l0 (b : List Int) (p : Int) : ∀ (n : Nat) (out : List Int) (k : Nat), out.length + n = 81 → (∀ x ∈ out, ARange x) → n + 1 ≤ k → ∃ v, spec_l13Any.l0 k out b p = some (v, p) ∧ v.length ≤ 81 ∧ ∀ x ∈ v, ARange x
  | 0, out, k, ho, hx, hk => by
    obtain ⟨k, rfl⟩ : ∃ m, k = m + 1 := ⟨k - 1, by omega⟩
    simp only [spec_l13Any.l0]
    rw [if_neg (by omega)]
    exact ⟨_, rfl, by omega, hx⟩
  | n + 1, out, k, ho, hx, hk => by
    obtain ⟨k, rfl⟩ : ∃ m, k = m + 1 := ⟨k - 1, by omega⟩
    simp only [spec_l13Any.l0]
    rw [if_pos (by omega), if_pos (by omega)]
    exact any_l0 b p n (out ++ [97]) k (by simp; omega) (fun x hx' => by
      rcases List.mem_append.1 hx' with h | h
      · exact hx x h
      · simp at h
        subst h
        unfold ARange
        omega) (by omega)
theorem any_ok {b : List Int} (hb : Bytes b) (p : Int) (hp : 0 ≤ p) (hp' : p ≤ 600000) (k : Nat) (hk : 150 ≤ k) :
    ∃ v q, spec_l13Any.f k b p = some (v, q) ∧ v.length ≤ 81 ∧ (∀ x ∈ v, ARange x) ∧ p ≤ q ∧ q ≤ p + 202 := by
  obtain ⟨v, q, g1, g2, g3, g4, g5⟩ := runes_ok hb p hp (by omega) k hk
  have g6 : ∀ x ∈ v, ARange x := fun x hx => by have := g3 x hx; unfold LRange at this; unfold ARange; omega
  unfold spec_l13Any.f
  rw [g1]
  simp only [Option.bind_some]
  obtain ⟨n, e, h0, h1, _⟩ := pick_ok hb q 24 (by omega) (by omega) k (by omega)
  rw [e]
  simp only [Option.bind_some]
  by_cases hn : n = 0
  · rw [if_pos hn]
    obtain ⟨u, e1, h3⟩ := one_ok hb (q + 1) (by omega) (by omega) [-1, 55296, 57343, 1114112] (by simp) k (by omega)
    rw [e1]
    simp only [Option.bind_some]
    rw [if_pos (by omega)]
    refine ⟨_, _, rfl, by simp; omega, fun x hx' => ?_, by omega, by omega⟩
    rcases List.mem_append.1 hx' with h | h
    · exact g6 x h
    · simp at h
      subst h
      simp at h3
      unfold ARange
      omega
  rw [if_neg hn]
  by_cases hn1 : n = 1
  · rw [if_pos hn1]
    obtain ⟨u, f1, f2, f3⟩ := any_l0 b (q + 1) (81 - v.length) v k (by omega) g6 (by omega)
    exact ⟨u, _, f1, f2, f3, by omega, by omega⟩
  · rw [if_neg hn1]
    exact ⟨v, _, rfl, by omega, g6, by omega, by omega⟩

theorem placeL2 {a b s : Int} : placeL a b s = 2 ↔ a = 4 := by
  unfold placeL inner
  repeat' split
  all_goals first | (constructor <;> intro h <;> omega)
theorem brk2 {p q s t x y : Int} {j : Bool} (hj : j = jn (nx t x) y) : brk (cnt p x) (cnt q y) y (nxs s (cnt p x)) j = 2 ↔ lineC x = 4 := by
  have hc : cnt p x = 4 ↔ lineC x = 4 := by
    constructor
    · intro h
      rw [← cnt_346 (p := p) (x := x) (.inr (.inl h))]
      exact h
    · intro h
      rw [cnt_keep (by omega)]
      exact h
  unfold brk
  by_cases h : j = true
  · rw [if_pos h]
    constructor
    · intro g; omega
    · intro g
      rw [hj, lineC4 g, jn_10] at h
      exact absurd h (by simp)
  · rw [if_neg h]
    by_cases h2 : lineC y = 7 ∧ ¬ (cnt p x = 3 ∨ cnt p x = 4 ∨ cnt p x = 6)
    · rw [if_pos h2]
      constructor
      · intro g; omega
      · intro g
        exact absurd (.inr (.inl (hc.2 g))) h2.2
    · rw [if_neg h2, placeL2, hc]
theorem brk1_no {p q s x y : Int} {j : Bool} (h : brk (cnt p x) (cnt q y) y (nxs s (cnt p x)) j = 1) : j = false ∧ ¬ lineC y = 3 ∧ ¬ lineC y = 4 ∧ (lineC y = 9 ∨ lineC y = 13 → ¬ (lineC x = 1 ∨ lineC x = 2)) := by
  unfold brk at h
  by_cases hj : j = true
  · rw [if_pos hj] at h
    omega
  rw [if_neg hj] at h
  by_cases h2 : lineC y = 7 ∧ ¬ (cnt p x = 3 ∨ cnt p x = 4 ∨ cnt p x = 6)
  · rw [if_pos h2] at h
    omega
  rw [if_neg h2] at h
  clear h2
  have key : ∀ c, cnt q y = c → (c = 3 ∨ c = 4) → False := by
    intro c hc hc2
    rw [hc] at h
    unfold placeL at h
    split at h
    · omega
    · rw [if_pos (by omega)] at h
      omega
  refine ⟨by simpa using hj, fun g => key 3 (by rw [cnt_keep (by omega)]; exact g) (.inl rfl), fun g => key 4 (by rw [cnt_keep (by omega)]; exact g) (.inr rfl), fun g g2 => ?_⟩
  rw [cnt_keep (show ¬ lineC x = 7 by omega), cnt_keep (show ¬ lineC y = 7 by omega)] at h
  generalize lineC x = a at g2 h
  generalize lineC y = b at g h
  unfold nxs placeL at h
  rw [if_neg (show ¬ a = 3 by omega)] at h
  rw [if_neg (by omega), if_neg (by omega), if_neg (by omega), if_neg (by omega), if_pos (by omega)] at h
  omega
theorem clusterAt_no {l : List Int} (ho : okT l = true) (i : Nat) (hi : i + 1 < l.length) (hj : (jb l).getD (i + 1) false = false) : clusterAt l ((i : Int) + 1) = (i : Int) + 1 := by
  unfold clusterAt
  rw [if_pos ⟨ho, by omega, by omega⟩, show ((i : Int) + 1).toNat = i + 1 from by omega]
  unfold dn
  rw [hj]
  rfl
theorem fb_l0 (l : List Int) (ho : okT l = true) (hne : breaksOfL l ≠ []) : ∀ (n i k : Nat), i + n + 1 = (breaksOfL l).length → 3 * n + 300 ≤ k → laws_FnBreaks.l0 k l (breaksOfL l) (i : Int) = some true
  | 0, i, k, hi, hk => by
    obtain ⟨k, rfl⟩ : ∃ m, k = m + 1 := ⟨k - 1, by omega⟩
    have h80 := breaksOfL_len l
    have hlen := bk_len hne
    rw [laws_FnBreaks.l0, w64_len (by omega) (by omega), if_neg (by omega), if_pos (by omega), w64 (by omega) (by omega), if_pos (by omega), if_pos (by omega), rd_last _ hne, bk_last hne]
    rfl
  | n + 1, i, k, hi, hk => by
    obtain ⟨k, rfl⟩ : ∃ m, k = m + 2 := ⟨k - 2, by omega⟩
    have ih := fb_l0 l ho hne n (i + 1) k (by omega) (by omega)
    have h80 := breaksOfL_len l
    have hlen := bk_len hne
    obtain ⟨p, q, s, t, hb, hj, hs⟩ := bk_at ho i (by omega)
    rw [show ((i + 1 : Nat) : Int) = (i : Int) + 1 from by omega] at ih
    have hw : wrap64 ((i : Int) + 1) = (i : Int) + 1 := w64_len (by omega) (by omega)
    have hr1 : rd l ((i : Int) + 1) = l.getD (i + 1) 0 := by rw [show (i : Int) + 1 = ((i + 1 : Nat) : Int) from by omega, rd_nat]
    have h2 : (breaksOfL l).getD i 0 = 2 ↔ lineC (l.getD i 0) = 4 := by rw [hb]; exact brk2 hj
    have h1 : (breaksOfL l).getD i 0 = 1 → _ := fun g => brk1_no (hb.symm.trans g)
    have p0 : (0 : Int) ≤ (i : Int) := by omega
    have pl : (i : Int) < ((breaksOfL l).length : Int) := by omega
    have e2 : laws_FnBreaks.j2 (k + 1) l (breaksOfL l) (i : Int) (lineC (l.getD i 0)) (lineC (l.getD (i + 1) 0)) false = some true := by
      rw [laws_FnBreaks.j2, if_neg (by simp), if_pos p0, if_pos pl, rd_nat, hw, ih]
      by_cases hv : (breaksOfL l).getD i 0 = 1
      · rw [if_pos hv]
        obtain ⟨_, _, _, g⟩ := h1 hv
        by_cases c9 : lineC (l.getD (i + 1) 0) = 9
        · have := g (.inl c9)
          rw [if_pos c9, if_neg (by omega), if_neg (by omega)]
        · rw [if_neg c9]
          by_cases c13 : lineC (l.getD (i + 1) 0) = 13
          · have := g (.inr c13)
            rw [if_pos c13, if_neg (by omega), if_neg (by omega)]
          · rw [if_neg c13]
      · rw [if_neg hv]
    rw [laws_FnBreaks.l0, hw, if_pos (by omega), if_pos (by omega), if_pos (by omega), rd_nat, specLine _ _ (by omega)]
    simp only [Option.bind_some]
    rw [if_pos (by omega), if_pos (by omega), hr1, specLine _ _ (by omega)]
    simp only [Option.bind_some]
    rw [if_pos pl, rd_nat]
    have hx : (((breaksOfL l).getD i 0 == 2) != (lineC (l.getD i 0) == 4)) = false := by
      rw [bne_eq_false_iff_eq, Bool.eq_iff_iff, beq_iff_eq, beq_iff_eq]
      exact h2
    rw [hx, if_neg (by simp)]
    by_cases hv : (breaksOfL l).getD i 0 = 1
    · obtain ⟨g1, g2, g3, _⟩ := h1 hv
      rw [if_pos hv, implClusterAt _ _ _ (by omega)]
      simp only [Option.bind_some]
      rw [clusterAt_no ho i (by omega) g1, if_pos rfl, if_neg g2, show (lineC (l.getD (i + 1) 0) == 4) = false from beq_eq_false_iff_ne.2 g3, e2]
    · rw [if_neg hv, e2]
theorem FnBreaks : laws_FnBreaks.Pure := by
  intro l _ _ hl
  obtain ⟨K, hK⟩ : ∃ K : Nat, 4000 ≤ K := ⟨4000, Nat.le_refl _⟩
  refine ⟨K + 1, ?_⟩
  unfold laws_FnBreaks.f
  by_cases h0 : (l.length : Int) > 1048576
  · rw [if_pos h0]
  rw [if_neg h0]
  obtain ⟨b, e, hb⟩ := open_ok hl
  obtain ⟨v, q, e2, hv, _, _, _⟩ := any_ok hb 0 (by omega) (by omega) (K + 1) (by omega)
  have h80 := breaksOfL_len v
  have hd : spec_DrawBreaksOf.f (K + 1) l = some v := Option.bind_eq_some_iff.2 ⟨(b, 0), e, Option.bind_eq_some_iff.2 ⟨(v, q), e2, rfl⟩⟩
  refine Option.bind_eq_some_iff.2 ⟨v, hd, Option.bind_eq_some_iff.2 ⟨breaksOfL v, implBreaksOf v (K + 1) (by omega), Option.bind_eq_some_iff.2 ⟨breaksOfL v, specBreaksOf v (by omega) (K + 1) (by omega) (by omega), Option.bind_eq_some_iff.2 ⟨true, wcInts_ok _ (by omega) (K + 1) (by omega), ?_⟩⟩⟩⟩
  rw [if_pos rfl]
  by_cases hne : breaksOfL v = []
  · rw [hne, laws_FnBreaks.j0, if_pos (by rfl), specBreaksOf v (by omega) K (by omega) (by omega), hne]
    simp only [Option.bind_some]
    rw [wcInts_ok [] (by simp) K (by simp; omega)]
    rfl
  · have hpos : 0 < (breaksOfL v).length := List.length_pos_iff.2 hne
    have ho : okT v = true := by
      by_cases h : okT v = true
      · exact h
      · exfalso
        apply hne
        unfold breaksOfL
        rw [if_neg h]
    rw [show (((breaksOfL v).length : Int) == 0) = false from beq_eq_false_iff_ne.2 (by omega), laws_FnBreaks.j0, if_neg (by simp)]
    exact fb_l0 v ho hne ((breaksOfL v).length - 1) 0 K (by omega) (by omega)

end Go.Proofs.Ytmjhdgofepdgkaa.Pure
