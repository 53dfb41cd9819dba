/- Of drawn letters and spans: WidesOf is the reference's, only a cluster's first letter is wide, as wide as ClusterWide by the size there, and twice the size is twice the width: the law FnWides answers true; no condition. -/
import Derived.Test.YtmjhdgofepdgkaaPFnWidesx17
namespace Go.Proofs.Ytmjhdgofepdgkaa.Pure
open Go.RowKit Go.Proofs.Ytmjhdgofepdgkaa.PFnWides Go.Proofs.YtmjhdgofepdgkaaW.PrintWords Go.Proofs.YtmjhdgofepdgkaaW.PrintLast Go.Proofs.YtmjhdgofepdgkaaW.PrintMore
set_option linter.unusedVariables false
set_option linter.unusedSimpArgs false

/-! small lemmas on whole numbers, lists and rounds -/
theorem w64 {x : Int} (h : -9223372036854775808 ≤ x) (h' : x ≤ 9223372036854775807) : wrap64 x = x := by
 unfold wrap64
 omega
theorem in_i64 {x : Int} (h : (Lit.int .i64 x).wf = true) : -9223372036854775808 ≤ x ∧ x ≤ 9223372036854775807 := by
 simpa [Lit.wf, IntKind.min, IntKind.max, IntKind.bits, IntKind.signed] using h
theorem in_u8 {x : Int} (h : (Lit.int .u8 x).wf = true) : 0 ≤ x ∧ x ≤ 255 := by
 simpa [Lit.wf, IntKind.min, IntKind.max, IntKind.bits, IntKind.signed] using h
theorem rd_nat (l : List Int) (i : Nat) : rd l (i : Int) = l.getD i 0 := by
 unfold rd
 rw [Int.toNat_natCast]

/-- the class of a letter for its side -/
def bidi (a : Int) : Int :=
 if (97 ≤ a ∧ a ≤ 122) ∨ (65 ≤ a ∧ a ≤ 90) ∨ (19968 ≤ a ∧ a ≤ 40959) then 1 else if 1488 ≤ a ∧ a ≤ 1514 then 2 else if 1569 ≤ a ∧ a ≤ 1610 then 3
 else if 48 ≤ a ∧ a ≤ 57 then 4 else if 1632 ≤ a ∧ a ≤ 1641 then 7 else if a = 43 ∨ a = 45 then 5 else if 35 ≤ a ∧ a ≤ 37 then 6
 else if a = 44 ∨ a = 46 ∨ a = 47 ∨ a = 58 then 8 else if 768 ≤ a ∧ a ≤ 879 then 9 else if a = 8203 ∨ a = 8205 ∨ a = 173 then 10
 else if a = 9 then 11 else if a = 32 then 12 else if 8234 ≤ a ∧ a ≤ 8238 then a - 8220 else if 8294 ≤ a ∧ a ≤ 8297 then a - 8275 else 13
theorem or_ite {α : Type} {p q : Prop} [Decidable p] [Decidable q] (x y : α) : (if p ∨ q then x else y) = if p then x else if q then x else y := by
 by_cases h1 : p <;> by_cases h2 : q <;> simp [h1, h2]

theorem specIn (a b c : Int) : spec_l1In.f a b c = some (decide (b ≤ a ∧ a ≤ c)) := by
 unfold spec_l1In.f
 by_cases h1 : b ≤ a <;> by_cases h2 : a ≤ c <;> simp [h1, h2]

theorem specMoves (a : Int) (k : Nat) (hk : 12 ≤ k) : spec_l1Moves.f k a = some (if 8234 ≤ a ∧ a ≤ 8238 then a - 8220 else if 8294 ≤ a ∧ a ≤ 8297 then a - 8275 else 13) := by
 obtain ⟨k, rfl⟩ : ∃ m, k = m + 12 := ⟨k - 12, by omega⟩
 unfold spec_l1Moves.f
 by_cases h1 : a = 8234
 ·subst h1; simp [spec_l1Moves.l0, rd, wrap64]
 by_cases h2 : a = 8235
 ·subst h2; simp [spec_l1Moves.l0, rd, wrap64]
 by_cases h3 : a = 8236
 ·subst h3; simp [spec_l1Moves.l0, rd, wrap64]
 by_cases h4 : a = 8237
 ·subst h4; simp [spec_l1Moves.l0, rd, wrap64]
 by_cases h5 : a = 8238
 ·subst h5; simp [spec_l1Moves.l0, rd, wrap64]
 by_cases h6 : a = 8294
 ·subst h6; simp [spec_l1Moves.l0, rd, wrap64]
 by_cases h7 : a = 8295
 ·subst h7; simp [spec_l1Moves.l0, rd, wrap64]
 by_cases h8 : a = 8296
 ·subst h8; simp [spec_l1Moves.l0, rd, wrap64]
 by_cases h9 : a = 8297
 ·subst h9; simp [spec_l1Moves.l0, rd, wrap64]
 rw [if_neg (by omega), if_neg (by omega)]
 simp [spec_l1Moves.l0, rd, wrap64, Ne.symm h1, Ne.symm h2, Ne.symm h3, Ne.symm h4, Ne.symm h5, Ne.symm h6, Ne.symm h7, Ne.symm h8, Ne.symm h9, eq_comm, h1, h2, h3, h4, h5, h6, h7, h8, h9]
/-- the class of a sign -/
def bsign (a : Int) : Int :=
 if a = 43 ∨ a = 45 then 5 else if 35 ≤ a ∧ a ≤ 37 then 6
 else if a = 44 ∨ a = 46 ∨ a = 47 ∨ a = 58 then 8 else if 768 ≤ a ∧ a ≤ 879 then 9 else if a = 8203 ∨ a = 8205 ∨ a = 173 then 10
 else if a = 9 then 11 else if a = 32 then 12 else if 8234 ≤ a ∧ a ≤ 8238 then a - 8220 else if 8294 ≤ a ∧ a ≤ 8297 then a - 8275 else 13
theorem specSigns (a : Int) (k : Nat) (hk : 20 ≤ k) : spec_l1Signs.f k a = some (bsign a) := by
 obtain ⟨k, rfl⟩ : ∃ m, k = m + 20 := ⟨k - 20, by omega⟩
 unfold spec_l1Signs.f bsign
 simp only [spec_l1Signs.j0, spec_l1Signs.j1, spec_l1Signs.j2, specIn, specMoves a _ (show 12 ≤ k + 17 by omega), Option.bind_some, decide_eq_true_eq, beq_iff_eq, if_true, ↓reduceIte]
 simp only [or_ite, apply_ite some]
theorem specBidi (a : Int) (k : Nat) (hk : 30 ≤ k) : spec_RuneBidi.f k a = some (bidi a) := by
 obtain ⟨k, rfl⟩ : ∃ m, k = m + 30 := ⟨k - 30, by omega⟩
 unfold spec_RuneBidi.f bidi
 simp only [spec_RuneBidi.j0, specIn, specSigns a _ (show 20 ≤ k + 29 by omega), Option.bind_some, decide_eq_true_eq, if_true, ↓reduceIte, bsign]
 simp only [or_ite, apply_ite some]

theorem lookR_is {l : List _} {a o b : Int} (h1 : ∀ x ∈ l, hitR x a = true → x.f2 = b) (h2 : (∀ x ∈ l, hitR x a = false) → o = b) : lookR l a o = b := by
 induction l with
 | nil => exact h2 (fun x hx => by cases hx)
 | cons x xs ih =>
  cases hh : hitR x a with
  | true =>
   have : lookR (x :: xs) a o = x.f2 := by simp [lookR, List.find?_cons, hh]
   rw [this]
   exact h1 x List.mem_cons_self hh
  | false =>
   have : lookR (x :: xs) a o = lookR xs a o := by simp [lookR, List.find?_cons, hh]
   rw [this]
   exact ih (fun y hy => h1 y (List.mem_cons_of_mem _ hy)) (fun hn => h2 (fun y hy => by
    rcases List.mem_cons.1 hy with rfl | hy
    ·exact hh
    ·exact hn y hy))
theorem bidi_none {a : Int} (h1 : ¬ (9 ≤ a ∧ a ≤ 9)) (h2 : ¬ (32 ≤ a ∧ a ≤ 32)) (h3 : ¬ (35 ≤ a ∧ a ≤ 37)) (h4 : ¬ (43 ≤ a ∧ a ≤ 43)) (h5 : ¬ (44 ≤ a ∧ a ≤ 44)) (h6 : ¬ (45 ≤ a ∧ a ≤ 45)) (h7 : ¬ (46 ≤ a ∧ a ≤ 47)) (h8 : ¬ (48 ≤ a ∧ a ≤ 57)) (h9 : ¬ (58 ≤ a ∧ a ≤ 58)) (h10 : ¬ (65 ≤ a ∧ a ≤ 90)) (h11 : ¬ (97 ≤ a ∧ a ≤ 122)) (h12 : ¬ (173 ≤ a ∧ a ≤ 173)) (h13 : ¬ (768 ≤ a ∧ a ≤ 879)) (h14 : ¬ (1488 ≤ a ∧ a ≤ 1514)) (h15 : ¬ (1569 ≤ a ∧ a ≤ 1610)) (h16 : ¬ (1632 ≤ a ∧ a ≤ 1641)) (h17 : ¬ (8203 ≤ a ∧ a ≤ 8203)) (h18 : ¬ (8205 ≤ a ∧ a ≤ 8205)) (h19 : ¬ (8234 ≤ a ∧ a ≤ 8234)) (h20 : ¬ (8235 ≤ a ∧ a ≤ 8235)) (h21 : ¬ (8236 ≤ a ∧ a ≤ 8236)) (h22 : ¬ (8237 ≤ a ∧ a ≤ 8237)) (h23 : ¬ (8238 ≤ a ∧ a ≤ 8238)) (h24 : ¬ (8294 ≤ a ∧ a ≤ 8294)) (h25 : ¬ (8295 ≤ a ∧ a ≤ 8295)) (h26 : ¬ (8296 ≤ a ∧ a ≤ 8296)) (h27 : ¬ (8297 ≤ a ∧ a ≤ 8297)) (h28 : ¬ (19968 ≤ a ∧ a ≤ 40959)) : bidi a = 13 := by
 have e43 : ¬ a = 43 := (fun e => h4 ⟨by omega, by omega⟩)
 have e45 : ¬ a = 45 := (fun e => h6 ⟨by omega, by omega⟩)
 have e44 : ¬ a = 44 := (fun e => h5 ⟨by omega, by omega⟩)
 have e58 : ¬ a = 58 := (fun e => h9 ⟨by omega, by omega⟩)
 have e8203 : ¬ a = 8203 := (fun e => h17 ⟨by omega, by omega⟩)
 have e8205 : ¬ a = 8205 := (fun e => h18 ⟨by omega, by omega⟩)
 have e173 : ¬ a = 173 := (fun e => h12 ⟨by omega, by omega⟩)
 have e9 : ¬ a = 9 := (fun e => h1 ⟨by omega, by omega⟩)
 have e32 : ¬ a = 32 := (fun e => h2 ⟨by omega, by omega⟩)
 have e8234 : ¬ a = 8234 := (fun e => h19 ⟨by omega, by omega⟩)
 have e8235 : ¬ a = 8235 := (fun e => h20 ⟨by omega, by omega⟩)
 have e8236 : ¬ a = 8236 := (fun e => h21 ⟨by omega, by omega⟩)
 have e8237 : ¬ a = 8237 := (fun e => h22 ⟨by omega, by omega⟩)
 have e8238 : ¬ a = 8238 := (fun e => h23 ⟨by omega, by omega⟩)
 have e8294 : ¬ a = 8294 := (fun e => h24 ⟨by omega, by omega⟩)
 have e8295 : ¬ a = 8295 := (fun e => h25 ⟨by omega, by omega⟩)
 have e8296 : ¬ a = 8296 := (fun e => h26 ⟨by omega, by omega⟩)
 have e8297 : ¬ a = 8297 := (fun e => h27 ⟨by omega, by omega⟩)
 have e46 : ¬ a = 46 := (fun e => h7 ⟨by omega, by omega⟩)
 have e47 : ¬ a = 47 := (fun e => h7 ⟨by omega, by omega⟩)
 have g1 : ¬ (8234 ≤ a ∧ a ≤ 8238) := by clear h1 h2 h3 h4 h5 h6 h7 h8 h9 h10 h11 h12 h13 h14 h15 h16 h17 h18 h19 h20 h21 h22 h23 h24 h25 h26 h27 h28; omega
 have g2 : ¬ (8294 ≤ a ∧ a ≤ 8297) := by clear h1 h2 h3 h4 h5 h6 h7 h8 h9 h10 h11 h12 h13 h14 h15 h16 h17 h18 h19 h20 h21 h22 h23 h24 h25 h26 h27 h28 g1; omega
 unfold bidi
 simp only [h1, h2, h3, h4, h5, h6, h7, h8, h9, h10, h11, h12, h13, h14, h15, h16, h17, h18, h19, h20, h21, h22, h23, h24, h25, h26, h27, h28, e43, e45, e44, e58, e8203, e8205, e173, e9, e32, e46, e47, g1, g2, or_self, if_false, ↓reduceIte]
theorem implBidi (a : Int) : impl_RuneBidi.f a = some (bidi a) := by
 unfold impl_RuneBidi.f impl_bidiReaches.f impl_find.f
 simp only [Option.bind_some]
 rw [if_pos ⟨by decide, by decide⟩]
 simp only [Option.bind_some, Option.some.injEq]
 apply lookR_is
 ·intro x hx hh
  unfold hitR at hh
  simp only [List.mem_cons, List.not_mem_nil, or_false] at hx
  simp only [Bool.and_eq_true, decide_eq_true_eq] at hh
  obtain ⟨h1, h2⟩ := hh
  unfold bidi
  rcases hx with rfl | rfl | rfl | rfl | rfl | rfl | rfl | rfl | rfl | rfl | rfl | rfl | rfl | rfl | rfl | rfl | rfl | rfl | rfl | rfl | rfl | rfl | rfl | rfl | rfl | rfl | rfl | rfl
  all_goals
   simp only [] at h1 h2 ⊢
   simp (disch := omega) only [if_pos, if_neg]
   try omega
 ·intro hn
  simp only [List.mem_cons, List.not_mem_nil, or_false, forall_eq_or_imp, forall_eq, hitR, Bool.and_eq_false_iff, decide_eq_false_iff_not, ← Classical.not_and_iff_not_or_not] at hn
  obtain ⟨h1, h2, h3, h4, h5, h6, h7, h8, h9, h10, h11, h12, h13, h14, h15, h16, h17, h18, h19, h20, h21, h22, h23, h24, h25, h26, h27, h28⟩ := hn
  exact (bidi_none h1 h2 h3 h4 h5 h6 h7 h8 h9 h10 h11 h12 h13 h14 h15 h16 h17 h18 h19 h20 h21 h22 h23 h24 h25 h26 h27 h28).symm

/-! the class of a letter -/

/-! lists, place by place: what lies ahead of a place, the place, what lies behind -/
theorem getD_mid {α : Type} (pre : List α) (x : α) (suf : List α) (d : α) : (pre ++ x :: suf).getD ((pre.length : Int)).toNat d = x := by
 rw [Int.toNat_natCast, List.getD_eq_getElem?_getD]
 simp
theorem set_mid {α : Type} (pre : List α) (x y : α) (suf : List α) : (pre ++ x :: suf).set ((pre.length : Int)).toNat y = pre ++ y :: suf := by
 rw [Int.toNat_natCast]
 simp
theorem rd_mid (pre : List Int) (x : Int) (suf : List Int) : rd (pre ++ x :: suf) (pre.length : Int) = x := getD_mid pre x suf 0
theorem len_mid {α : Type} (pre : List α) (x : α) (suf : List α) : (pre.length : Int) < ((pre ++ x :: suf).length : Int) := by
 simp only [List.length_append, List.length_cons]
 omega
theorem len_end {α : Type} (pre : List α) : ¬ (pre.length : Int) < ((pre ++ []).length : Int) := by simp
theorem len_snoc {α : Type} (pre : List α) (x : α) : ((pre ++ [x]).length : Int) = (pre.length : Int) + 1 := by simp
theorem app_cons {α : Type} (pre : List α) (x : α) (suf : List α) : pre ++ x :: suf = (pre ++ [x]) ++ suf := by simp
theorem w64_len {n : Int} (h0 : 0 ≤ n) (h : n ≤ 9000000000000000000) : wrap64 (n + 1) = n + 1 := w64 (by omega) (by omega)

theorem and_ite {α : Type} {p q : Prop} [Decidable p] [Decidable q] (x y : α) : (if p ∧ q then x else y) = if p then (if q then x else y) else y := by
 by_cases h1 : p <;> by_cases h2 : q <;> simp [h1, h2]
theorem dup_ite {α : Type} {p : Prop} [Decidable p] (x y z : α) : (if p then (if p then x else y) else z) = if p then x else z := by
 by_cases h1 : p <;> simp [h1]

/-- letters that may be clustered -/
def okT (l : List Int) : Bool := decide ((l.length : Int) ≤ 80) && l.all isL
theorem implLettersOk (l : List Int) : impl_lettersOk.f l = some (okT l) := by
 unfold impl_lettersOk.f okT
 congr 2
 induction l with
 | nil => rfl
 | cons x r ih => simp only [List.any_cons, List.all_cons, Bool.not_or, Bool.not_not, ih]
theorem specSize (x : Int) : ∃ n, spec_l1Size.f x = some n ∧ (n = 0 ↔ isL x = false) := by
 unfold spec_l1Size.f isL
 simp only [specIn, Option.bind_some, decide_eq_true_eq]
 by_cases h1 : 0 ≤ x ∧ x ≤ 127
 ·exact ⟨1, by rw [if_pos h1], by simp; omega⟩
 by_cases h2 : 128 ≤ x ∧ x ≤ 2047
 ·exact ⟨2, by rw [if_neg h1, if_pos h2], by simp; omega⟩
 by_cases h3 : 55296 ≤ x ∧ x ≤ 57343
 ·exact ⟨0, by rw [if_neg h1, if_neg h2, if_pos h3], by simp; omega⟩
 by_cases h4 : 2048 ≤ x ∧ x ≤ 65535
 ·exact ⟨3, by rw [if_neg h1, if_neg h2, if_neg h3, if_pos h4], by simp; omega⟩
 by_cases h5 : 65536 ≤ x ∧ x ≤ 1114111
 ·exact ⟨4, by rw [if_neg h1, if_neg h2, if_neg h3, if_neg h4, if_pos h5], by simp; omega⟩
 ·exact ⟨0, by rw [if_neg h1, if_neg h2, if_neg h3, if_neg h4, if_neg h5], by simp; omega⟩
theorem specL1Ok_l0 : ∀ (suf pre : List Int) (k : Nat), (pre ++ suf).length ≤ 1048576 → suf.length + 1 ≤ k →
  spec_l1Ok.l0 k (pre ++ suf) (pre.length : Int) = some (decide (((pre ++ suf).length : Int) ≤ 80) && suf.all isL)
 | [], pre, k, hl, hk => by
  obtain ⟨k, rfl⟩ : ∃ m, k = m + 1 := ⟨k - 1, by simp at hk; omega⟩
  simp only [spec_l1Ok.l0]
  rw [if_neg (len_end pre)]
  simp
 | x :: suf, pre, k, hl, hk => by
  obtain ⟨k, rfl⟩ : ∃ m, k = m + 1 := ⟨k - 1, by simp at hk; omega⟩
  have hp : (pre.length : Int) ≤ 1048576 := by simp at hl; omega
  have ih := specL1Ok_l0 suf (pre ++ [x]) k (by simpa using hl) (by simp at hk; omega)
  rw [len_snoc, ← app_cons] at ih
  obtain ⟨n, e, hn⟩ := specSize x
  simp only [spec_l1Ok.l0]
  rw [if_pos (len_mid pre x suf), if_pos (by omega), rd_mid, e, w64_len (by omega) (by omega), ih]
  simp only [Option.bind_some, List.all_cons]
  cases h : isL x with
  | false => rw [if_pos (hn.2 h)]; simp
  | true => rw [if_neg (fun g => by rw [hn.1 g] at h; cases h)]; simp
theorem specL1Ok (l : List Int) (hl : l.length ≤ 1048576) (k : Nat) (hk : l.length + 1 ≤ k) : spec_l1Ok.f k l = some (okT l) := specL1Ok_l0 l [] k (by simpa using hl) hk
theorem okT_len {l : List Int} (h : okT l = true) : l.length ≤ 80 := by
 unfold okT at h
 simp only [Bool.and_eq_true, decide_eq_true_eq] at h
 omega

def reg (x : Int) : Prop := 127462 ≤ x ∧ x ≤ 127487
instance (x : Int) : Decidable (reg x) := by unfold reg; infer_instance
/-- the state behind a letter: 0 at the start, 1 behind 13, 2 behind 10, 3 and 4 behind an odd and an even flag letter, 5 behind others -/
def nx (s x : Int) : Int := if x = 13 then 1 else if x = 10 then 2 else if reg x then (if s = 3 then 4 else 3) else 5
def jn (s x : Int) : Bool := if s = 0 then false else if s = 2 ∨ x = 10 then decide (s = 1 ∧ x = 10) else if bidi x = 9 ∨ x = 8205 then true else if reg x then decide (s = 3) else false
def joinGo : Int → List Int → List Bool
 | _, [] => []
 | s, x :: r => jn s x :: joinGo (nx s x) r
def st (l : List Int) : Int := l.foldl nx 0
def tr (l : List Int) : Nat := l.foldl (fun n y => if reg y then n + 1 else 0) 0
def jb (l : List Int) : List Bool := joinGo 0 l
theorem st_snoc (q : List Int) (y : Int) : st (q ++ [y]) = nx (st q) y := by simp [st]
theorem tr_snoc (q : List Int) (y : Int) : tr (q ++ [y]) = if reg y then tr q + 1 else 0 := by simp [tr]
theorem snoc_cases (l : List Int) : l = [] ∨ ∃ q y, l = q ++ [y] := by
 rcases List.eq_nil_or_concat l with h | ⟨q, t, h⟩
 ·exact .inl h
 ·exact .inr ⟨q, t, by simpa using h⟩
theorem st3 : ∀ (n : Nat) (l : List Int), l.length = n → (st l = 3 ↔ tr l % 2 = 1)
 | 0, l, h => by
  obtain rfl := List.eq_nil_of_length_eq_zero h
  simp [st, tr]
 | n + 1, l, h => by
  rcases snoc_cases l with rfl | ⟨q, y, rfl⟩
  ·simp at h
  ·have ih := st3 n q (by simpa using h)
   rw [st_snoc, tr_snoc]
   unfold nx
   by_cases hr : reg y
   ·have h13 : ¬ y = 13 := by unfold reg at hr; omega
    have h10 : ¬ y = 10 := by unfold reg at hr; omega
    rw [if_neg h13, if_neg h10, if_pos hr, if_pos hr]
    by_cases h3 : st q = 3
    ·have := ih.1 h3
     rw [if_pos h3]
     omega
    ·have : ¬ tr q % 2 = 1 := fun h => h3 (ih.2 h)
     rw [if_neg h3]
     omega
   ·rw [if_neg hr, if_neg hr]
    repeat' split
    all_goals simp
theorem joinGo_len : ∀ (l : List Int) (s : Int), (joinGo s l).length = l.length
 | [], _ => rfl
 | x :: r, s => by simp [joinGo, joinGo_len r]
theorem joinGo_append : ∀ (a b : List Int) (s : Int), joinGo s (a ++ b) = joinGo s a ++ joinGo (a.foldl nx s) b
 | [], b, s => rfl
 | x :: a, b, s => by simp [joinGo, joinGo_append a b]
theorem jb_at (pre : List Int) (x : Int) (suf : List Int) : (jb (pre ++ x :: suf)).getD pre.length false = jn (st pre) x := by
 unfold jb
 rw [joinGo_append, List.getD_eq_getElem?_getD, List.getElem?_append_right (by rw [joinGo_len]; exact Nat.le_refl _), joinGo_len]
 simp [joinGo, st]
theorem jb_len (l : List Int) : (jb l).length = l.length := joinGo_len l 0
theorem jb_zero (l : List Int) : (jb l).getD 0 false = false := by
 cases l with
 | nil => rfl
 | cons x r => simp [jb, joinGo, jn]
theorem implJoins (s x : Int) (k : Nat) (hk : 1 ≤ k) : impl_joining_joins.f k s x = some (jn s x) := by
 obtain ⟨k, rfl⟩ : ∃ m, k = m + 1 := ⟨k - 1, by omega⟩
 unfold impl_joining_joins.f jn
 simp only [impl_joining_joins.j0, implBidi, impl_isRegional.f, Option.bind_some, beq_iff_eq]
 generalize bidi x = c
 unfold reg
 by_cases h0 : s = 0
 ·simp [h0]
 by_cases h2 : s = 2
 ·subst h2
  simp
 by_cases h10 : x = 10
 ·subst h10
  by_cases h1 : s = 1 <;> simp [h0, h1, h2]
 by_cases h9 : c = 9
 ·simp [h0, h2, h10, h9]
 by_cases h8 : x = 8205
 ·subst h8
  simp [h0, h2, h9]
 by_cases g1 : 127462 ≤ x <;> by_cases g2 : x ≤ 127487 <;> simp [h0, h2, h10, h9, h8, g1, g2] <;> (try (by_cases h3 : s = 3 <;> simp [h3]))
theorem implNext (s x : Int) (k : Nat) (hk : 1 ≤ k) : impl_joining_next.f k s x = some (nx s x) := by
 obtain ⟨k, rfl⟩ : ∃ m, k = m + 1 := ⟨k - 1, by omega⟩
 unfold impl_joining_next.f nx
 simp only [impl_joining_next.j0, impl_isRegional.f, Option.bind_some]
 by_cases h13 : x = 13
 ·rw [if_pos h13, if_pos h13]
 by_cases h10 : x = 10
 ·rw [if_neg h13, if_neg h13, if_pos h10, if_pos h10]
 rw [if_neg h13, if_neg h13, if_neg h10, if_neg h10]
 unfold reg
 by_cases g1 : 127462 ≤ x <;> by_cases g2 : x ≤ 127487 <;> by_cases h3 : s = 3 <;> simp [g1, g2, h3]
theorem implJoined_l0 : ∀ (suf pre : List Int) (out : List Bool) (s : Int) (k : Nat), (pre ++ suf).length ≤ 1048576 → out.length = pre.length → suf.length + 2 ≤ k →
  impl_joined.l0 k out s (pre ++ suf) ((pre ++ suf).length : Int) (pre.length : Int) = some (out ++ joinGo s suf)
 | [], pre, out, s, k, hl, ho, hk => by
  obtain ⟨k, rfl⟩ : ∃ m, k = m + 1 := ⟨k - 1, by simp at hk; omega⟩
  simp only [impl_joined.l0, joinGo]
  rw [if_neg (len_end pre)]
  simp
 | x :: suf, pre, out, s, k, hl, ho, hk => by
  obtain ⟨k, rfl⟩ : ∃ m, k = m + 1 := ⟨k - 1, by simp at hk; omega⟩
  have hp : (pre.length : Int) ≤ 1048576 := by simp at hl; omega
  have ih := implJoined_l0 suf (pre ++ [x]) (out ++ [jn s x]) (nx s x) k (by simpa using hl) (by simp [ho]) (by simp at hk; omega)
  rw [len_snoc, ← app_cons] at ih
  simp only [impl_joined.l0, joinGo]
  rw [if_pos (len_mid pre x suf), if_pos (by omega), if_pos (len_mid pre x suf), rd_mid, implJoins s x k (by simp at hk; omega), implNext s x k (by simp at hk; omega)]
  simp only [Option.bind_some]
  rw [if_pos (by omega), w64_len (by omega) (by omega), ih]
  simp
theorem implJoined (l : List Int) (hl : l.length ≤ 1048576) (k : Nat) (hk : l.length + 2 ≤ k) : impl_joined.f k l = some (jb l) := implJoined_l0 l [] [] 0 k (by simpa using hl) rfl hk
theorem specFlag (x : Int) : spec_l2Flag.f x = some (decide (reg x)) := by
 unfold spec_l2Flag.f reg
 rw [specIn]
 rfl
theorem par (m : Nat) : (((m : Nat) : Int) % 2 == 1) = decide (m % 2 = 1) := by
 rw [Bool.eq_iff_iff, beq_iff_eq, decide_eq_true_eq]
 omega
theorem specJoins_l0 (x : Int) : ∀ (n : Nat) (pre suf : List Int) (c : Nat) (k : Nat), pre.length = n → n ≤ 1048576 → c + n ≤ 3000000 → n + 1 ≤ k →
  spec_l2Joins.l0 k (pre ++ suf) x (c : Int) ((pre.length : Int) - 1) = some (decide (reg x) && decide ((c + tr pre) % 2 = 1))
 | 0, pre, suf, c, k, hn, hl, hc, hk => by
  obtain ⟨k, rfl⟩ : ∃ m, k = m + 1 := ⟨k - 1, by omega⟩
  obtain rfl := List.eq_nil_of_length_eq_zero hn
  simp only [spec_l2Joins.l0]
  rw [if_neg (by simp), specFlag]
  simp only [Option.bind_some, decide_eq_true_eq]
  by_cases h : reg x
  ·rw [if_pos h, Int.tmod_eq_emod_of_nonneg (by omega)]
   show some ((c : Int) % 2 == 1) = some (decide (reg x) && decide ((c + 0) % 2 = 1))
   rw [decide_eq_true h, Bool.true_and, Nat.add_zero, par]
  ·rw [if_neg h]
   simp [h]
 | n + 1, pre, suf, c, k, hn, hl, hc, hk => by
  obtain ⟨k, rfl⟩ : ∃ m, k = m + 1 := ⟨k - 1, by omega⟩
  rcases snoc_cases pre with rfl | ⟨q, y, rfl⟩
  ·simp at hn
  have hq : q.length = n := by simpa using hn
  have ih := specJoins_l0 x n q (y :: suf) (c + 1) k hq (by omega) (by omega) (by omega)
  have e1 : ((q ++ [y]).length : Int) - 1 = (q.length : Int) := by simp
  have e2 : (q ++ [y]) ++ suf = q ++ y :: suf := by simp
  simp only [spec_l2Joins.l0]
  rw [e1, e2, if_pos (by omega), if_pos (by omega), if_pos (len_mid q y suf), rd_mid, specFlag, specFlag]
  simp only [Option.bind_some, decide_eq_true_eq]
  rw [tr_snoc]
  by_cases hy : reg y
  ·rw [if_pos hy, if_pos hy, w64 (by omega) (by omega), w64 (by omega) (by omega)]
   have e3 : (c : Int) + 1 = ((c + 1 : Nat) : Int) := by omega
   rw [e3, ih, show c + (tr q + 1) = c + 1 + tr q by omega]
  ·rw [if_neg hy, if_neg hy]
   by_cases h : reg x
   ·rw [if_pos h, Int.tmod_eq_emod_of_nonneg (by omega), decide_eq_true h, Bool.true_and, Nat.add_zero, par]
   ·rw [if_neg h]
    simp [h]
theorem specJoins_mid (pre : List Int) (x : Int) (suf : List Int) (hne : pre ≠ []) (hl : pre.length ≤ 1048576) (k : Nat) (hk : pre.length + 60 ≤ k) : spec_l2Joins.f k (pre ++ x :: suf) (pre.length : Int) = some (jn (st pre) x) := by
 obtain ⟨k, rfl⟩ : ∃ m, k = m + 2 := ⟨k - 2, by omega⟩
 rcases snoc_cases pre with rfl | ⟨q, y, rfl⟩
 ·exact absurd rfl hne
 have hq : q.length + 1 ≤ 1048576 := by simpa using hl
 have hk' : q.length + 59 ≤ k := by simp at hk; omega
 have e1 : wrap64 (((q ++ [y]).length : Int) - 1) = (q.length : Int) := by rw [w64 (by simp only [List.length_append, List.length_singleton]; omega) (by simp only [List.length_append, List.length_singleton]; omega)]; simp
 have e2 : rd ((q ++ [y]) ++ x :: suf) (q.length : Int) = y := by rw [List.append_assoc]; exact rd_mid q y _
 have e4 : (q.length : Int) < (((q ++ [y]) ++ x :: suf).length : Int) := by simp; omega
 have e5 : ((q ++ [y]).length : Int) - 1 = (q.length : Int) := by simp
 have hlp := specJoins_l0 x (q ++ [y]).length (q ++ [y]) (x :: suf) 0 k rfl hl (by omega) (by simp; omega)
 rw [e5] at hlp
 have h3 := st3 (q ++ [y]).length (q ++ [y]) rfl
 have hs1 : st (q ++ [y]) = 1 ↔ y = 13 := by
  rw [st_snoc]; unfold nx
  constructor
  ·intro h; by_cases g : y = 13
   ·exact g
   ·rw [if_neg g] at h; repeat' split at h
    all_goals omega
  ·intro h; rw [if_pos h]
 have hs2 : st (q ++ [y]) = 2 ↔ y = 10 := by
  rw [st_snoc]; unfold nx
  constructor
  ·intro h; by_cases g : y = 10
   ·exact g
   ·rw [if_neg g] at h; repeat' split at h
    all_goals omega
  ·intro h; subst h; simp
 have hs0 : ¬ st (q ++ [y]) = 0 := by
  rw [st_snoc]; unfold nx
  repeat' split
  all_goals omega
 unfold spec_l2Joins.f
 rw [if_pos (by omega), if_pos (len_mid _ x suf), rd_mid]
 unfold jn
 rw [if_neg hs0]
 by_cases hx : x = 10
 ·rw [if_pos hx, if_pos (.inr hx)]
  simp only [spec_l2Joins.j0, if_true]
  rw [e1, if_pos (by omega), if_pos e4, e2]
  by_cases hy : y = 13
  ·rw [if_pos hy]
   simp [hs1.2 hy, hx]
  ·rw [if_neg hy]
   have : ¬ st (q ++ [y]) = 1 := fun h => hy (hs1.1 h)
   simp [this]
 rw [if_neg hx, e1, if_pos (by omega), if_pos e4, e2]
 simp only [spec_l2Joins.j0]
 rw [e1, if_pos (show (0 : Int) ≤ (q.length : Int) by omega), if_pos e4, e2]
 by_cases hy : y = 10
 ·subst hy
  rw [if_pos (by simp), if_neg (by omega), if_pos (.inl (hs2.2 rfl))]
  simp [hx]
 have hy2 : ¬ st (q ++ [y]) = 2 := fun h => hy (hs2.1 h)
 rw [if_neg (by simpa using hy), if_neg (by omega), specBidi x _ (by omega)]
 simp only [Option.bind_some, spec_l2Joins.j1, if_true]
 rw [e1]
 by_cases h9 : bidi x = 9
 ·rw [if_pos h9, if_pos (.inl h9)]
 rw [if_neg h9]
 by_cases h8 : x = 8205
 ·rw [if_pos (by simp [h8]), if_pos (.inr h8)]
 have hlp' : spec_l2Joins.l0 k ((q ++ [y]) ++ x :: suf) x 0 (q.length : Int) = some (decide (reg x) && decide (st (q ++ [y]) = 3)) := by
  refine hlp.trans ?_
  congr 2
  rw [decide_eq_decide, h3, Nat.zero_add]
 rw [if_neg (by simpa using h8), if_neg (by omega), hlp']
 by_cases hr : reg x <;> simp [hr]
theorem split_at (l : List Int) (n : Nat) (h : n < l.length) : ∃ x, l = l.take n ++ x :: l.drop (n + 1) ∧ (l.take n).length = n := by
 refine ⟨l[n], ?_, by simp; omega⟩
 rw [← List.drop_eq_getElem_cons h, List.take_append_drop]
theorem specJoins_at (l : List Int) (n : Nat) (h1 : 1 ≤ n) (h2 : n < l.length) (hl : l.length ≤ 1048576) (k : Nat) (hk : l.length + 60 ≤ k) : spec_l2Joins.f k l (n : Int) = some ((jb l).getD n false) := by
 obtain ⟨x, e, hn⟩ := split_at l n h2
 have hne : l.take n ≠ [] := fun h => by rw [h] at hn; simp at hn; omega
 have h3 := specJoins_mid (l.take n) x (l.drop (n + 1)) hne (by omega) k (by omega)
 have h4 := jb_at (l.take n) x (l.drop (n + 1))
 rw [← e, hn] at h3 h4
 rw [h3, h4]

/-- the place where the cluster over a place begins -/
def dn (bs : List Bool) : Nat → Nat
 | 0 => 0
 | n + 1 => if bs.getD (n + 1) false = true then dn bs n else n + 1
theorem rdB_nat (l : List Bool) (i : Nat) : rdOf false l (i : Int) = l.getD i false := by
 unfold rdOf
 rw [Int.toNat_natCast]
theorem dn_le (bs : List Bool) : ∀ n, dn bs n ≤ n
 | 0 => Nat.le_refl _
 | n + 1 => by
  unfold dn
  have := dn_le bs n
  split <;> omega
def clusterAt (l : List Int) (i : Int) : Int := if okT l = true ∧ 0 ≤ i ∧ i < (l.length : Int) then (dn (jb l) i.toNat : Int) else -1

theorem specAt_l0 (l : List Int) (hl : l.length ≤ 1048576) : ∀ (n k : Nat), n < l.length → n + l.length + 61 ≤ k → spec_l2At.l0 k l (n : Int) = some (dn (jb l) n : Int)
 | 0, k, hn, hk => by
  obtain ⟨k, rfl⟩ : ∃ m, k = m + 1 := ⟨k - 1, by omega⟩
  simp only [spec_l2At.l0]
  rw [if_neg (by omega)]
  simp [dn]
 | n + 1, k, hn, hk => by
  obtain ⟨k, rfl⟩ : ∃ m, k = m + 1 := ⟨k - 1, by omega⟩
  have ih := specAt_l0 l hl n k (by omega) (by omega)
  have e : wrap64 (((n + 1 : Nat) : Int) - 1) = (n : Int) := by rw [w64 (by omega) (by omega)]; omega
  simp only [spec_l2At.l0, dn]
  rw [if_pos (by omega), specJoins_at l (n + 1) (by omega) hn hl k (by omega), e, ih]
  simp only [Option.bind_some]
  by_cases h : (jb l).getD (n + 1) false = true
  ·rw [if_pos h, if_pos h]
  ·rw [if_neg h, if_neg h]

theorem rdB_mid (pre : List Bool) (x : Bool) (suf : List Bool) : rdOf false (pre ++ x :: suf) (pre.length : Int) = x := getD_mid pre x suf false

/-- how wide a letter is -/
def rwide (a : Int) : Int :=
 if bidi a = 9 ∨ bidi a = 10 ∨ 14 ≤ bidi a ∨ a = 10 ∨ a = 13 then 0
 else if a = 105 ∨ a = 106 ∨ a = 108 ∨ a = 102 ∨ a = 116 then 6
 else if a = 109 ∨ a = 119 then 16
 else if 19968 ≤ a ∧ a ≤ 40959 then 20
 else if bidi a = 2 ∨ bidi a = 3 then 12
 else if bidi a = 11 then 40
 else if bidi a = 12 ∨ bidi a = 8 then 6 else 10
theorem implWide (a : Int) (k : Nat) (hk : 10 ≤ k) : impl_RuneWide.f k a = some (rwide a) := by
 obtain ⟨k, rfl⟩ : ∃ m, k = m + 10 := ⟨k - 10, by omega⟩
 unfold impl_RuneWide.f rwide
 rw [implBidi a]
 generalize bidi a = c
 simp only [impl_RuneWide.j0, impl_RuneWide.j1, impl_RuneWide.j2, impl_RuneWide.j3, impl_RuneWide.j4, Option.bind_some, decide_eq_true_eq, beq_iff_eq, if_true, ↓reduceIte, ge_iff_le, Bool.false_eq_true, if_false]
 simp only [dup_ite, or_ite, and_ite, apply_ite some]

def wgo : Int → List Int → List Bool → Int
 | m, x :: xs, b :: bs => if b = true then wgo (mx m (rwide x)) xs bs else m
 | m, _, _ => m
theorem implCW_l0 : ∀ (suf pre : List Int) (bs bp : List Bool) (m : Int) (k : Nat), bs.length = suf.length → bp.length = pre.length → (pre ++ suf).length ≤ 1048576 → suf.length + 12 ≤ k →
  impl_clusterWide.l0 k (pre ++ suf) (bp ++ bs) m (pre.length : Int) = some (wgo m suf bs)
 | [], pre, bs, bp, m, k, hb, hp, hl, hk => by
  obtain ⟨k, rfl⟩ : ∃ j, k = j + 1 := ⟨k - 1, by omega⟩
  simp only [impl_clusterWide.l0]
  rw [if_neg (len_end pre)]
  cases bs <;> rfl
 | x :: suf, pre, [], bp, m, k, hb, hp, hl, hk => by simp at hb
 | x :: suf, pre, b :: bs, bp, m, k, hb, hp, hl, hk => by
  obtain ⟨k, rfl⟩ : ∃ j, k = j + 1 := ⟨k - 1, by omega⟩
  have hpl : (pre.length : Int) ≤ 1048576 := by simp at hl; omega
  have ih := implCW_l0 suf (pre ++ [x]) bs (bp ++ [b]) (mx m (rwide x)) k (by simpa using hb) (by simp [hp]) (by simpa using hl) (by simp at hk; omega)
  rw [len_snoc, ← app_cons, ← app_cons] at ih
  have e : rdOf false (bp ++ b :: bs) (pre.length : Int) = b := by rw [← hp]; exact rdB_mid bp b bs
  have e2 : (pre.length : Int) < ((bp ++ b :: bs).length : Int) := by rw [← hp]; exact len_mid bp b bs
  simp only [impl_clusterWide.l0, wgo]
  rw [if_pos (len_mid pre x suf), if_pos (by omega), if_pos e2, e, rd_mid, implWide x k (by simp at hk; omega), w64_len (by omega) (by omega)]
  simp only [Option.bind_some]
  rw [ih]
  by_cases h : b = true
  ·rw [if_pos h, if_pos h]
  ·rw [if_neg h, if_neg h]
theorem implCW (pre : List Int) (x : Int) (suf : List Int) (hl : (pre ++ x :: suf).length ≤ 1048576) (k : Nat) (hk : (pre ++ x :: suf).length + 20 ≤ k) :
  impl_clusterWide.f k (pre ++ x :: suf) (pre.length : Int) = some (wgo (rwide x) suf (joinGo (st (pre ++ [x])) suf)) := by
 have hpl : (pre.length : Int) ≤ 1048576 := by simp at hl; omega
 unfold impl_clusterWide.f
 rw [implJoined _ hl k (by omega)]
 simp only [Option.bind_some]
 rw [if_pos (by omega), if_pos (len_mid pre x suf), rd_mid, implWide x k (by omega), w64_len (by omega) (by omega)]
 simp only [Option.bind_some]
 have e : jb (pre ++ x :: suf) = joinGo 0 (pre ++ [x]) ++ joinGo (st (pre ++ [x])) suf := by
  rw [app_cons]
  exact joinGo_append _ _ 0
 rw [e, app_cons, ← len_snoc pre x]
 exact implCW_l0 suf (pre ++ [x]) _ _ (rwide x) k (joinGo_len _ _) (joinGo_len _ _) (by simpa using hl) (by simp at hk; omega)
def wideAt (l : List Int) (n : Nat) : Int := wgo (rwide (l.getD n 0)) (l.drop (n + 1)) (joinGo (st (l.take (n + 1))) (l.drop (n + 1)))
theorem wideAt_mid (pre : List Int) (x : Int) (suf : List Int) : wideAt (pre ++ x :: suf) pre.length = wgo (rwide x) suf (joinGo (st (pre ++ [x])) suf) := by
 unfold wideAt
 have e1 : (pre ++ x :: suf).getD pre.length 0 = x := by simp [List.getD_eq_getElem?_getD]
 have e2 : (pre ++ x :: suf).drop (pre.length + 1) = suf := by rw [app_cons]; exact List.drop_left' (by simp)
 have e3 : (pre ++ x :: suf).take (pre.length + 1) = pre ++ [x] := by rw [app_cons]; exact List.take_left' (by simp)
 rw [e1, e2, e3]
theorem implCWide (l : List Int) (n : Nat) (hn : n < l.length) (hl : l.length ≤ 1048576) (k : Nat) (hk : l.length + 20 ≤ k) : impl_clusterWide.f k l (n : Int) = some (wideAt l n) := by
 obtain ⟨x, e, hx⟩ := split_at l n hn
 have h1 := implCW (l.take n) x (l.drop (n + 1)) (by rw [← e]; exact hl) k (by rw [← e]; exact hk)
 have h2 := wideAt_mid (l.take n) x (l.drop (n + 1))
 rw [← e, hx] at h1 h2
 rw [h1, h2]

theorem specHas5 (a : Int) (k : Nat) (hk : 8 ≤ k) : spec_l1Has.f k [105, 106, 108, 102, 116] a = some (decide (a = 105 ∨ a = 106 ∨ a = 108 ∨ a = 102 ∨ a = 116)) := by
 obtain ⟨k, rfl⟩ : ∃ m, k = m + 8 := ⟨k - 8, by omega⟩
 unfold spec_l1Has.f
 by_cases h1 : a = 105
 ·subst h1; simp [spec_l1Has.l0, rd, wrap64]
 by_cases h2 : a = 106
 ·subst h2; simp [spec_l1Has.l0, rd, wrap64]
 by_cases h3 : a = 108
 ·subst h3; simp [spec_l1Has.l0, rd, wrap64]
 by_cases h4 : a = 102
 ·subst h4; simp [spec_l1Has.l0, rd, wrap64]
 by_cases h5 : a = 116
 ·subst h5; simp [spec_l1Has.l0, rd, wrap64]
 have g1 : ¬ (105 = a) := fun h => h1 h.symm
 have g2 : ¬ (106 = a) := fun h => h2 h.symm
 have g3 : ¬ (108 = a) := fun h => h3 h.symm
 have g4 : ¬ (102 = a) := fun h => h4 h.symm
 have g5 : ¬ (116 = a) := fun h => h5 h.symm
 simp [spec_l1Has.l0, rd, wrap64, h1, h2, h3, h4, h5, g1, g2, g3, g4, g5]
theorem specWide (a : Int) (k : Nat) (hk : 40 ≤ k) : spec_RuneWide.f k a = some (rwide a) := by
 obtain ⟨k, rfl⟩ : ∃ m, k = m + 40 := ⟨k - 40, by omega⟩
 unfold spec_RuneWide.f rwide
 rw [specBidi a _ (by omega)]
 generalize bidi a = c
 simp only [spec_RuneWide.j0, spec_RuneWide.j1, spec_RuneWide.j2, specIn, specHas5 a _ (show 8 ≤ k + 39 by omega), Option.bind_some, decide_eq_true_eq, beq_iff_eq, if_true, ↓reduceIte, ge_iff_le]
 simp only [or_ite, apply_ite some]

theorem specCW_l0 : ∀ (suf pre : List Int) (m : Int) (k : Nat), pre ≠ [] → (pre ++ suf).length ≤ 80 → 2 * suf.length + 300 ≤ k →
  spec_l2Wide.l0 k (pre ++ suf) m (pre.length : Int) = some (wgo m suf (joinGo (st pre) suf))
 | [], pre, m, k, hne, hl, hk => by
  obtain ⟨k, rfl⟩ : ∃ j, k = j + 2 := ⟨k - 2, by omega⟩
  simp only [spec_l2Wide.l0, spec_l2Wide.j1, joinGo]
  rw [if_neg (len_end pre), if_neg (by simp)]
  rfl
 | x :: suf, pre, m, k, hne, hl, hk => by
  obtain ⟨k, rfl⟩ : ∃ j, k = j + 2 := ⟨k - 2, by omega⟩
  have hpl : (pre.length : Int) ≤ 80 := by simp at hl; omega
  have ih := specCW_l0 suf (pre ++ [x]) (mx m (rwide x)) k (by simp) (by simpa using hl) (by simp at hk; omega)
  rw [len_snoc, ← app_cons, st_snoc] at ih
  simp only [spec_l2Wide.l0, joinGo, wgo]
  rw [if_pos (len_mid pre x suf), specJoins_mid pre x suf hne (by omega) _ (by simp at hk; omega)]
  simp only [Option.bind_some, spec_l2Wide.j1]
  by_cases hj : jn (st pre) x = true
  ·rw [if_pos hj, if_pos hj, if_pos (by omega), if_pos (len_mid pre x suf), rd_mid, specWide x k (by omega), w64_len (by omega) (by omega)]
   simp only [Option.bind_some]
   rw [← ih]
   unfold mx
   by_cases h : rwide x > m
   ·rw [if_pos h, if_pos (by omega)]
   ·rw [if_neg h, if_neg (by omega)]
  ·rw [if_neg hj, if_neg hj]
theorem specCWide (l : List Int) (n : Nat) (hn : n < l.length) (hl : l.length ≤ 80) (k : Nat) (hk : 600 ≤ k) : spec_l2Wide.f k l (n : Int) = some (wideAt l n) := by
 obtain ⟨x, e, hx⟩ := split_at l n hn
 have h2 := wideAt_mid (l.take n) x (l.drop (n + 1))
 have h1 : spec_l2Wide.f k (l.take n ++ x :: l.drop (n + 1)) ((l.take n).length : Int) = some (wgo (rwide x) (l.drop (n + 1)) (joinGo (st (l.take n ++ [x])) (l.drop (n + 1)))) := by
  unfold spec_l2Wide.f
  rw [if_pos (by omega), if_pos (len_mid _ x _), rd_mid, specWide x k (by omega), w64_len (by omega) (by omega)]
  simp only [Option.bind_some]
  rw [app_cons, ← len_snoc _ x]
  have hdl : (l.drop (n + 1)).length ≤ 80 := by simp; omega
  exact specCW_l0 (l.drop (n + 1)) (l.take n ++ [x]) (rwide x) k (by simp) (by rw [← app_cons, ← e]; exact hl) (by omega)
 rw [← e, hx] at h1 h2
 rw [h1, h2]

def fls : Nat → List Bool → List Int
 | _, [] => []
 | i, b :: bs => if b = true then fls (i + 1) bs else (i : Int) :: fls (i + 1) bs
theorem fls_len : ∀ (bs : List Bool) (i : Nat), (fls i bs).length ≤ bs.length
 | [], _ => Nat.le_refl _
 | b :: bs, i => by
  have := fls_len bs (i + 1)
  unfold fls
  split <;> simp <;> omega
theorem implStarts_l0 : ∀ (suf pre : List Bool) (out : List Int) (k : Nat), (pre ++ suf).length ≤ 1048576 → out.length ≤ pre.length → suf.length + 1 ≤ k →
  impl_starts.l0 k out (pre ++ suf) ((pre ++ suf).length : Int) (pre.length : Int) = some (out ++ fls pre.length suf)
 | [], pre, out, k, hl, ho, hk => by
  obtain ⟨k, rfl⟩ : ∃ m, k = m + 1 := ⟨k - 1, by simp at hk; omega⟩
  simp only [impl_starts.l0, fls]
  rw [if_neg (len_end pre)]
  simp
 | b :: suf, pre, out, k, hl, ho, hk => by
  obtain ⟨k, rfl⟩ : ∃ m, k = m + 1 := ⟨k - 1, by simp at hk; omega⟩
  have hp : (pre.length : Int) ≤ 1048576 := by simp at hl; omega
  have ih := fun out ho => implStarts_l0 suf (pre ++ [b]) out k (by simpa using hl) ho (by simp at hk; omega)
  simp only [len_snoc, ← app_cons] at ih
  have e : (pre ++ [b]).length = pre.length + 1 := by simp
  rw [e] at ih
  simp only [impl_starts.l0]
  rw [if_pos (len_mid pre b suf), if_pos (by omega), if_pos (len_mid pre b suf), rdB_mid, w64_len (by omega) (by omega)]
  cases b with
  | true =>
   rw [if_pos rfl, ih out (by omega)]
   simp [fls]
  | false =>
   rw [if_neg (by simp), if_pos (by omega), ih (out ++ [(pre.length : Int)]) (by simp; omega)]
   simp [fls]

abbrev Sp := S40
abbrev zSp : Sp := z40
theorem rdSp_mid (pre : List Sp) (x : Sp) (suf : List Sp) : rd_T40 (pre ++ x :: suf) (pre.length : Int) = x := getD_mid pre x suf _

/-- a span is ok by itself -/
def spOk (s : Sp) (c : Int) : Bool := decide (0 ≤ s.f0) && decide (s.f0 < c) && decide (s.f0 < s.f1) && decide (s.f1 ≤ c) && decide (1 ≤ s.f2) && decide (s.f2 ≤ 40) && decide (0 ≤ s.f3) && decide (s.f3 ≤ 9)
theorem implSpanOk (s : Sp) (c : Int) : impl_spanOk.f s.f0 s.f1 s.f2 s.f3 c = some (spOk s c) := by
 unfold impl_spanOk.f spOk
 by_cases h1 : 0 ≤ s.f0
 ·by_cases h2 : s.f0 < c
  ·by_cases h3 : s.f0 < s.f1
   ·by_cases h4 : s.f1 ≤ c
    ·by_cases h5 : 1 ≤ s.f2
     ·by_cases h6 : s.f2 ≤ 40
      ·by_cases h7 : 0 ≤ s.f3 <;> simp [h1, h2, h3, h4, h5, h6, h7]
      ·simp [h1, h2, h3, h4, h5, h6]
     ·simp [h1, h2, h3, h4, h5]
    ·simp [h1, h2, h3, h4]
   ·simp [h1, h2, h3]
  ·simp [h1, h2]
 ·simp [h1]
def chainOk (c : Int) : Int → List Sp → Bool
 | _, [] => true
 | p, s :: r => spOk s c && decide (p ≤ s.f0) && chainOk c s.f1 r
def spansOk (l : List Sp) (c : Int) : Bool := chainOk c 0 l && (decide (0 ≤ c) && decide (c ≤ 80) && decide (l.length ≤ 12))
def Ahead (pre : List Sp) (p : Int) : Prop := (pre = [] ∧ p = 0) ∨ ∃ q s, pre = q ++ [s] ∧ p = s.f1
theorem ahead_step (pre : List Sp) (s : Sp) : Ahead (pre ++ [s]) s.f1 := .inr ⟨pre, s, rfl, rfl⟩
theorem implSpansOk_l0 (c : Int) : ∀ (suf pre : List Sp) (p : Int) (k : Nat), Ahead pre p → (pre ++ suf).length ≤ 1048576 → suf.length + 1 ≤ k →
  impl_SpansOk.l0 k (pre ++ suf) c (pre ++ suf) ((pre ++ suf).length : Int) (pre.length : Int) = some (chainOk c p suf && (decide (0 ≤ c) && decide (c ≤ 80) && decide ((pre ++ suf).length ≤ 12)))
 | [], pre, p, k, ha, hl, hk => by
  obtain ⟨k, rfl⟩ : ∃ m, k = m + 1 := ⟨k - 1, by simp at hk; omega⟩
  simp only [impl_SpansOk.l0, chainOk]
  rw [if_neg (len_end pre)]
  by_cases h1 : 0 ≤ c <;> by_cases h2 : c ≤ 80 <;> simp [h1, h2]
  omega
 | s :: suf, pre, p, k, ha, hl, hk => by
  obtain ⟨k, rfl⟩ : ∃ m, k = m + 1 := ⟨k - 1, by simp at hk; omega⟩
  have hp : (pre.length : Int) ≤ 1048576 := by simp at hl; omega
  simp only [impl_SpansOk.l0, chainOk]
  rw [if_pos (len_mid pre s suf), if_pos (by omega), if_pos (len_mid pre s suf), rdSp_mid, implSpanOk]
  simp only [Option.bind_some]
  cases hs : spOk s c with
  | false => simp
  | true =>
   have ih := implSpansOk_l0 c suf (pre ++ [s]) s.f1 k (ahead_step pre s) (by simpa using hl) (by simp at hk; omega)
   rw [len_snoc, ← app_cons] at ih
   simp only [if_true, Bool.true_and]
   rw [w64_len (by omega) (by omega)]
   rcases ha with ⟨rfl, rfl⟩ | ⟨q, t, rfl, rfl⟩
   ·have h0 : (0 : Int) ≤ s.f0 := by
     simp only [spOk, Bool.and_eq_true, decide_eq_true_eq] at hs
     omega
    rw [if_neg (by simp), ih]
    simp [h0]
   ·have e1 : (((q ++ [t]).length : Int)) - 1 = (q.length : Int) := by simp
    rw [if_pos (by simp), e1, w64 (by omega) (by simp at hp; omega), if_pos (by omega), if_pos (by simp; omega)]
    have e2 : rd_T40 ((q ++ [t]) ++ s :: suf) (q.length : Int) = t := by
     rw [List.append_assoc]
     exact rdSp_mid q t _
    rw [e2, ih]
    by_cases hg : t.f1 > s.f0
    ·rw [if_pos hg]
     have : ¬ t.f1 ≤ s.f0 := by omega
     simp [this]
    ·rw [if_neg hg]
     have : t.f1 ≤ s.f0 := by omega
     simp [this]
theorem implSpansOk (l : List Sp) (c : Int) (hl : l.length ≤ 1048576) (k : Nat) (hk : l.length + 1 ≤ k) : impl_SpansOk.f k l c = some (spansOk l c) := by
 unfold impl_SpansOk.f spansOk
 exact implSpansOk_l0 c l [] 0 k (.inl ⟨rfl, rfl⟩) (by simpa using hl) hk

def lookL (i : Int) : List Sp → Int × Int
 | [] => (10, 0)
 | s :: r => if s.f0 ≤ i ∧ i < s.f1 then (s.f2, s.f3) else lookL i r
theorem chainOk_mem (c : Int) : ∀ (l : List Sp) (p : Int), chainOk c p l = true → ∀ s ∈ l, spOk s c = true
 | [], _, _, s, hs => by cases hs
 | x :: r, p, h, s, hs => by
  simp only [chainOk, Bool.and_eq_true] at h
  rcases List.mem_cons.1 hs with rfl | hs
  ·exact h.1.1
  ·exact chainOk_mem c r x.f1 h.2 s hs
theorem implLookAt_l0 (i : Int) : ∀ (suf pre : List Sp) (k : Nat), (pre ++ suf).length ≤ 1048576 → suf.length + 1 ≤ k →
  impl_lookAt.l0 k i (pre ++ suf) ((pre ++ suf).length : Int) (pre.length : Int) = some (lookL i suf)
 | [], pre, k, hl, hk => by
  obtain ⟨k, rfl⟩ : ∃ m, k = m + 1 := ⟨k - 1, by simp at hk; omega⟩
  simp only [impl_lookAt.l0]
  rw [if_neg (len_end pre)]
  rfl
 | s :: suf, pre, k, hl, hk => by
  obtain ⟨k, rfl⟩ : ∃ m, k = m + 1 := ⟨k - 1, by simp at hk; omega⟩
  have hp : (pre.length : Int) ≤ 1048576 := by simp at hl; omega
  have ih := implLookAt_l0 i suf (pre ++ [s]) k (by simpa using hl) (by simp at hk; omega)
  rw [len_snoc, ← app_cons] at ih
  simp only [impl_lookAt.l0, lookL]
  rw [if_pos (len_mid pre s suf), if_pos (by omega), if_pos (len_mid pre s suf), rdSp_mid, w64_len (by omega) (by omega), ih]
  by_cases h1 : s.f0 ≤ i <;> by_cases h2 : i < s.f1 <;> simp [h1, h2]
theorem specL6At_l0 (i : Int) : ∀ (suf pre : List Sp) (k : Nat), (∀ s ∈ suf, spOk s 80 = true) → (pre ++ suf).length ≤ 1048576 → suf.length + 1 ≤ k →
  spec_l6At.l0 k (pre ++ suf) i (pre.length : Int) = some (lookL i suf)
 | [], pre, k, _, hl, hk => by
  obtain ⟨k, rfl⟩ : ∃ m, k = m + 1 := ⟨k - 1, by simp at hk; omega⟩
  simp only [spec_l6At.l0]
  rw [if_neg (len_end pre)]
  rfl
 | s :: suf, pre, k, hs, hl, hk => by
  obtain ⟨k, rfl⟩ : ∃ m, k = m + 1 := ⟨k - 1, by simp at hk; omega⟩
  have hp : (pre.length : Int) ≤ 1048576 := by simp at hl; omega
  have ih := specL6At_l0 i suf (pre ++ [s]) k (fun t ht => hs t (List.mem_cons_of_mem _ ht)) (by simpa using hl) (by simp at hk; omega)
  rw [len_snoc, ← app_cons] at ih
  have h0 := hs s List.mem_cons_self
  simp only [spOk, Bool.and_eq_true, decide_eq_true_eq] at h0
  simp only [spec_l6At.l0, lookL]
  rw [if_pos (len_mid pre s suf), if_pos (by omega), rdSp_mid, w64_len (by omega) (by omega), ih, w64 (by omega) (by omega), specIn]
  simp only [Option.bind_some]
  by_cases h1 : s.f0 ≤ i ∧ i < s.f1
  ·rw [if_pos h1, if_pos (by simp only [decide_eq_true_eq]; omega)]
  ·rw [if_neg h1, if_neg (by simp only [decide_eq_true_eq]; omega)]

theorem specL6Ok (s : Sp) (c : Int) (h0 : 0 ≤ c) (h1 : c ≤ 80) (hs : -9223372036854775808 ≤ s.f0) (hs' : s.f0 ≤ 9223372036854775807) : spec_l6Ok.f s.f0 s.f1 s.f2 s.f3 c = some (spOk s c) := by
 unfold spec_l6Ok.f spOk
 rw [w64 (x := c - 1) (by omega) (by omega)]
 simp only [specIn, Option.bind_some, decide_eq_true_eq]
 by_cases g0 : 0 ≤ s.f0 ∧ s.f0 ≤ c - 1
 ·rw [if_pos g0, w64 (x := s.f0 + 1) (by omega) (by omega)]
  have a1 : (0 : Int) ≤ s.f0 := g0.1
  have a2 : s.f0 < c := by omega
  by_cases g1 : s.f0 + 1 ≤ s.f1 ∧ s.f1 ≤ c
  ·rw [if_pos g1]
   have a3 : s.f0 < s.f1 := by omega
   have a4 : s.f1 ≤ c := g1.2
   by_cases g2 : 1 ≤ s.f2 ∧ s.f2 ≤ 40
   ·rw [if_pos g2]
    simp [a1, a2, a3, a4, g2.1, g2.2]
   ·rw [if_neg g2]
    have : (decide (1 ≤ s.f2) && decide (s.f2 ≤ 40)) = false := by
     simp only [Bool.and_eq_false_iff, decide_eq_false_iff_not]
     omega
    simp only [Option.some.injEq, Bool.and_assoc]
    rw [show ∀ z, (decide (1 ≤ s.f2) && (decide (s.f2 ≤ 40) && z)) = ((decide (1 ≤ s.f2) && decide (s.f2 ≤ 40)) && z) from fun z => (Bool.and_assoc _ _ _).symm, this]
    simp
  ·rw [if_neg g1]
   have : (decide (s.f0 < s.f1) && decide (s.f1 ≤ c)) = false := by
    simp only [Bool.and_eq_false_iff, decide_eq_false_iff_not]
    omega
   simp only [Option.some.injEq, Bool.and_assoc]
   rw [show ∀ z, (decide (s.f0 < s.f1) && (decide (s.f1 ≤ c) && z)) = ((decide (s.f0 < s.f1) && decide (s.f1 ≤ c)) && z) from fun z => (Bool.and_assoc _ _ _).symm, this]
   simp
 ·rw [if_neg g0]
  have : (decide (0 ≤ s.f0) && decide (s.f0 < c)) = false := by
   simp only [Bool.and_eq_false_iff, decide_eq_false_iff_not]
   omega
  simp only [Option.some.injEq, Bool.and_assoc]
  rw [show ∀ z, (decide (0 ≤ s.f0) && (decide (s.f0 < c) && z)) = ((decide (0 ≤ s.f0) && decide (s.f0 < c)) && z) from fun z => (Bool.and_assoc _ _ _).symm, this]
  simp
def InI (x : Int) : Prop := -9223372036854775808 ≤ x ∧ x ≤ 9223372036854775807
theorem specSpansOk_l0 (c : Int) (hc : 0 ≤ c ∧ c ≤ 80) : ∀ (suf pre : List Sp) (p : Int) (k : Nat), Ahead pre p → (∀ s ∈ suf, InI s.f0) → (pre ++ suf).length ≤ 1048576 → suf.length + 1 ≤ k →
  spec_SpansOk.l0 k (pre ++ suf) c (pre.length : Int) = some (chainOk c p suf && decide ((pre ++ suf).length ≤ 12))
 | [], pre, p, k, ha, hw, hl, hk => by
  obtain ⟨k, rfl⟩ : ∃ m, k = m + 1 := ⟨k - 1, by simp at hk; omega⟩
  simp only [spec_SpansOk.l0, chainOk]
  rw [if_neg (len_end pre)]
  simp only [specIn, Option.bind_some, hc, and_self, decide_true, Bool.true_and]
  by_cases h2 : (pre ++ []).length ≤ 12
  ·rw [if_pos (by omega)]; simp only [h2, decide_true]
  ·rw [if_neg (by omega)]; simp only [h2, decide_false]
 | s :: suf, pre, p, k, ha, hw, hl, hk => by
  obtain ⟨k, rfl⟩ : ∃ m, k = m + 1 := ⟨k - 1, by simp at hk; omega⟩
  have hp : (pre.length : Int) ≤ 1048576 := by simp at hl; omega
  simp only [spec_SpansOk.l0, chainOk]
  obtain ⟨hs0, hs1⟩ := hw s List.mem_cons_self
  rw [if_pos (len_mid pre s suf), if_pos (by omega), rdSp_mid, specL6Ok s c hc.1 hc.2 hs0 hs1]
  simp only [Option.bind_some]
  cases hs : spOk s c with
  | false => simp
  | true =>
   have ih := specSpansOk_l0 c hc suf (pre ++ [s]) s.f1 k (ahead_step pre s) (fun t ht => hw t (List.mem_cons_of_mem _ ht)) (by simpa using hl) (by simp at hk; omega)
   rw [len_snoc, ← app_cons] at ih
   simp only [if_true, Bool.true_and]
   rw [w64_len (by omega) (by omega)]
   rcases ha with ⟨rfl, rfl⟩ | ⟨q, t, rfl, rfl⟩
   ·have h0 : (0 : Int) ≤ s.f0 := by
     simp only [spOk, Bool.and_eq_true, decide_eq_true_eq] at hs
     omega
    rw [if_neg (by simp), ih]
    simp [h0]
   ·have e1 : (((q ++ [t]).length : Int)) - 1 = (q.length : Int) := by simp
    rw [if_pos (by simp), e1, w64 (by omega) (by simp at hp; omega), if_pos (by omega), if_pos (by simp; omega)]
    have e2 : rd_T40 ((q ++ [t]) ++ s :: suf) (q.length : Int) = t := by
     rw [List.append_assoc]
     exact rdSp_mid q t _
    rw [e2, ih]
    by_cases hg : t.f1 > s.f0
    ·rw [if_pos hg]
     have : ¬ t.f1 ≤ s.f0 := by omega
     simp [this]
    ·rw [if_neg hg]
     have : t.f1 ≤ s.f0 := by omega
     simp [this]
theorem specL6_some (a b c d e : Int) : ∃ r, spec_l6Ok.f a b c d e = some r := by
 unfold spec_l6Ok.f
 simp only [specIn, Option.bind_some]
 repeat' split
 all_goals exact ⟨_, rfl⟩
theorem specSpansOk_bad (c : Int) (hc : ¬ (0 ≤ c ∧ c ≤ 80)) : ∀ (suf pre : List Sp) (k : Nat), (pre ++ suf).length ≤ 1048576 → suf.length + 1 ≤ k → spec_SpansOk.l0 k (pre ++ suf) c (pre.length : Int) = some false
 | [], pre, k, hl, hk => by
  obtain ⟨k, rfl⟩ : ∃ m, k = m + 1 := ⟨k - 1, by simp at hk; omega⟩
  simp only [spec_SpansOk.l0]
  rw [if_neg (len_end pre)]
  simp only [specIn, Option.bind_some, hc, decide_false, ite_self]
 | s :: suf, pre, k, hl, hk => by
  obtain ⟨k, rfl⟩ : ∃ m, k = m + 1 := ⟨k - 1, by simp at hk; omega⟩
  have hp : (pre.length : Int) ≤ 1048576 := by simp at hl; omega
  have ih := specSpansOk_bad c hc suf (pre ++ [s]) k (by simpa using hl) (by simp at hk; omega)
  rw [len_snoc, ← app_cons] at ih
  simp only [spec_SpansOk.l0]
  rw [if_pos (len_mid pre s suf), if_pos (by omega), rdSp_mid]
  obtain ⟨r, hr⟩ := specL6_some s.f0 s.f1 s.f2 s.f3 c
  rw [hr]
  simp only [Option.bind_some]
  rw [w64_len (by omega) (by omega), ih]
  cases r with
  | false => simp
  | true =>
   simp only [if_true]
   by_cases h0 : (pre.length : Int) > 0
   ·rw [if_pos h0, w64 (by omega) (by omega), if_pos (by omega), if_pos (by simp; omega)]
    simp
   ·rw [if_neg h0]
theorem specSpansOk (l : List Sp) (c : Int) (hw : ∀ s ∈ l, InI s.f0) (hl : l.length ≤ 1048576) (k : Nat) (hk : l.length + 1 ≤ k) : spec_SpansOk.f k l c = some (spansOk l c) := by
 unfold spec_SpansOk.f spansOk
 by_cases hc : 0 ≤ c ∧ c ≤ 80
 ·have h := specSpansOk_l0 c hc l [] 0 k (.inl ⟨rfl, rfl⟩) hw (by simpa using hl) hk
  rw [show ((0 : Int)) = (([] : List Sp).length : Int) from rfl]
  rw [show l = [] ++ l from rfl, h]
  simp [hc.1, hc.2]
 ·have h := specSpansOk_bad c hc l [] k (by simpa using hl) hk
  have e : (decide (0 ≤ c) && decide (c ≤ 80)) = false := by
   simp only [Bool.and_eq_false_iff, decide_eq_false_iff_not]
   omega
  rw [e]
  simpa using h

theorem spansOk_mem {l : List Sp} {c : Int} (h : spansOk l c = true) : ∀ s ∈ l, spOk s c = true := by
 unfold spansOk at h
 rw [Bool.and_eq_true] at h
 exact chainOk_mem c l 0 h.1

def cellW (l : List Int) (sp : List Sp) (i : Nat) : Int := if (jb l).getD i false = true then 0 else wrap64 (wideAt l i * (lookL (i : Int) sp).1)
def rowW (l : List Int) (sp : List Sp) : Nat → Nat → List Int
 | 0, _ => []
 | n + 1, i => cellW l sp i :: rowW l sp n (i + 1)
theorem rowW_len (l : List Int) (sp : List Sp) : ∀ n i, (rowW l sp n i).length = n
 | 0, _ => rfl
 | n + 1, i => by simp [rowW, rowW_len l sp n]
theorem dn_start (bs : List Bool) (i : Nat) (h0 : bs.getD 0 false = false) : dn bs i = i ↔ ¬ bs.getD i false = true := by
 cases i with
 | zero => rw [h0]; simp [dn]
 | succ m =>
  have := dn_le bs m
  unfold dn
  by_cases h : bs.getD (m + 1) false = true
  ·rw [if_pos h]
   constructor
   ·intro g; omega
   ·intro g; exact absurd h g
  ·rw [if_neg h]
   exact ⟨fun _ => h, fun _ => rfl⟩
theorem spOk_mono (s : Sp) (c : Int) (hc : c ≤ 80) (h : spOk s c = true) : spOk s 80 = true := by
 simp only [spOk, Bool.and_eq_true, decide_eq_true_eq] at h ⊢
 omega
theorem specWides_l0 (l : List Int) (sp : List Sp) (hl : l.length ≤ 80) (hsl : sp.length ≤ 12) (hs : ∀ s ∈ sp, spOk s 80 = true) : ∀ (n i : Nat) (out : List Int) (k : Nat), i + n = l.length → out.length = i → n + 1000 ≤ k →
  spec_l6Wides.l0 k l sp out (i : Int) = some (out ++ rowW l sp n i)
 | 0, i, out, k, hi, ho, hk => by
  obtain ⟨k, rfl⟩ : ∃ m, k = m + 1 := ⟨k - 1, by omega⟩
  simp only [spec_l6Wides.l0, rowW]
  rw [if_neg (by omega)]
  simp
 | n + 1, i, out, k, hi, ho, hk => by
  obtain ⟨k, rfl⟩ : ∃ m, k = m + 1 := ⟨k - 1, by omega⟩
  have ih := fun v => specWides_l0 l sp hl hsl hs n (i + 1) (out ++ [v]) k (by omega) (by simp [ho]) (by omega)
  have ec : (((i + 1 : Nat)) : Int) = (i : Int) + 1 := by omega
  simp only [ec] at ih
  have e1 : spec_l2At.f k l (i : Int) = some (dn (jb l) i : Int) := specAt_l0 l (by omega) i k (by omega) (by omega)
  have e2 : spec_l6At.f k sp (i : Int) = some (lookL (i : Int) sp) := specL6At_l0 (i : Int) sp [] k hs (by simp; omega) (by omega)
  have hd := dn_start (jb l) i (jb_zero l)
  simp only [spec_l6Wides.l0, rowW]
  rw [if_pos (by omega), e1, w64_len (by omega) (by omega)]
  simp only [Option.bind_some]
  unfold cellW
  by_cases h : (jb l).getD i false = true
  ·rw [if_pos h, if_neg (fun g => (hd.1 (by omega)) h), if_pos (by omega), ih]
   simp
  ·rw [if_neg h, if_pos (by rw [hd.2 h]), e2]
   simp only [Option.bind_some]
   rw [specCWide l i (by omega) hl k (by omega)]
   simp only [Option.bind_some]
   rw [if_pos (by omega), ih]
   simp
theorem implWides_l0 (l : List Int) (sp : List Sp) (hl : l.length ≤ 80) (hsl : sp.length ≤ 12) : ∀ (bs : List Bool) (A : List Int) (i : Nat) (don : List Int) (k : Nat), bs = (jb l).drop i → i + bs.length = l.length → don.length = i → A.length ≤ i → bs.length + 200 ≤ k →
  impl_widesOf.l0 k l sp (don ++ List.replicate bs.length 0) (A ++ fls i bs) ((A ++ fls i bs).length : Int) (A.length : Int) = some (don ++ rowW l sp bs.length i)
 | [], A, i, don, k, hb, hi, hd, hA, hk => by
  obtain ⟨k, rfl⟩ : ∃ m, k = m + 1 := ⟨k - 1, by omega⟩
  show impl_widesOf.l0 (k + 1) l sp (don ++ []) (A ++ []) ((A ++ []).length : Int) (A.length : Int) = some (don ++ [])
  simp only [impl_widesOf.l0]
  rw [if_neg (len_end A)]
 | b :: bs, A, i, don, k, hb, hi, hd, hA, hk => by
  simp only [List.length_cons] at hi hk
  have hbit : (jb l).getD i false = b := by
   have := congrArg (fun x => x.getD 0 false) hb
   simp only [List.getD_cons_zero] at this
   rw [this, List.getD_eq_getElem?_getD, List.getD_eq_getElem?_getD, List.getElem?_drop, Nat.add_zero]
  have hb' : bs = (jb l).drop (i + 1) := by
   have := congrArg List.tail hb
   simpa using this
  cases b with
  | true =>
   have ih := implWides_l0 l sp hl hsl bs A (i + 1) (don ++ [0]) k hb' (by omega) (by simp [hd]) (by omega) (by omega)
   have e : don ++ List.replicate (true :: bs).length 0 = (don ++ [0]) ++ List.replicate bs.length 0 := by simp [List.replicate_succ]
   have e2 : fls i (true :: bs) = fls (i + 1) bs := rfl
   have e3 : cellW l sp i = 0 := by unfold cellW; rw [if_pos hbit]
   rw [e, e2, ih]
   simp [rowW, e3]
  | false =>
   obtain ⟨k, rfl⟩ : ∃ m, k = m + 1 := ⟨k - 1, by omega⟩
   have e2 : fls i (false :: bs) = (i : Int) :: fls (i + 1) bs := rfl
   have ih := implWides_l0 l sp hl hsl bs (A ++ [(i : Int)]) (i + 1) (don ++ [cellW l sp i]) k hb' (by omega) (by simp [hd]) (by simp; omega) (by omega)
   rw [len_snoc, ← app_cons A] at ih
   have e3 : cellW l sp i = wrap64 (wideAt l i * (lookL (i : Int) sp).1) := by unfold cellW; rw [if_neg (by rw [hbit]; simp)]
   have e4 : impl_lookAt.f k sp (i : Int) = some (lookL (i : Int) sp) := implLookAt_l0 (i : Int) sp [] k (by simp; omega) (by omega)
   have e5 : (don ++ List.replicate (false :: bs).length 0).set ((i : Int)).toNat (cellW l sp i) = (don ++ [cellW l sp i]) ++ List.replicate bs.length 0 := by
    have := set_mid don 0 (cellW l sp i) (List.replicate bs.length 0)
    rw [hd] at this
    simpa [List.replicate_succ] using this
   rw [e2]
   simp only [impl_widesOf.l0]
   rw [if_pos (len_mid A _ _), if_pos (by omega), if_pos (len_mid A _ _), rd_mid, implCWide l i (by omega) (by omega) k (by omega), e4]
   simp only [Option.bind_some]
   rw [if_pos (by omega), if_pos (by simp; omega), ← e3, e5, w64_len (by omega) (by omega), ih]
   simp [rowW]
def widesL (l : List Int) (sp : List Sp) : List Int := if okT l = true ∧ spansOk sp (l.length : Int) = true then rowW l sp l.length 0 else []
theorem spansOk_len {sp : List Sp} {c : Int} (h : spansOk sp c = true) : sp.length ≤ 12 := by
 unfold spansOk at h
 simp only [Bool.and_eq_true, decide_eq_true_eq] at h
 omega
theorem implWidesOf (l : List Int) (sp : List Sp) (hsl : sp.length ≤ 1048576) (k : Nat) (hk : sp.length + 500 ≤ k) : impl_WidesOf.f k l sp = some (widesL l sp) := by
 unfold impl_WidesOf.f widesL
 rw [implLettersOk]
 simp only [Option.bind_some]
 by_cases h : okT l = true
 ·have hl := okT_len h
  rw [if_pos h, implSpansOk sp _ hsl k (by omega)]
  simp only [Option.bind_some]
  by_cases h2 : spansOk sp (l.length : Int) = true
  ·have h12 := spansOk_len h2
   rw [if_pos h2, if_pos ⟨h, h2⟩]
   have e1 : impl_starts.f k l = some (fls 0 (jb l)) := by
    unfold impl_starts.f
    rw [implJoined l (by omega) k (by omega)]
    exact implStarts_l0 (jb l) [] [] k (by simp [jb_len]; omega) (by simp) (by rw [jb_len]; omega)
   have e2 : impl_widesOf.f k l sp = some (rowW l sp l.length 0) := by
    unfold impl_widesOf.f
    rw [if_pos (by omega), if_pos (by omega), e1, Int.toNat_natCast]
    simp only [Option.bind_some]
    have := implWides_l0 l sp (by omega) h12 (jb l) [] 0 [] k rfl (by rw [jb_len]; omega) rfl (Nat.le_refl _) (by rw [jb_len]; omega)
    rw [jb_len] at this
    exact this
   rw [e2]
   rfl
  ·rw [if_neg h2, if_neg (fun g => h2 g.2)]
 ·rw [if_neg h, if_neg (fun g => h g.1)]
theorem specWidesOf (l : List Int) (sp : List Sp) (hw : ∀ s ∈ sp, InI s.f0) (hl : l.length ≤ 1048576) (hsl : sp.length ≤ 1048576) (k : Nat) (hk : l.length + sp.length + 1500 ≤ k) : spec_WidesOf.f k l sp = some (widesL l sp) := by
 unfold spec_WidesOf.f widesL
 rw [specL1Ok l hl k (by omega)]
 simp only [Option.bind_some]
 by_cases h : okT l = true
 ·have hl := okT_len h
  rw [if_pos h, specSpansOk sp _ hw hsl k (by omega)]
  simp only [Option.bind_some]
  by_cases h2 : spansOk sp (l.length : Int) = true
  ·have h12 := spansOk_len h2
   have e2 : spec_l6Wides.f k l sp = some (rowW l sp l.length 0) := specWides_l0 l sp (by omega) h12 (fun s hs => spOk_mono s _ (by omega) (spansOk_mem h2 s hs)) l.length 0 [] k (by omega) rfl (by omega)
   rw [if_pos h2, if_pos ⟨h, h2⟩, e2]
   rfl
  ·rw [if_neg h2, if_neg (fun g => h2 g.2)]
 ·rw [if_neg h, if_neg (fun g => h g.1)]
theorem widesL_len (l : List Int) (sp : List Sp) : (widesL l sp).length ≤ 80 := by
 unfold widesL
 split
 ·rename_i h
  rw [rowW_len]
  exact okT_len h.1
 ·simp

def atL (l : List Sp) (i : Int) : Int × Int := if spansOk l 80 = true then lookL i l else (0, 0)
theorem implAt (l : List Sp) (i : Int) (hl : l.length ≤ 1048576) (k : Nat) (hk : l.length + 1 ≤ k) : impl_SpanAt.f k l i = some (atL l i) := by
 unfold impl_SpanAt.f atL
 rw [implSpansOk l 80 hl k hk]
 simp only [Option.bind_some]
 by_cases h : spansOk l 80 = true
 ·rw [if_pos h, if_pos h]
  have h1 : impl_lookAt.l0 k i l (l.length : Int) 0 = some (lookL i l) := implLookAt_l0 i l [] k (by simpa using hl) hk
  unfold impl_lookAt.f
  rw [h1]
  simp
 ·rw [if_neg h, if_neg h]

theorem implStartOf_l0 (bs : List Bool) (h0 : bs.getD 0 false = false) (hl : bs.length ≤ 1048576) : ∀ (n k : Nat), n < bs.length → n + 1 ≤ k → impl_startOf.l0 k (n : Int) bs = some (dn bs n : Int)
 | 0, k, hn, hk => by
  obtain ⟨k, rfl⟩ : ∃ m, k = m + 1 := ⟨k - 1, by omega⟩
  simp only [impl_startOf.l0]
  rw [if_pos (by omega), if_pos (by omega), rdB_nat, h0]
  simp [dn]
 | n + 1, k, hn, hk => by
  obtain ⟨k, rfl⟩ : ∃ m, k = m + 1 := ⟨k - 1, by omega⟩
  have ih := implStartOf_l0 bs h0 hl n k (by omega) (by omega)
  have e : wrap64 (((n + 1 : Nat) : Int) - 1) = (n : Int) := by rw [w64 (by omega) (by omega)]; omega
  simp only [impl_startOf.l0, dn]
  rw [if_pos (by omega), if_pos (by omega), rdB_nat, e, ih]
  by_cases h : bs.getD (n + 1) false = true
  ·rw [if_pos h, if_pos h]
  ·rw [if_neg h, if_neg h]
theorem implStartOf (l : List Int) (n : Nat) (hn : n < l.length) (hl : l.length ≤ 1048576) (k : Nat) (hk : l.length + 2 ≤ k) : impl_startOf.f k l (n : Int) = some (dn (jb l) n : Int) := by
 unfold impl_startOf.f
 rw [implJoined l hl k hk]
 exact implStartOf_l0 (jb l) (jb_zero l) (by rw [jb_len]; exact hl) n k (by rw [jb_len]; exact hn) (by omega)



theorem implClusterAt (l : List Int) (i : Int) (k : Nat) (hk : 200 ≤ k) : impl_ClusterAt.f k l i = some (clusterAt l i) := by
 unfold impl_ClusterAt.f clusterAt
 rw [implLettersOk]
 simp only [Option.bind_some]
 by_cases h : okT l = true
 ·have hl := okT_len h
  rw [if_pos h]
  by_cases h0 : i < 0
  ·rw [if_pos h0, if_neg (by omega)]
  rw [if_neg h0]
  by_cases h1 : i ≥ (l.length : Int)
  ·rw [if_pos h1, if_neg (by omega)]
  rw [if_neg h1, if_pos ⟨h, by omega, by omega⟩]
  obtain ⟨n, rfl⟩ : ∃ n : Nat, i = n := ⟨i.toNat, by omega⟩
  rw [implStartOf l n (by omega) (by omega) k (by omega)]
  rfl
 ·rw [if_neg h, if_neg (fun g => h g.1)]

def clusterWide (l : List Int) (i : Int) : Int := if okT l = true ∧ 0 ≤ i ∧ i < (l.length : Int) ∧ (dn (jb l) i.toNat : Int) = i then wideAt l i.toNat else 0
theorem implClusterWide (l : List Int) (i : Int) (k : Nat) (hk : 200 ≤ k) : impl_ClusterWide.f k l i = some (clusterWide l i) := by
 unfold impl_ClusterWide.f clusterWide
 rw [implLettersOk]
 simp only [Option.bind_some]
 by_cases h : okT l = true
 ·have hl := okT_len h
  rw [if_pos h]
  by_cases h0 : i < 0
  ·rw [if_pos h0, if_neg (by omega)]
  rw [if_neg h0]
  by_cases h1 : i ≥ (l.length : Int)
  ·rw [if_pos h1, if_neg (by omega)]
  rw [if_neg h1]
  obtain ⟨n, rfl⟩ : ∃ n : Nat, i = n := ⟨i.toNat, by omega⟩
  rw [implStartOf l n (by omega) (by omega) k (by omega)]
  simp only [Option.bind_some, Int.toNat_natCast]
  by_cases h2 : (dn (jb l) n : Int) = (n : Int)
  ·rw [if_pos h2, if_pos ⟨h, by omega, by omega, h2⟩, implCWide l n (by omega) (by omega) k (by omega)]
   rfl
  ·rw [if_neg h2, if_neg (fun g => h2 g.2.2.2)]
 ·rw [if_neg h, if_neg (fun g => h g.1)]

theorem wcInts_l0 : ∀ (suf pre : List Int) (k : Nat), (pre ++ suf).length ≤ 4000000 → suf.length + 1 ≤ k → laws_wcInts.l0 k (pre ++ suf) (pre ++ suf) (pre.length : Int) = some true
 | [], pre, k, hl, hk => by
  obtain ⟨k, rfl⟩ : ∃ m, k = m + 1 := ⟨k - 1, by simp at hk; omega⟩
  simp only [laws_wcInts.l0]
  rw [if_neg (len_end pre)]
 | x :: suf, pre, k, hl, hk => by
  obtain ⟨k, rfl⟩ : ∃ m, k = m + 1 := ⟨k - 1, by simp at hk; omega⟩
  simp only [laws_wcInts.l0]
  have hp : (pre.length : Int) ≤ 4000000 := by simp at hl; omega
  rw [if_pos (len_mid pre x suf), if_pos (by omega), if_pos (len_mid pre x suf), if_pos trivial, w64_len (by omega) (by omega), ← len_snoc pre x, app_cons pre x suf]
  exact wcInts_l0 suf (pre ++ [x]) k (by simpa using hl) (by simp at hk; omega)
theorem wcInts_ok (l : List Int) (hl : l.length ≤ 4000000) (k : Nat) (hk : l.length + 1 ≤ k) : laws_wcInts.f k l l = some true := by
 unfold laws_wcInts.f
 rw [if_pos rfl]
 exact wcInts_l0 l [] k (by simpa using hl) hk

/-! what is drawn: a reader of bytes -/
theorem xor_i64 (a b : Nat) (ha : a < 2 ^ 40) (hb : b < 2 ^ 40) : bits .xor .i64 (a : Int) (b : Int) = ((a ^^^ b : Nat) : Int) := by
 have hp : (2 : Nat) ^ 40 ≤ 2 ^ IntKind.i64.bits := by decide
 have ha' : a % 2 ^ IntKind.i64.bits = a := Nat.mod_eq_of_lt (Nat.lt_of_lt_of_le ha hp)
 have hb' : b % 2 ^ IntKind.i64.bits = b := Nat.mod_eq_of_lt (Nat.lt_of_lt_of_le hb hp)
 simp only [bits, BitVec.ofInt_natCast, BitVec.toNat_xor, BitVec.toNat_ofNat, ha', hb']
 have h := Nat.xor_lt_two_pow ha hb
 rw [IntKind.wrap_i64]
 omega
theorem xor_pos {x y : Int} (hx : 0 ≤ x) (hx' : x < 1099511627776) (hy : 0 ≤ y) (hy' : y < 1099511627776) : 0 ≤ bits .xor .i64 x y ∧ bits .xor .i64 x y < 1099511627776 := by
 obtain ⟨a, rfl⟩ := Int.eq_ofNat_of_zero_le hx
 obtain ⟨b, rfl⟩ := Int.eq_ofNat_of_zero_le hy
 have ha : a < 2 ^ 40 := by omega
 have hb : b < 2 ^ 40 := by omega
 rw [xor_i64 a b ha hb]
 have h := Nat.xor_lt_two_pow ha hb
 omega
theorem tmod_in {x n : Int} (hx : 0 ≤ x) (hn : 0 < n) : 0 ≤ Int.tmod x n ∧ Int.tmod x n < n := by
 rw [Int.tmod_eq_emod_of_nonneg hx]
 exact ⟨Int.emod_nonneg _ (by omega), Int.emod_lt_of_pos _ hn⟩
theorem tdiv_in {x n : Int} (hx : 0 ≤ x) (hn : 0 < n) : 0 ≤ Int.tdiv x n ∧ Int.tdiv x n ≤ x := by
 rw [Int.tdiv_eq_ediv_of_nonneg hx]
 exact ⟨Int.ediv_nonneg hx (by omega), Int.ediv_le_self _ hx⟩
/-- bytes -/
def Bytes (b : List Int) : Prop := b.length ≤ 2000 ∧ ∀ x ∈ b, 0 ≤ x ∧ x ≤ 255
theorem rd_byte {b : List Int} (hb : Bytes b) {i : Int} (h : i < b.length) (h0 : 0 ≤ i) : 0 ≤ rd b i ∧ rd b i ≤ 255 := by
 unfold rd
 have hi : i.toNat < b.length := by omega
 rw [List.getD_eq_getElem?_getD, List.getElem?_eq_getElem hi]
 exact hb.2 _ (List.getElem_mem hi)
theorem pick_ok {b : List Int} (hb : Bytes b) (p n : Int) (hp : 0 ≤ p) (hp' : p ≤ 1000000) (k : Nat) (hk : 1 ≤ k) :
  ∃ v, spec_l1Rd_pick.f k b p n = some (v, p + 1) ∧ 0 ≤ v ∧ (1 ≤ n → v < n) ∧ (n < 1 → v = 0) := by
 obtain ⟨k, rfl⟩ : ∃ m, k = m + 1 := ⟨k - 1, by omega⟩
 have hl := hb.1
 have e1 : wrap64 (p + 1) = p + 1 := w64 (by omega) (by omega)
 have e2 : wrap64 (p + 1 - 1) = p := by rw [w64 (by omega) (by omega)]; omega
 unfold spec_l1Rd_pick.f
 by_cases hn : n < 1
 ·rw [if_pos hn, e1]
  simp only [spec_l1Rd_pick.j0, if_true]
  exact ⟨0, rfl, by omega, by omega, fun _ => rfl⟩
 ·rw [if_neg hn, e1]
  by_cases h0 : b.length = 0
  ·have e0 : ((b.length : Int) == 0) = true := by simp [h0]
   simp only [spec_l1Rd_pick.j0, e0, if_true]
   exact ⟨0, rfl, by omega, by omega, fun _ => rfl⟩
  ·have e0 : ((b.length : Int) == 0) = false := by simp; intro h; exact h0 (by rw [h]; rfl)
   have hlen : (0 : Int) < b.length := by omega
   simp only [spec_l1Rd_pick.j0, e0, e2, Bool.false_eq_true, if_false]
   have hn0 : ¬ n = 0 := by omega
   by_cases hlt : p < (b.length : Int)
   ·rw [if_pos hlt, if_pos hp, if_neg hn0]
    obtain ⟨r0, r1⟩ := rd_byte hb hlt hp
    rw [w64 (by omega) (by omega)]
    have h := tmod_in r0 (show 0 < n by omega)
    exact ⟨_, rfl, h.1, fun _ => h.2, fun h' => absurd h' hn⟩
   ·have m1 := tmod_in hp hlen
    have e7 : wrap64 (wrap64 (p * 7) + 3) = p * 7 + 3 := by rw [w64 (x := p * 7) (by omega) (by omega), w64 (by omega) (by omega)]
    have m2 := tmod_in (show 0 ≤ p * 7 + 3 by omega) hlen
    have r1 := rd_byte hb m1.2 m1.1
    have r2 := rd_byte hb m2.2 m2.1
    have d1 := tdiv_in hp hlen
    rw [if_neg hlt, if_neg (by omega), if_pos m1.1, if_pos m1.2, e7, if_pos m2.1, if_pos m2.2, if_neg hn0]
    generalize rd b (Int.tmod p (b.length : Int)) = x1 at *
    generalize rd b (Int.tmod (p * 7 + 3) (b.length : Int)) = x2 at *
    generalize Int.tdiv p (b.length : Int) = x3 at *
    have eX : wrap64 (wrap64 (wrap64 (wrap64 (wrap64 x1 * 131) + wrap64 (wrap64 x2 * 1117)) + wrap64 (p * 29)) + wrap64 (wrap64 x3 * 53)) = x1 * 131 + x2 * 1117 + p * 29 + x3 * 53 := by
     rw [w64 (x := x1) (by omega) (by omega), w64 (x := x2) (by omega) (by omega), w64 (x := x3) (by omega) (by omega), w64 (x := x1 * 131) (by omega) (by omega), w64 (x := x2 * 1117) (by omega) (by omega), w64 (x := p * 29) (by omega) (by omega), w64 (x := x3 * 53) (by omega) (by omega), w64 (x := x1 * 131 + x2 * 1117) (by omega) (by omega), w64 (x := x1 * 131 + x2 * 1117 + p * 29) (by omega) (by omega), w64 (by omega) (by omega)]
    rw [eX]
    have hX0 : 0 ≤ x1 * 131 + x2 * 1117 + p * 29 + x3 * 53 := by omega
    have hX1 : x1 * 131 + x2 * 1117 + p * 29 + x3 * 53 < 1000000000 := by omega
    generalize x1 * 131 + x2 * 1117 + p * 29 + x3 * 53 = X at *
    have d2 := tdiv_in hX0 (show (0 : Int) < 64 by omega)
    rw [w64 (x := Int.tdiv X 64) (by omega) (by omega)]
    have hx := xor_pos hX0 (by omega) d2.1 (by omega)
    have h := tmod_in hx.1 (show 0 < n by omega)
    exact ⟨_, rfl, h.1, fun _ => h.2, fun h' => absurd h' hn⟩
theorem open_ok {l : List Int} (h : ∀ x ∈ l, (Lit.int .u8 x).wf = true) : ∃ b, spec_l1Open.f l = some (b, 0) ∧ Bytes b := by
 unfold spec_l1Open.f
 by_cases h1 : (l.length : Int) > 2000
 ·rw [if_pos h1, if_pos (by omega)]
  exact ⟨_, rfl, by rw [List.length_take]; omega, fun x hx => in_u8 (h x (List.mem_of_mem_take hx))⟩
 ·rw [if_neg h1]
  exact ⟨_, rfl, by omega, fun x hx => in_u8 (h x hx)⟩

theorem one_ok {b : List Int} (hb : Bytes b) (p : Int) (hp : 0 ≤ p) (hp' : p ≤ 1000000) (l : List Int) (hl : 1 ≤ l.length) (k : Nat) (hk : 1 ≤ k) :
  ∃ v, spec_l1Rd_one.f k b p l = some (v, p + 1) ∧ v ∈ l := by
 obtain ⟨v, e, h0, h1, _⟩ := pick_ok hb p (l.length : Int) hp hp' k hk
 unfold spec_l1Rd_one.f
 rw [e]
 simp only [Option.bind_some]
 have h2 := h1 (by omega)
 rw [if_pos h0, if_pos h2]
 refine ⟨_, rfl, ?_⟩
 unfold rd
 have hi : v.toNat < l.length := by omega
 rw [List.getD_eq_getElem?_getD, List.getElem?_eq_getElem hi]
 exact List.getElem_mem hi

/-- a number that is drawn as a letter -/
def LRange (v : Int) : Prop := 0 ≤ v ∧ v ≤ 1114111
theorem rune_ok {b : List Int} (hb : Bytes b) (p : Int) (hp : 0 ≤ p) (hp' : p ≤ 900000) (k : Nat) (hk : 10 ≤ k) :
  ∃ v q, spec_l13Rune.f k b p = some (v, q) ∧ p ≤ q ∧ q ≤ p + 2 ∧ LRange v := by
 obtain ⟨k, rfl⟩ : ∃ m, k = m + 10 := ⟨k - 10, by omega⟩
 obtain ⟨v, e, h0, h1, _⟩ := pick_ok hb p 16 hp (by omega) (k + 10) (by omega)
 have h2 := h1 (by omega)
 unfold spec_l13Rune.f
 rw [e]
 have one : ∀ (l : List Int) (j : Nat), 1 ≤ l.length → 1 ≤ j → (∀ x ∈ l, LRange x) → ∃ u q, ((spec_l1Rd_one.f j b (p + 1) l).bind fun bt => some (bt.1, bt.2)) = some (u, q) ∧ p ≤ q ∧ q ≤ p + 2 ∧ LRange u := by
  intro l j h3 h4 h5
  obtain ⟨u, e1, h6⟩ := one_ok hb (p + 1) (by omega) (by omega) l h3 j h4
  exact ⟨u, p + 1 + 1, by rw [e1]; rfl, by omega, by omega, h5 u h6⟩
 simp only [Option.bind_some]
 have hv : v = 0 ∨ v = 1 ∨ v = 2 ∨ v = 3 ∨ v = 4 ∨ v = 5 ∨ v = 6 ∨ v = 7 ∨ v = 8 ∨ v = 9 ∨ v = 10 ∨ v = 11 ∨ v = 12 ∨ v = 13 ∨ v = 14 ∨ v = 15 := by omega
 rcases hv with rfl | rfl | rfl | rfl | rfl | rfl | rfl | rfl | rfl | rfl | rfl | rfl | rfl | rfl | rfl | rfl
 all_goals simp only [spec_l13Rune.j0, spec_l13Rune.j1, spec_l13Rune.j2, Int.reduceEq, Int.reduceBEq, if_true, if_false, ↓reduceIte, Bool.false_eq_true, beq_self_eq_true]
 all_goals first
  | exact ⟨32, p + 1, rfl, by omega, by omega, by unfold LRange; omega⟩
  | exact one _ _ (by simp) (by omega) (by simp [LRange])

theorem runes_l1 {b : List Int} (hb : Bytes b) : ∀ (n : Nat) (out : List Int) (p : Int) (k : Nat), out.length + n = 80 → 0 ≤ p → p + n ≤ 900000 → (∀ x ∈ out, LRange x) → n + 1 ≤ k →
  ∃ v q, spec_l13Runes.l1 k out b p = some (v, q) ∧ v.length ≤ 80 ∧ (∀ x ∈ v, LRange x) ∧ p ≤ q ∧ q ≤ p + n
 | 0, out, p, k, ho, hp, hp', hx, hk => by
  obtain ⟨k, rfl⟩ : ∃ m, k = m + 1 := ⟨k - 1, by omega⟩
  simp only [spec_l13Runes.l1]
  rw [if_neg (by omega)]
  exact ⟨_, _, rfl, by omega, hx, by omega, by omega⟩
 | n + 1, out, p, k, ho, hp, hp', hx, hk => by
  obtain ⟨k, rfl⟩ : ∃ m, k = m + 1 := ⟨k - 1, by omega⟩
  simp only [spec_l13Runes.l1]
  rw [if_pos (by omega)]
  obtain ⟨u, e1, h3⟩ := one_ok hb p (by omega) (by omega) [8235, 8238, 8295, 1488, 97] (by simp) k (by omega)
  rw [e1]
  simp only [Option.bind_some]
  rw [if_pos (by omega)]
  have hu : LRange u := by simp at h3; unfold LRange; omega
  obtain ⟨v, q, g1, g2, g3, g4, g5⟩ := runes_l1 hb n (out ++ [u]) (p + 1) k (by simp; omega) (by omega) (by omega) (fun x hx' => by
   rcases List.mem_append.1 hx' with h | h
   ·exact hx x h
   ·simp at h
    exact h ▸ hu) (by omega)
  exact ⟨v, q, g1, g2, g3, by omega, by omega⟩
theorem runes_l0 {b : List Int} (hb : Bytes b) : ∀ (n : Nat) (out : List Int) (p : Int) (k : Nat), out.length + n ≤ 80 → 0 ≤ p → p + 2 * n ≤ 800000 → (∀ x ∈ out, LRange x) → n + 100 ≤ k →
  ∃ v q, spec_l13Runes.l0 k out (n : Int) b p = some (v, q) ∧ v.length ≤ 80 ∧ (∀ x ∈ v, LRange x) ∧ p ≤ q ∧ q ≤ p + 2 * n + 81
 | 0, out, p, k, ho, hp, hp', hx, hk => by
  obtain ⟨k, rfl⟩ : ∃ m, k = m + 1 := ⟨k - 1, by omega⟩
  simp only [spec_l13Runes.l0]
  rw [if_neg (by omega)]
  obtain ⟨v, e, h0, h1, _⟩ := pick_ok hb p 24 hp (by omega) k (by omega)
  rw [e]
  simp only [Option.bind_some]
  by_cases hv : v = 0
  ·rw [if_pos hv]
   obtain ⟨v, q, g1, g2, g3, g4, g5⟩ := runes_l1 hb (80 - out.length) out (p + 1) k (by omega) (by omega) (by omega) hx (by omega)
   exact ⟨v, q, g1, g2, g3, by omega, by omega⟩
  ·rw [if_neg hv]
   exact ⟨_, _, rfl, by omega, hx, by omega, by omega⟩
 | n + 1, out, p, k, ho, hp, hp', hx, hk => by
  obtain ⟨k, rfl⟩ : ∃ m, k = m + 1 := ⟨k - 1, by omega⟩
  simp only [spec_l13Runes.l0]
  rw [if_pos (by omega)]
  obtain ⟨u, q, e1, h2, h3, hu⟩ := rune_ok hb p (by omega) (by omega) k (by omega)
  rw [e1]
  simp only [Option.bind_some]
  rw [if_pos (by omega)]
  have e6 : wrap64 (((n + 1 : Nat) : Int) - 1) = (n : Int) := by rw [w64 (by omega) (by omega)]; omega
  rw [e6]
  obtain ⟨v, q', g1, g2, g3, g4, g5⟩ := runes_l0 hb n (out ++ [u]) q k (by simp; omega) (by omega) (by omega) (fun x hx' => by
   rcases List.mem_append.1 hx' with h | h
   ·exact hx x h
   ·simp at h
    exact h ▸ hu) (by omega)
  exact ⟨v, q', g1, g2, g3, by omega, by omega⟩
theorem runes_ok {b : List Int} (hb : Bytes b) (p : Int) (hp : 0 ≤ p) (hp' : p ≤ 700000) (k : Nat) (hk : 150 ≤ k) :
  ∃ v q, spec_l13Runes.f k b p = some (v, q) ∧ v.length ≤ 80 ∧ (∀ x ∈ v, LRange x) ∧ p ≤ q ∧ q ≤ p + 200 := by
 obtain ⟨n, e, h0, h1, _⟩ := pick_ok hb p 24 hp (by omega) k (by omega)
 have h2 := h1 (by omega)
 unfold spec_l13Runes.f
 rw [e]
 simp only [Option.bind_some]
 obtain ⟨m, rfl⟩ : ∃ m : Nat, n = m := ⟨n.toNat, by omega⟩
 obtain ⟨v, q, g1, g2, g3, g4, g5⟩ := runes_l0 hb m [] (p + 1) k (by simp; omega) (by omega) (by omega) (by simp) (by omega)
 exact ⟨v, q, g1, g2, g3, by omega, by omega⟩

def ARange (v : Int) : Prop := -1 ≤ v ∧ v ≤ 1114112
theorem any_l0 (b : List Int) (p : Int) : ∀ (n : Nat) (out : List Int) (k : Nat), out.length + n = 81 → (∀ x ∈ out, ARange x) → n + 1 ≤ k → ∃ v, spec_l13Any.l0 k out b p = some (v, p) ∧ v.length ≤ 81 ∧ ∀ x ∈ v, ARange x
 | 0, out, k, ho, hx, hk => by
  obtain ⟨k, rfl⟩ : ∃ m, k = m + 1 := ⟨k - 1, by omega⟩
  simp only [spec_l13Any.l0]
  rw [if_neg (by omega)]
  exact ⟨_, rfl, by omega, hx⟩
 | n + 1, out, k, ho, hx, hk => by
  obtain ⟨k, rfl⟩ : ∃ m, k = m + 1 := ⟨k - 1, by omega⟩
  simp only [spec_l13Any.l0]
  rw [if_pos (by omega), if_pos (by omega)]
  exact any_l0 b p n (out ++ [97]) k (by simp; omega) (fun x hx' => by
   rcases List.mem_append.1 hx' with h | h
   ·exact hx x h
   ·simp at h
    subst h
    unfold ARange
    omega) (by omega)
theorem any_ok {b : List Int} (hb : Bytes b) (p : Int) (hp : 0 ≤ p) (hp' : p ≤ 600000) (k : Nat) (hk : 150 ≤ k) :
  ∃ v q, spec_l13Any.f k b p = some (v, q) ∧ v.length ≤ 81 ∧ (∀ x ∈ v, ARange x) ∧ p ≤ q ∧ q ≤ p + 202 := by
 obtain ⟨v, q, g1, g2, g3, g4, g5⟩ := runes_ok hb p hp (by omega) k hk
 have g6 : ∀ x ∈ v, ARange x := fun x hx => by have := g3 x hx; unfold LRange at this; unfold ARange; omega
 unfold spec_l13Any.f
 rw [g1]
 simp only [Option.bind_some]
 obtain ⟨n, e, h0, h1, _⟩ := pick_ok hb q 24 (by omega) (by omega) k (by omega)
 rw [e]
 simp only [Option.bind_some]
 by_cases hn : n = 0
 ·rw [if_pos hn]
  obtain ⟨u, e1, h3⟩ := one_ok hb (q + 1) (by omega) (by omega) [-1, 55296, 57343, 1114112] (by simp) k (by omega)
  rw [e1]
  simp only [Option.bind_some]
  rw [if_pos (by omega)]
  refine ⟨_, _, rfl, by simp; omega, fun x hx' => ?_, by omega, by omega⟩
  rcases List.mem_append.1 hx' with h | h
  ·exact g6 x h
  ·simp at h
   subst h
   simp at h3
   unfold ARange
   omega
 rw [if_neg hn]
 by_cases hn1 : n = 1
 ·rw [if_pos hn1]
  obtain ⟨u, f1, f2, f3⟩ := any_l0 b (q + 1) (81 - v.length) v k (by omega) g6 (by omega)
  exact ⟨u, _, f1, f2, f3, by omega, by omega⟩
 ·rw [if_neg hn1]
  exact ⟨v, _, rfl, by omega, g6, by omega, by omega⟩

def SpR (s : Sp) : Prop := -100 ≤ s.f0 ∧ s.f0 ≤ 200 ∧ -100 ≤ s.f1 ∧ s.f1 ≤ 200 ∧ -100 ≤ s.f2 ∧ s.f2 ≤ 200 ∧ -100 ≤ s.f3 ∧ s.f3 ≤ 200
theorem len_rd (i : Int) (h0 : 0 ≤ i) (h1 : i < 5) : 1 ≤ rd [10, 5, 20, 40, 1] i ∧ rd [10, 5, 20, 40, 1] i ≤ 40 := by
 have : i = 0 ∨ i = 1 ∨ i = 2 ∨ i = 3 ∨ i = 4 := by omega
 rcases this with rfl | rfl | rfl | rfl | rfl <;> decide
theorem all_snoc {α : Type} {P : α → Prop} {l : List α} {x : α} (h : ∀ y ∈ l, P y) (hx : P x) : ∀ y ∈ l ++ [x], P y := by
 intro y hy
 rcases List.mem_append.1 hy with g | g
 ·exact h y g
 ·simp at g
  exact g ▸ hx
theorem spans_l0 {b : List Int} (hb : Bytes b) (x1 : Int) (hx1 : 0 ≤ x1 ∧ x1 ≤ 100) : ∀ (n : Nat) (out : List Sp) (x6 p : Int) (k : Nat), out.length + n = 12 → (∀ s ∈ out, SpR s) → 0 ≤ x6 → x6 ≤ 110 → 0 ≤ p → p + 6 * n ≤ 800000 → 2 * n + 3 ≤ k →
  ∃ v q, spec_l13Spans.l0 k x1 out x6 b p = some (v, q) ∧ v.length ≤ 12 ∧ (∀ s ∈ v, SpR s) ∧ p ≤ q ∧ q ≤ p + 6 * n + 1
 | 0, out, x6, p, k, ho, hs, h0, h1, hp, hp', hk => by
  obtain ⟨k, rfl⟩ : ∃ m, k = m + 2 := ⟨k - 2, by omega⟩
  simp only [spec_l13Spans.l0]
  have hn : ¬ (out.length : Int) < 12 := by omega
  have e : spec_l13Spans.j1 (k + 1) x1 out x6 false b p = some (out, p) := by
   simp only [spec_l13Spans.j1]
   rw [if_neg (by simp)]
  rw [if_neg hn, e, ite_self]
  exact ⟨_, _, rfl, by omega, hs, by omega, by omega⟩
 | n + 1, out, x6, p, k, ho, hs, h0, h1, hp, hp', hk => by
  obtain ⟨k, rfl⟩ : ∃ m, k = m + 2 := ⟨k - 2, by omega⟩
  have stop : ∀ q, spec_l13Spans.j1 (k + 1) x1 out x6 false b q = some (out, q) := by
   intro q
   simp only [spec_l13Spans.j1]
   rw [if_neg (by simp)]
  simp only [spec_l13Spans.l0]
  by_cases hx : x6 < x1
  ·rw [if_pos hx, if_pos (by omega)]
   obtain ⟨v1, e1, a1, b1, _⟩ := pick_ok hb p 8 hp (by omega) (k + 1) (by omega)
   rw [e1]
   simp only [Option.bind_some]
   by_cases hv : v1 > 0
   ·rw [decide_eq_true hv]
    simp only [spec_l13Spans.j1, if_true]
    obtain ⟨v2, e2, a2, b2, _⟩ := pick_ok hb (p + 1) 5 (by omega) (by omega) k (by omega)
    have c2 := b2 (by omega)
    rw [e2]
    simp only [Option.bind_some]
    obtain ⟨v3, e3, a3, b3, _⟩ := pick_ok hb (p + 1 + 1) 5 (by omega) (by omega) k (by omega)
    have c3 := b3 (by omega)
    rw [e3]
    simp only [Option.bind_some]
    obtain ⟨v4, e4, a4, b4, _⟩ := pick_ok hb (p + 1 + 1 + 1) 3 (by omega) (by omega) k (by omega)
    have c4 := b4 (by omega)
    rw [e4]
    simp only [Option.bind_some]
    obtain ⟨v5, e5, a5, b5, _⟩ := pick_ok hb (p + 1 + 1 + 1 + 1) 3 (by omega) (by omega) k (by omega)
    have c5 := b5 (by omega)
    rw [e5]
    simp only [Option.bind_some]
    have hr := len_rd v3 a3 c3
    rw [w64 (x := x6 + 1) (by omega) (by omega), w64 (x := x6 + 1 + v2) (by omega) (by omega)]
    have c3' : v3 < (([10, 5, 20, 40, 1] : List Int).length : Int) := by simpa using c3
    have ho' : out.length < 4398046511104 := by omega
    by_cases ht : x6 + 1 + v2 > x1
    ·rw [if_pos ht, if_pos a3, if_pos c3', if_pos ho', w64 (by omega) (by omega)]
     obtain ⟨v, q, g1, g2, g3, g4, g5⟩ := spans_l0 hb x1 hx1 n (out ++ [⟨x6, x1, rd [10, 5, 20, 40, 1] v3, v4⟩]) (x1 + v5) (p + 1 + 1 + 1 + 1 + 1) k (by simp; omega) (all_snoc hs (by simp only [SpR]; omega)) (by omega) (by omega) (by omega) (by omega) (by omega)
     exact ⟨v, q, g1, g2, g3, by omega, by omega⟩
    ·rw [if_neg ht, if_pos a3, if_pos c3', if_pos ho', w64 (by omega) (by omega)]
     obtain ⟨v, q, g1, g2, g3, g4, g5⟩ := spans_l0 hb x1 hx1 n (out ++ [⟨x6, x6 + 1 + v2, rd [10, 5, 20, 40, 1] v3, v4⟩]) (x6 + 1 + v2 + v5) (p + 1 + 1 + 1 + 1 + 1) k (by simp; omega) (all_snoc hs (by simp only [SpR]; omega)) (by omega) (by omega) (by omega) (by omega) (by omega)
     exact ⟨v, q, g1, g2, g3, by omega, by omega⟩
   ·rw [decide_eq_false hv, stop]
    exact ⟨_, _, rfl, by omega, hs, by omega, by omega⟩
  ·rw [if_neg hx, stop]
   exact ⟨_, _, rfl, by omega, hs, by omega, by omega⟩
theorem spans_ok {b : List Int} (hb : Bytes b) (x1 : Int) (hx1 : 0 ≤ x1 ∧ x1 ≤ 100) (p : Int) (hp : 0 ≤ p) (hp' : p ≤ 700000) (k : Nat) (hk : 30 ≤ k) :
  ∃ v q, spec_l13Spans.f k b p x1 = some (v, q) ∧ v.length ≤ 12 ∧ (∀ s ∈ v, SpR s) ∧ p ≤ q ∧ q ≤ p + 100 := by
 obtain ⟨n, e, h0, h1, _⟩ := pick_ok hb p 4 hp (by omega) k (by omega)
 have h2 := h1 (by omega)
 unfold spec_l13Spans.f
 rw [e]
 simp only [Option.bind_some]
 obtain ⟨v, q, g1, g2, g3, g4, g5⟩ := spans_l0 hb x1 hx1 12 [] n (p + 1) k (by simp) (by simp) (by omega) (by omega) (by omega) (by omega) (by omega)
 exact ⟨v, q, g1, g2, g3, by omega, by omega⟩

theorem spoil_l0 (b : List Int) (p : Int) : ∀ (n : Nat) (y : List Sp) (i : Int) (k : Nat), y.length + n = 13 → (∀ s ∈ y, SpR s) → 0 ≤ i → i < y.length → n + 1 ≤ k → ∃ v, spec_l13SpoilSpans.l0 k y i b p = some (v, p) ∧ v.length ≤ 13 ∧ ∀ s ∈ v, SpR s
 | 0, y, i, k, hn, hs, h0, h1, hk => by
  obtain ⟨k, rfl⟩ : ∃ m, k = m + 1 := ⟨k - 1, by omega⟩
  simp only [spec_l13SpoilSpans.l0]
  rw [if_neg (by omega)]
  exact ⟨y, rfl, by omega, hs⟩
 | n + 1, y, i, k, hn, hs, h0, h1, hk => by
  obtain ⟨k, rfl⟩ : ∃ m, k = m + 1 := ⟨k - 1, by omega⟩
  have hm : SpR (rd_T40 y i) := by
   unfold rd_T40
   rw [List.getD_eq_getElem?_getD, List.getElem?_eq_getElem (by omega)]
   exact hs _ (List.getElem_mem _)
  simp only [spec_l13SpoilSpans.l0]
  rw [if_pos (by omega), if_pos h0, if_pos h1, if_pos (by omega)]
  exact spoil_l0 b p n _ i k (by simp; omega) (all_snoc hs hm) h0 (by simp; omega) (by omega)
theorem all_set {P : Sp → Prop} {y : List Sp} (h : ∀ s ∈ y, P s) (n : Nat) (x : Sp) (hx : P x) : ∀ s ∈ y.set n x, P s := by
 intro s hs
 rcases List.mem_or_eq_of_mem_set hs with g | g
 ·exact h s g
 ·exact g ▸ hx
theorem spoil_ok {b : List Int} (hb : Bytes b) (l : List Sp) (hl : l.length ≤ 12) (hs : ∀ s ∈ l, SpR s) (a2 : Int) (ha : 0 ≤ a2 ∧ a2 ≤ 100) (p : Int) (hp : 0 ≤ p) (hp' : p ≤ 800000) (k : Nat) (hk : 30 ≤ k) :
  ∃ v q, spec_l13SpoilSpans.f k b p l a2 = some (v, q) ∧ v.length ≤ 13 ∧ (∀ s ∈ v, SpR s) ∧ p ≤ q ∧ q ≤ p + 3 := by
 unfold spec_l13SpoilSpans.f
 simp only [Option.bind_some, List.nil_append, List.length_nil]
 rw [if_pos (by omega), w64 (x := a2 + 1) (by omega) (by omega)]
 by_cases hz : (l.length : Int) = 0
 ·rw [if_pos hz]
  exact ⟨_, _, rfl, by simp, by intro s h; simp at h; subst h; simp only [SpR]; omega, by omega, by omega⟩
 rw [if_neg hz]
 obtain ⟨i, e1, a1, b1, _⟩ := pick_ok hb p (l.length : Int) hp (by omega) k (by omega)
 have c1 := b1 (by omega)
 rw [e1]
 simp only [Option.bind_some]
 obtain ⟨v2, e2, h2, b2, _⟩ := pick_ok hb (p + 1) 6 (by omega) (by omega) k (by omega)
 have c2 := b2 (by omega)
 rw [e2]
 simp only [Option.bind_some]
 have hm : SpR (rd_T40 l i) := by
  unfold rd_T40
  rw [List.getD_eq_getElem?_getD, List.getElem?_eq_getElem (by omega)]
  exact hs _ (List.getElem_mem _)
 have hm' := hm
 simp only [SpR] at hm'
 by_cases q0 : v2 = 0
 ·rw [if_pos q0]
  obtain ⟨u, e3, hu⟩ := one_ok hb (p + 1 + 1) (by omega) (by omega) [-1, a2, 0] (by simp) k (by omega)
  rw [e3]
  simp only [Option.bind_some]
  rw [if_pos a1, if_pos c1]
  simp at hu
  exact ⟨_, _, rfl, by simp; omega, all_set hs _ _ (by simp only [SpR]; omega), by omega, by omega⟩
 rw [if_neg q0]
 by_cases q1 : v2 = 1
 ·rw [if_pos q1, if_pos a1, if_pos c1]
  obtain ⟨u, e3, hu⟩ := one_ok hb (p + 1 + 1) (by omega) (by omega) [a2 + 1, (rd_T40 l i).f0, 0] (by simp) k (by omega)
  rw [e3]
  simp only [Option.bind_some]
  simp at hu
  exact ⟨_, _, rfl, by simp; omega, all_set hs _ _ (by simp only [SpR]; omega), by omega, by omega⟩
 rw [if_neg q1]
 by_cases q2 : v2 = 2
 ·rw [if_pos q2]
  obtain ⟨u, e3, hu⟩ := one_ok hb (p + 1 + 1) (by omega) (by omega) [0, 41] (by simp) k (by omega)
  rw [e3]
  simp only [Option.bind_some]
  rw [if_pos a1, if_pos c1]
  simp at hu
  exact ⟨_, _, rfl, by simp; omega, all_set hs _ _ (by simp only [SpR]; omega), by omega, by omega⟩
 rw [if_neg q2]
 by_cases q3 : v2 = 3
 ·rw [if_pos q3]
  obtain ⟨u, e3, hu⟩ := one_ok hb (p + 1 + 1) (by omega) (by omega) [-1, 10] (by simp) k (by omega)
  rw [e3]
  simp only [Option.bind_some]
  rw [if_pos a1, if_pos c1]
  simp at hu
  exact ⟨_, _, rfl, by simp; omega, all_set hs _ _ (by simp only [SpR]; omega), by omega, by omega⟩
 rw [if_neg q3]
 by_cases q4 : v2 = 4
 ·rw [if_pos q4, if_pos a1, if_pos c1, if_pos (by omega)]
  exact ⟨_, _, rfl, by simp; omega, all_snoc hs hm, by omega, by omega⟩
 rw [if_neg q4]
 obtain ⟨v, g1, g2, g3⟩ := spoil_l0 b (p + 1 + 1) (13 - l.length) l i k (by omega) hs a1 c1 (by omega)
 exact ⟨v, _, g1, g2, g3, by omega, by omega⟩
theorem anyspans_ok {b : List Int} (hb : Bytes b) (x1 : Int) (hx1 : 0 ≤ x1 ∧ x1 ≤ 100) (p : Int) (hp : 0 ≤ p) (hp' : p ≤ 700000) (k : Nat) (hk : 30 ≤ k) :
  ∃ v q, spec_l13AnySpans.f k b p x1 = some (v, q) ∧ v.length ≤ 13 ∧ (∀ s ∈ v, SpR s) ∧ p ≤ q ∧ q ≤ p + 110 := by
 obtain ⟨v, q, g1, g2, g3, g4, g5⟩ := spans_ok hb x1 hx1 p hp hp' k hk
 unfold spec_l13AnySpans.f
 rw [g1]
 simp only [Option.bind_some]
 obtain ⟨n, e, h0, h1, _⟩ := pick_ok hb q 12 (by omega) (by omega) k (by omega)
 rw [e]
 simp only [Option.bind_some]
 by_cases hn : n = 0
 ·rw [if_pos hn]
  obtain ⟨u, r, f1, f2, f3, f4, f5⟩ := spoil_ok hb v g2 g3 x1 hx1 (q + 1) (by omega) (by omega) k hk
  rw [f1]
  exact ⟨u, r, rfl, f2, f3, by omega, by omega⟩
 ·rw [if_neg hn]
  exact ⟨v, _, rfl, by omega, g3, by omega, by omega⟩

theorem rowW_getD (l : List Int) (sp : List Sp) : ∀ n i j, j < n → (rowW l sp n i).getD j 0 = cellW l sp (i + j)
 | 0, _, _, h => absurd h (Nat.not_lt_zero _)
 | n + 1, i, 0, _ => by simp [rowW]
 | n + 1, i, j + 1, h => by
  have := rowW_getD l sp n (i + 1) j (by omega)
  simp only [rowW, List.getD_cons_succ, this]
  congr 1
  omega
theorem rwide_bd (a : Int) : 0 ≤ rwide a ∧ rwide a ≤ 40 := by
 unfold rwide
 repeat' split
 all_goals omega
theorem wgo_bd : ∀ (xs : List Int) (m : Int) (bs : List Bool), 0 ≤ m → m ≤ 40 → 0 ≤ wgo m xs bs ∧ wgo m xs bs ≤ 40
 | [], m, bs, h0, h1 => by cases bs <;> exact ⟨h0, h1⟩
 | x :: xs, m, [], h0, h1 => ⟨h0, h1⟩
 | x :: xs, m, b :: bs, h0, h1 => by
  unfold wgo
  have := rwide_bd x
  split
  ·refine wgo_bd xs _ bs ?_ ?_
   ·unfold mx; omega
   ·unfold mx; omega
  ·exact ⟨h0, h1⟩
theorem wideAt_bd (l : List Int) (n : Nat) : 0 ≤ wideAt l n ∧ wideAt l n ≤ 40 := by
 unfold wideAt
 have := rwide_bd (l.getD n 0)
 exact wgo_bd _ _ _ this.1 this.2
theorem chainOk_80 (c : Int) (hc : c ≤ 80) : ∀ (l : List Sp) (p : Int), chainOk c p l = true → chainOk 80 p l = true
 | [], _, _ => rfl
 | s :: r, p, h => by
  simp only [chainOk, Bool.and_eq_true] at h ⊢
  exact ⟨⟨spOk_mono s c hc h.1.1, h.1.2⟩, chainOk_80 c hc r _ h.2⟩
theorem spansOk_80 {l : List Sp} {c : Int} (h : spansOk l c = true) : spansOk l 80 = true := by
 unfold spansOk at h ⊢
 simp only [Bool.and_eq_true, decide_eq_true_eq] at h
 rw [chainOk_80 c (by omega) l 0 h.1]
 simp only [Bool.true_and, Bool.and_eq_true, decide_eq_true_eq]
 omega
theorem one_ok1 (n : Nat) (s : Int) (h0 : 1 ≤ n) (h1 : n ≤ 80) (hs : 1 ≤ s) (hs' : s ≤ 40) : spansOk [(⟨0, (n : Int), s, 0⟩ : Sp)] (n : Int) = true := by
 simp [spansOk, chainOk, spOk]
 omega
theorem cell_one (l : List Int) (s : Int) (hs : 1 ≤ s) (hs' : s ≤ 40) (i : Nat) (hi : i < l.length) : cellW l [(⟨0, (l.length : Int), s, 0⟩ : Sp)] i = if (jb l).getD i false = true then 0 else wideAt l i * s := by
 have hb := wideAt_bd l i
 unfold cellW
 have e : lookL (i : Int) [(⟨0, (l.length : Int), s, 0⟩ : Sp)] = (s, 0) := by
  simp only [lookL]
  rw [if_pos (by omega)]
 rw [e]
 split
 ·rfl
 ·have h1 : 0 ≤ wideAt l i * s := Int.mul_nonneg hb.1 (by omega)
  have h2 : wideAt l i * s ≤ 40 * 40 := Int.mul_le_mul hb.2 hs' (by omega) (by omega)
  show wrap64 (wideAt l i * s) = wideAt l i * s
  exact w64 (by omega) (by omega)
theorem wides_l1 (v x5 : List Int) (h5 : x5.length = v.length) (hv : v.length ≤ 80) : ∀ (n i k : Nat), i + n = v.length → n + 1 ≤ k →
  laws_FnWides.l1 k v x5 (rowW v [(⟨0, (v.length : Int), 7, 0⟩ : Sp)] v.length 0) (rowW v [(⟨0, (v.length : Int), 14, 0⟩ : Sp)] v.length 0) (i : Int) = some true
 | 0, i, k, hi, hk => by
  obtain ⟨k, rfl⟩ : ∃ m, k = m + 1 := ⟨k - 1, by omega⟩
  simp only [laws_FnWides.l1, rowW_len]
  rw [if_neg (by omega), h5]
  simp
 | n + 1, i, k, hi, hk => by
  obtain ⟨k, rfl⟩ : ∃ m, k = m + 1 := ⟨k - 1, by omega⟩
  have ih := wides_l1 v x5 h5 hv n (i + 1) k (by omega) (by omega)
  rw [show ((i + 1 : Nat) : Int) = (i : Int) + 1 from by omega] at ih
  simp only [laws_FnWides.l1, rowW_len]
  have e : rd (rowW v [(⟨0, (v.length : Int), 14, 0⟩ : Sp)] v.length 0) (i : Int) = wrap64 (2 * rd (rowW v [(⟨0, (v.length : Int), 7, 0⟩ : Sp)] v.length 0) (i : Int)) := by
   rw [rd_nat, rd_nat, rowW_getD _ _ _ _ _ (by omega), rowW_getD _ _ _ _ _ (by omega), Nat.zero_add, cell_one v 14 (by omega) (by omega) i (by omega), cell_one v 7 (by omega) (by omega) i (by omega)]
   have hb := wideAt_bd v i
   split
   ·rw [w64 (by omega) (by omega)]
    omega
   ·rw [w64 (by omega) (by omega)]
    omega
  rw [if_pos (by omega), if_pos (by omega), if_pos (by omega), if_pos e, w64_len (by omega) (by omega), ih]
theorem wides_l0 (v : List Int) (sp : List Sp) (hok : okT v = true) (hsp : spansOk sp (v.length : Int) = true) (h0 : 1 ≤ v.length) : ∀ (n i k : Nat), i + n = v.length → n + 700 ≤ k →
  laws_FnWides.l0 k v sp (rowW v sp v.length 0) (i : Int) = some true
 | 0, i, k, hi, hk => by
  have hv := okT_len hok
  obtain ⟨k, rfl⟩ : ∃ m, k = m + 1 := ⟨k - 1, by omega⟩
  simp only [laws_FnWides.l0, rowW_len]
  have e : ∀ s : Int, 1 ≤ s → s ≤ 40 → widesL v [(⟨0, (v.length : Int), s, 0⟩ : Sp)] = rowW v [(⟨0, (v.length : Int), s, 0⟩ : Sp)] v.length 0 := by
   intro s h1 h2
   unfold widesL
   rw [if_pos ⟨hok, one_ok1 v.length s h0 hv h1 h2⟩]
  rw [if_neg (by omega), implWidesOf v _ (by simp) k (by simp; omega), implWidesOf v _ (by simp) k (by simp; omega), e 7 (by omega) (by omega), e 14 (by omega) (by omega)]
  simp only [Option.bind_some]
  exact wides_l1 v _ (rowW_len _ _ _ _) hv v.length 0 k (by omega) (by omega)
 | n + 1, i, k, hi, hk => by
  have hv := okT_len hok
  have h12 := spansOk_len hsp
  obtain ⟨k, rfl⟩ : ∃ m, k = m + 1 := ⟨k - 1, by omega⟩
  have ih := wides_l0 v sp hok hsp h0 n (i + 1) k (by omega) (by omega)
  rw [show ((i + 1 : Nat) : Int) = (i : Int) + 1 from by omega] at ih
  have ea : atL sp (i : Int) = lookL (i : Int) sp := by unfold atL; rw [if_pos (spansOk_80 hsp)]
  have ec : clusterAt v (i : Int) = (dn (jb v) i : Int) := by
   unfold clusterAt
   rw [if_pos ⟨hok, by omega, by omega⟩, Int.toNat_natCast]
  have hd := dn_start (jb v) i (jb_zero v)
  have er : rd (rowW v sp v.length 0) (i : Int) = cellW v sp i := by rw [rd_nat, rowW_getD _ _ _ _ _ (by omega), Nat.zero_add]
  simp only [laws_FnWides.l0, rowW_len]
  rw [if_pos (by omega), implAt sp (i : Int) (by omega) k (by omega), ea, implClusterAt v (i : Int) k (by omega), ec, er]
  simp only [Option.bind_some]
  by_cases hb : (jb v).getD i false = true
  ·have hne : ¬ dn (jb v) i = i := fun g => (hd.1 g) hb
   have e0 : cellW v sp i = 0 := by unfold cellW; rw [if_pos hb]
   rw [if_neg (by omega), if_neg (by omega), if_pos (by omega), if_pos e0, w64_len (by omega) (by omega), ih]
  ·have heq : dn (jb v) i = i := hd.2 hb
   have ew : clusterWide v (i : Int) = wideAt v i := by
    unfold clusterWide
    rw [if_pos ⟨hok, by omega, by omega, by rw [Int.toNat_natCast]; omega⟩, Int.toNat_natCast]
   have e0 : cellW v sp i = wrap64 (wideAt v i * (lookL (i : Int) sp).1) := by unfold cellW; rw [if_neg hb]
   rw [if_pos (by omega), if_pos (by omega), implClusterWide v (i : Int) k (by omega), ew]
   simp only [Option.bind_some]
   rw [if_pos e0, if_pos (by omega), w64_len (by omega) (by omega), ih]
theorem FnWides : laws_FnWides.Pure := by
 intro l _ _ hl
 refine ⟨3000, ?_⟩
 unfold laws_FnWides.f
 by_cases h0 : (l.length : Int) > 1048576
 ·rw [if_pos h0]
 rw [if_neg h0]
 obtain ⟨b, e, hb⟩ := open_ok hl
 have hd : ∃ v sp, spec_DrawWidesOf.f 3000 l = some (v, sp) ∧ v.length ≤ 81 ∧ sp.length ≤ 13 ∧ (∀ s ∈ sp, SpR s) := by
  unfold spec_DrawWidesOf.f
  rw [e]
  simp only [Option.bind_some]
  obtain ⟨v, q, g1, g2, g3, g4, g5⟩ := any_ok hb 0 (by omega) (by omega) 3000 (by omega)
  rw [g1]
  simp only [Option.bind_some]
  obtain ⟨sp, q', f1, f2, f3, _, _⟩ := anyspans_ok hb (v.length : Int) (by omega) q (by omega) (by omega) 3000 (by omega)
  rw [f1]
  simp only [Option.bind_some]
  exact ⟨v, sp, rfl, g2, f2, f3⟩
 obtain ⟨v, sp, e1, hv, hsp, hs⟩ := hd
 have hw : ∀ s ∈ sp, InI s.f0 := fun s h => by have := hs s h; simp only [SpR] at this; unfold InI; omega
 have hlen := widesL_len v sp
 have hS := fun k (hk : 2999 ≤ k) => specWidesOf v sp hw (by omega) (by omega) k (by omega)
 rw [e1]
 simp only [Option.bind_some]
 rw [implWidesOf v sp (by omega) 3000 (by omega), hS 3000 (by omega)]
 simp only [Option.bind_some]
 rw [wcInts_ok _ (by omega) 3000 (by omega)]
 simp only [Option.bind_some, if_true]
 rw [show (3000 : Nat) = 2999 + 1 from rfl]
 simp only [laws_FnWides.j0]
 by_cases hz : ((widesL v sp).length : Int) = 0
 ·rw [if_pos (by simp only [beq_iff_eq]; exact hz), hS 2999 (by omega)]
  simp only [Option.bind_some]
  rw [wcInts_ok _ (by omega) 2999 (by omega)]
  rfl
 ·rw [if_neg (by simp only [beq_iff_eq]; exact hz)]
  by_cases hc : okT v = true ∧ spansOk sp (v.length : Int) = true
  ·have ew : widesL v sp = rowW v sp v.length 0 := by unfold widesL; rw [if_pos hc]
   rw [ew] at hz ⊢
   rw [rowW_len] at hz
   exact wides_l0 v sp hc.1 hc.2 (by omega) v.length 0 2999 (by omega) (by have := okT_len hc.1; omega)
  ·exfalso
   apply hz
   unfold widesL
   rw [if_neg hc]
   rfl

end Go.Proofs.Ytmjhdgofepdgkaa.Pure
