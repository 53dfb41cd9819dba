/- Of every drawn letter: RuneMirror of RuneMirror is the letter, RuneMate goes both ways and is RuneMirror, and both have one class: the law FnRuneMirror answers true; no condition. -/
import Derived.Test.YtjnmpamnlfabbaaPFnRuneMirrorx3
namespace Go.Proofs.Ytjnmpamnlfabbaa.Pure
open Go.RowKit Go.Proofs.Ytjnmpamnlfabbaa.PFnRuneMirror Go.Proofs.YtjnmpamnlfabbaaW.PrintWords Go.Proofs.YtjnmpamnlfabbaaW.PrintLast Go.Proofs.YtjnmpamnlfabbaaW.PrintMore
set_option linter.unusedVariables false
set_option linter.unusedSimpArgs false

/-! small lemmas on whole numbers, lists and rounds -/
theorem w64 {x : Int} (h : -9223372036854775808 ≤ x) (h' : x ≤ 9223372036854775807) : wrap64 x = x := by
  unfold wrap64
  omega
theorem in_i64 {x : Int} (h : (Lit.int .i64 x).wf = true) : -9223372036854775808 ≤ x ∧ x ≤ 9223372036854775807 := by
  simpa [Lit.wf, IntKind.min, IntKind.max, IntKind.bits, IntKind.signed] using h
theorem in_u8 {x : Int} (h : (Lit.int .u8 x).wf = true) : 0 ≤ x ∧ x ≤ 255 := by
  simpa [Lit.wf, IntKind.min, IntKind.max, IntKind.bits, IntKind.signed] using h
theorem rd_nat (l : List Int) (i : Nat) : rd l (i : Int) = l.getD i 0 := by
  unfold rd
  rw [Int.toNat_natCast]

theorem specMate (a : Int) : spec_RuneMate.f 8 a = some (mate a) := by
  unfold spec_RuneMate.f mate
  by_cases h1 : a = 40
  · subst h1; simp [spec_RuneMate.l0, rd, wrap64]
  by_cases h2 : a = 41
  · subst h2; simp [spec_RuneMate.l0, rd, wrap64]
  by_cases h3 : a = 91
  · subst h3; simp [spec_RuneMate.l0, rd, wrap64]
  by_cases h4 : a = 93
  · subst h4; simp [spec_RuneMate.l0, rd, wrap64]
  by_cases h5 : a = 123
  · subst h5; simp [spec_RuneMate.l0, rd, wrap64]
  by_cases h6 : a = 125
  · subst h6; simp [spec_RuneMate.l0, rd, wrap64]
  have g1 : ¬ (40 = a) := fun h => h1 h.symm
  have g2 : ¬ (41 = a) := fun h => h2 h.symm
  have g3 : ¬ (91 = a) := fun h => h3 h.symm
  have g4 : ¬ (93 = a) := fun h => h4 h.symm
  have g5 : ¬ (123 = a) := fun h => h5 h.symm
  have g6 : ¬ (125 = a) := fun h => h6 h.symm
  simp [spec_RuneMate.l0, rd, wrap64, h1, h2, h3, h4, h5, h6, g1, g2, g3, g4, g5, g6]
theorem implMate {a : Int} (h : -9223372036854775808 ≤ a) (h' : a ≤ 9223372036854775807) : impl_RuneMate.f a = some (mate a) := by
  unfold impl_RuneMate.f inI64
  simp [h, h']

/-- as it is seen in a mirror -/
def mir (a : Int) : Int := if mate a = 0 then (if a = 60 then 62 else if a = 62 then 60 else a) else mate a
theorem specMirror (a : Int) : spec_RuneMirror.f 8 a = some (mir a) := by
  unfold spec_RuneMirror.f mir
  rw [specMate]
  simp only [Option.bind_some, apply_ite some]
theorem implMirror {a : Int} (h : -9223372036854775808 ≤ a) (h' : a ≤ 9223372036854775807) : impl_RuneMirror.f a = some (mir a) := by
  unfold impl_RuneMirror.f mir
  rw [implMate h h']
  simp only [Option.bind_some, apply_ite some]

/-- the class of a letter for its side -/
def bidi (a : Int) : Int :=
  if (97 ≤ a ∧ a ≤ 122) ∨ (65 ≤ a ∧ a ≤ 90) ∨ (19968 ≤ a ∧ a ≤ 40959) then 1 else if 1488 ≤ a ∧ a ≤ 1514 then 2 else if 1569 ≤ a ∧ a ≤ 1610 then 3
  else if 48 ≤ a ∧ a ≤ 57 then 4 else if 1632 ≤ a ∧ a ≤ 1641 then 7 else if a = 43 ∨ a = 45 then 5 else if 35 ≤ a ∧ a ≤ 37 then 6
  else if a = 44 ∨ a = 46 ∨ a = 47 ∨ a = 58 then 8 else if 768 ≤ a ∧ a ≤ 879 then 9 else if a = 8203 ∨ a = 8205 ∨ a = 173 then 10
  else if a = 9 then 11 else if a = 32 then 12 else if 8234 ≤ a ∧ a ≤ 8238 then a - 8220 else if 8294 ≤ a ∧ a ≤ 8297 then a - 8275 else 13
theorem or_ite {α : Type} {p q : Prop} [Decidable p] [Decidable q] (x y : α) : (if p ∨ q then x else y) = if p then x else if q then x else y := by
  by_cases h1 : p <;> by_cases h2 : q <;> simp [h1, h2]

theorem lookR_is {l : List _} {a o b : Int} (h1 : ∀ x ∈ l, hitR x a = true → x.f2 = b) (h2 : (∀ x ∈ l, hitR x a = false) → o = b) : lookR l a o = b := by
  induction l with
  | nil => exact h2 (fun x hx => by cases hx)
  | cons x xs ih =>
    cases hh : hitR x a with
    | true =>
      have : lookR (x :: xs) a o = x.f2 := by simp [lookR, List.find?_cons, hh]
      rw [this]
      exact h1 x List.mem_cons_self hh
    | false =>
      have : lookR (x :: xs) a o = lookR xs a o := by simp [lookR, List.find?_cons, hh]
      rw [this]
      exact ih (fun y hy => h1 y (List.mem_cons_of_mem _ hy)) (fun hn => h2 (fun y hy => by
        rcases List.mem_cons.1 hy with rfl | hy
        · exact hh
        · exact hn y hy))
theorem bidi_none {a : Int} (h1 : ¬ (9 ≤ a ∧ a ≤ 9)) (h2 : ¬ (32 ≤ a ∧ a ≤ 32)) (h3 : ¬ (35 ≤ a ∧ a ≤ 37)) (h4 : ¬ (43 ≤ a ∧ a ≤ 43)) (h5 : ¬ (44 ≤ a ∧ a ≤ 44)) (h6 : ¬ (45 ≤ a ∧ a ≤ 45)) (h7 : ¬ (46 ≤ a ∧ a ≤ 47)) (h8 : ¬ (48 ≤ a ∧ a ≤ 57)) (h9 : ¬ (58 ≤ a ∧ a ≤ 58)) (h10 : ¬ (65 ≤ a ∧ a ≤ 90)) (h11 : ¬ (97 ≤ a ∧ a ≤ 122)) (h12 : ¬ (173 ≤ a ∧ a ≤ 173)) (h13 : ¬ (768 ≤ a ∧ a ≤ 879)) (h14 : ¬ (1488 ≤ a ∧ a ≤ 1514)) (h15 : ¬ (1569 ≤ a ∧ a ≤ 1610)) (h16 : ¬ (1632 ≤ a ∧ a ≤ 1641)) (h17 : ¬ (8203 ≤ a ∧ a ≤ 8203)) (h18 : ¬ (8205 ≤ a ∧ a ≤ 8205)) (h19 : ¬ (8234 ≤ a ∧ a ≤ 8234)) (h20 : ¬ (8235 ≤ a ∧ a ≤ 8235)) (h21 : ¬ (8236 ≤ a ∧ a ≤ 8236)) (h22 : ¬ (8237 ≤ a ∧ a ≤ 8237)) (h23 : ¬ (8238 ≤ a ∧ a ≤ 8238)) (h24 : ¬ (8294 ≤ a ∧ a ≤ 8294)) (h25 : ¬ (8295 ≤ a ∧ a ≤ 8295)) (h26 : ¬ (8296 ≤ a ∧ a ≤ 8296)) (h27 : ¬ (8297 ≤ a ∧ a ≤ 8297)) (h28 : ¬ (19968 ≤ a ∧ a ≤ 40959)) : bidi a = 13 := by
  have e43 : ¬ a = 43 := (fun e => h4 ⟨by omega, by omega⟩)
  have e45 : ¬ a = 45 := (fun e => h6 ⟨by omega, by omega⟩)
  have e44 : ¬ a = 44 := (fun e => h5 ⟨by omega, by omega⟩)
  have e58 : ¬ a = 58 := (fun e => h9 ⟨by omega, by omega⟩)
  have e8203 : ¬ a = 8203 := (fun e => h17 ⟨by omega, by omega⟩)
  have e8205 : ¬ a = 8205 := (fun e => h18 ⟨by omega, by omega⟩)
  have e173 : ¬ a = 173 := (fun e => h12 ⟨by omega, by omega⟩)
  have e9 : ¬ a = 9 := (fun e => h1 ⟨by omega, by omega⟩)
  have e32 : ¬ a = 32 := (fun e => h2 ⟨by omega, by omega⟩)
  have e8234 : ¬ a = 8234 := (fun e => h19 ⟨by omega, by omega⟩)
  have e8235 : ¬ a = 8235 := (fun e => h20 ⟨by omega, by omega⟩)
  have e8236 : ¬ a = 8236 := (fun e => h21 ⟨by omega, by omega⟩)
  have e8237 : ¬ a = 8237 := (fun e => h22 ⟨by omega, by omega⟩)
  have e8238 : ¬ a = 8238 := (fun e => h23 ⟨by omega, by omega⟩)
  have e8294 : ¬ a = 8294 := (fun e => h24 ⟨by omega, by omega⟩)
  have e8295 : ¬ a = 8295 := (fun e => h25 ⟨by omega, by omega⟩)
  have e8296 : ¬ a = 8296 := (fun e => h26 ⟨by omega, by omega⟩)
  have e8297 : ¬ a = 8297 := (fun e => h27 ⟨by omega, by omega⟩)
  have e46 : ¬ a = 46 := (fun e => h7 ⟨by omega, by omega⟩)
  have e47 : ¬ a = 47 := (fun e => h7 ⟨by omega, by omega⟩)
  have g1 : ¬ (8234 ≤ a ∧ a ≤ 8238) := by clear h1 h2 h3 h4 h5 h6 h7 h8 h9 h10 h11 h12 h13 h14 h15 h16 h17 h18 h19 h20 h21 h22 h23 h24 h25 h26 h27 h28; omega
  have g2 : ¬ (8294 ≤ a ∧ a ≤ 8297) := by clear h1 h2 h3 h4 h5 h6 h7 h8 h9 h10 h11 h12 h13 h14 h15 h16 h17 h18 h19 h20 h21 h22 h23 h24 h25 h26 h27 h28 g1; omega
  unfold bidi
  simp only [h1, h2, h3, h4, h5, h6, h7, h8, h9, h10, h11, h12, h13, h14, h15, h16, h17, h18, h19, h20, h21, h22, h23, h24, h25, h26, h27, h28, e43, e45, e44, e58, e8203, e8205, e173, e9, e32, e46, e47, g1, g2, or_self, if_false, ↓reduceIte]
theorem implBidi (a : Int) : impl_RuneBidi.f a = some (bidi a) := by
  unfold impl_RuneBidi.f impl_bidiReaches.f impl_find.f
  simp only [Option.bind_some]
  rw [if_pos ⟨by decide, by decide⟩]
  simp only [Option.bind_some, Option.some.injEq]
  apply lookR_is
  · intro x hx hh
    unfold hitR at hh
    simp only [List.mem_cons, List.not_mem_nil, or_false] at hx
    simp only [Bool.and_eq_true, decide_eq_true_eq] at hh
    obtain ⟨h1, h2⟩ := hh
    unfold bidi
    rcases hx with rfl | rfl | rfl | rfl | rfl | rfl | rfl | rfl | rfl | rfl | rfl | rfl | rfl | rfl | rfl | rfl | rfl | rfl | rfl | rfl | rfl | rfl | rfl | rfl | rfl | rfl | rfl | rfl
    all_goals
      simp only [] at h1 h2 ⊢
      simp (disch := omega) only [if_pos, if_neg]
      try omega
  · intro hn
    simp only [List.mem_cons, List.not_mem_nil, or_false, forall_eq_or_imp, forall_eq, hitR, Bool.and_eq_false_iff, decide_eq_false_iff_not, ← Classical.not_and_iff_not_or_not] at hn
    obtain ⟨h1, h2, h3, h4, h5, h6, h7, h8, h9, h10, h11, h12, h13, h14, h15, h16, h17, h18, h19, h20, h21, h22, h23, h24, h25, h26, h27, h28⟩ := hn
    exact (bidi_none h1 h2 h3 h4 h5 h6 h7 h8 h9 h10 h11 h12 h13 h14 h15 h16 h17 h18 h19 h20 h21 h22 h23 h24 h25 h26 h27 h28).symm

/-! what is drawn: a reader of bytes -/
theorem xor_i64 (a b : Nat) (ha : a < 2 ^ 40) (hb : b < 2 ^ 40) : bits .xor .i64 (a : Int) (b : Int) = ((a ^^^ b : Nat) : Int) := by
  have hp : (2 : Nat) ^ 40 ≤ 2 ^ IntKind.i64.bits := by decide
  have ha' : a % 2 ^ IntKind.i64.bits = a := Nat.mod_eq_of_lt (Nat.lt_of_lt_of_le ha hp)
  have hb' : b % 2 ^ IntKind.i64.bits = b := Nat.mod_eq_of_lt (Nat.lt_of_lt_of_le hb hp)
  simp only [bits, BitVec.ofInt_natCast, BitVec.toNat_xor, BitVec.toNat_ofNat, ha', hb']
  have h := Nat.xor_lt_two_pow ha hb
  rw [IntKind.wrap_i64]
  omega
theorem xor_pos {x y : Int} (hx : 0 ≤ x) (hx' : x < 1099511627776) (hy : 0 ≤ y) (hy' : y < 1099511627776) : 0 ≤ bits .xor .i64 x y ∧ bits .xor .i64 x y < 1099511627776 := by
  obtain ⟨a, rfl⟩ := Int.eq_ofNat_of_zero_le hx
  obtain ⟨b, rfl⟩ := Int.eq_ofNat_of_zero_le hy
  have ha : a < 2 ^ 40 := by omega
  have hb : b < 2 ^ 40 := by omega
  rw [xor_i64 a b ha hb]
  have h := Nat.xor_lt_two_pow ha hb
  omega
theorem tmod_in {x n : Int} (hx : 0 ≤ x) (hn : 0 < n) : 0 ≤ Int.tmod x n ∧ Int.tmod x n < n := by
  rw [Int.tmod_eq_emod_of_nonneg hx]
  exact ⟨Int.emod_nonneg _ (by omega), Int.emod_lt_of_pos _ hn⟩
theorem tdiv_in {x n : Int} (hx : 0 ≤ x) (hn : 0 < n) : 0 ≤ Int.tdiv x n ∧ Int.tdiv x n ≤ x := by
  rw [Int.tdiv_eq_ediv_of_nonneg hx]
  exact ⟨Int.ediv_nonneg hx (by omega), Int.ediv_le_self _ hx⟩
/-- bytes -/
def Bytes (b : List Int) : Prop := b.length ≤ 2000 ∧ ∀ x ∈ b, 0 ≤ x ∧ x ≤ 255
theorem rd_byte {b : List Int} (hb : Bytes b) {i : Int} (h : i < b.length) (h0 : 0 ≤ i) : 0 ≤ rd b i ∧ rd b i ≤ 255 := by
  unfold rd
  have hi : i.toNat < b.length := by omega
  rw [List.getD_eq_getElem?_getD, List.getElem?_eq_getElem hi]
  exact hb.2 _ (List.getElem_mem hi)
theorem pick_ok {b : List Int} (hb : Bytes b) (p n : Int) (hp : 0 ≤ p) (hp' : p ≤ 1000000) (k : Nat) (hk : 1 ≤ k) :
    ∃ v, spec_l1Rd_pick.f k b p n = some (v, p + 1) ∧ 0 ≤ v ∧ (1 ≤ n → v < n) ∧ (n < 1 → v = 0) := by
  obtain ⟨k, rfl⟩ : ∃ m, k = m + 1 := ⟨k - 1, by omega⟩
  have hl := hb.1
  have e1 : wrap64 (p + 1) = p + 1 := w64 (by omega) (by omega)
  have e2 : wrap64 (p + 1 - 1) = p := by rw [w64 (by omega) (by omega)]; omega
  unfold spec_l1Rd_pick.f
  by_cases hn : n < 1
  · rw [if_pos hn, e1]
    simp only [spec_l1Rd_pick.j0, if_true]
    exact ⟨0, rfl, by omega, by omega, fun _ => rfl⟩
  · rw [if_neg hn, e1]
    by_cases h0 : b.length = 0
    · have e0 : ((b.length : Int) == 0) = true := by simp [h0]
      simp only [spec_l1Rd_pick.j0, e0, if_true]
      exact ⟨0, rfl, by omega, by omega, fun _ => rfl⟩
    · have e0 : ((b.length : Int) == 0) = false := by simp; intro h; exact h0 (by rw [h]; rfl)
      have hlen : (0 : Int) < b.length := by omega
      simp only [spec_l1Rd_pick.j0, e0, e2, Bool.false_eq_true, if_false]
      have hn0 : ¬ n = 0 := by omega
      by_cases hlt : p < (b.length : Int)
      · rw [if_pos hlt, if_pos hp, if_neg hn0]
        obtain ⟨r0, r1⟩ := rd_byte hb hlt hp
        rw [w64 (by omega) (by omega)]
        have h := tmod_in r0 (show 0 < n by omega)
        exact ⟨_, rfl, h.1, fun _ => h.2, fun h' => absurd h' hn⟩
      · have m1 := tmod_in hp hlen
        have e7 : wrap64 (wrap64 (p * 7) + 3) = p * 7 + 3 := by rw [w64 (x := p * 7) (by omega) (by omega), w64 (by omega) (by omega)]
        have m2 := tmod_in (show 0 ≤ p * 7 + 3 by omega) hlen
        have r1 := rd_byte hb m1.2 m1.1
        have r2 := rd_byte hb m2.2 m2.1
        have d1 := tdiv_in hp hlen
        rw [if_neg hlt, if_neg (by omega), if_pos m1.1, if_pos m1.2, e7, if_pos m2.1, if_pos m2.2, if_neg hn0]
        generalize rd b (Int.tmod p (b.length : Int)) = x1 at *
        generalize rd b (Int.tmod (p * 7 + 3) (b.length : Int)) = x2 at *
        generalize Int.tdiv p (b.length : Int) = x3 at *
        have eX : wrap64 (wrap64 (wrap64 (wrap64 (wrap64 x1 * 131) + wrap64 (wrap64 x2 * 1117)) + wrap64 (p * 29)) + wrap64 (wrap64 x3 * 53)) = x1 * 131 + x2 * 1117 + p * 29 + x3 * 53 := by
          rw [w64 (x := x1) (by omega) (by omega), w64 (x := x2) (by omega) (by omega), w64 (x := x3) (by omega) (by omega), w64 (x := x1 * 131) (by omega) (by omega), w64 (x := x2 * 1117) (by omega) (by omega), w64 (x := p * 29) (by omega) (by omega), w64 (x := x3 * 53) (by omega) (by omega), w64 (x := x1 * 131 + x2 * 1117) (by omega) (by omega), w64 (x := x1 * 131 + x2 * 1117 + p * 29) (by omega) (by omega), w64 (by omega) (by omega)]
        rw [eX]
        have hX0 : 0 ≤ x1 * 131 + x2 * 1117 + p * 29 + x3 * 53 := by omega
        have hX1 : x1 * 131 + x2 * 1117 + p * 29 + x3 * 53 < 1000000000 := by omega
        generalize x1 * 131 + x2 * 1117 + p * 29 + x3 * 53 = X at *
        have d2 := tdiv_in hX0 (show (0 : Int) < 64 by omega)
        rw [w64 (x := Int.tdiv X 64) (by omega) (by omega)]
        have hx := xor_pos hX0 (by omega) d2.1 (by omega)
        have h := tmod_in hx.1 (show 0 < n by omega)
        exact ⟨_, rfl, h.1, fun _ => h.2, fun h' => absurd h' hn⟩
theorem open_ok {l : List Int} (h : ∀ x ∈ l, (Lit.int .u8 x).wf = true) : ∃ b, spec_l1Open.f l = some (b, 0) ∧ Bytes b := by
  unfold spec_l1Open.f
  by_cases h1 : (l.length : Int) > 2000
  · rw [if_pos h1, if_pos (by omega)]
    exact ⟨_, rfl, by rw [List.length_take]; omega, fun x hx => in_u8 (h x (List.mem_of_mem_take hx))⟩
  · rw [if_neg h1]
    exact ⟨_, rfl, by omega, fun x hx => in_u8 (h x hx)⟩

theorem one_ok {b : List Int} (hb : Bytes b) (p : Int) (hp : 0 ≤ p) (hp' : p ≤ 1000000) (l : List Int) (hl : 1 ≤ l.length) (k : Nat) (hk : 1 ≤ k) :
    ∃ v, spec_l1Rd_one.f k b p l = some (v, p + 1) ∧ v ∈ l := by
  obtain ⟨v, e, h0, h1, _⟩ := pick_ok hb p (l.length : Int) hp hp' k hk
  unfold spec_l1Rd_one.f
  rw [e]
  simp only [Option.bind_some]
  have h2 := h1 (by omega)
  rw [if_pos h0, if_pos h2]
  refine ⟨_, rfl, ?_⟩
  unfold rd
  have hi : v.toNat < l.length := by omega
  rw [List.getD_eq_getElem?_getD, List.getElem?_eq_getElem hi]
  exact List.getElem_mem hi
/-- a number that is drawn as a letter -/
def LRange (v : Int) : Prop := 0 ≤ v ∧ v ≤ 1114111
theorem rune_ok {b : List Int} (hb : Bytes b) (p : Int) (hp : 0 ≤ p) (hp' : p ≤ 900000) (k : Nat) (hk : 10 ≤ k) :
    ∃ v q, spec_l13Rune.f k b p = some (v, q) ∧ p ≤ q ∧ q ≤ p + 2 ∧ LRange v := by
  obtain ⟨k, rfl⟩ : ∃ m, k = m + 10 := ⟨k - 10, by omega⟩
  obtain ⟨v, e, h0, h1, _⟩ := pick_ok hb p 16 hp (by omega) (k + 10) (by omega)
  have h2 := h1 (by omega)
  unfold spec_l13Rune.f
  rw [e]
  have one : ∀ (l : List Int) (j : Nat), 1 ≤ l.length → 1 ≤ j → (∀ x ∈ l, LRange x) → ∃ u q, ((spec_l1Rd_one.f j b (p + 1) l).bind fun bt => some (bt.1, bt.2)) = some (u, q) ∧ p ≤ q ∧ q ≤ p + 2 ∧ LRange u := by
    intro l j h3 h4 h5
    obtain ⟨u, e1, h6⟩ := one_ok hb (p + 1) (by omega) (by omega) l h3 j h4
    exact ⟨u, p + 1 + 1, by rw [e1]; rfl, by omega, by omega, h5 u h6⟩
  simp only [Option.bind_some]
  have hv : v = 0 ∨ v = 1 ∨ v = 2 ∨ v = 3 ∨ v = 4 ∨ v = 5 ∨ v = 6 ∨ v = 7 ∨ v = 8 ∨ v = 9 ∨ v = 10 ∨ v = 11 ∨ v = 12 ∨ v = 13 ∨ v = 14 ∨ v = 15 := by omega
  rcases hv with rfl | rfl | rfl | rfl | rfl | rfl | rfl | rfl | rfl | rfl | rfl | rfl | rfl | rfl | rfl | rfl
  all_goals simp only [spec_l13Rune.j0, spec_l13Rune.j1, spec_l13Rune.j2, Int.reduceEq, Int.reduceBEq, if_true, if_false, ↓reduceIte, Bool.false_eq_true, beq_self_eq_true]
  all_goals first
    | exact ⟨32, p + 1, rfl, by omega, by omega, by unfold LRange; omega⟩
    | exact one _ _ (by simp) (by omega) (by simp [LRange])

theorem drawMirror {l : List Int} (h : ∀ x ∈ l, (Lit.int .u8 x).wf = true) (k : Nat) (hk : 10 ≤ k) : ∃ r, spec_DrawRuneMirror.f k l = some r ∧ LRange r := by
  obtain ⟨b, e, hb⟩ := open_ok h
  unfold spec_DrawRuneMirror.f
  rw [e]
  simp only [Option.bind_some]
  obtain ⟨v, q, e1, h1, h2, hv⟩ := rune_ok hb 0 (by omega) (by omega) k hk
  rw [e1]
  simp only [Option.bind_some]
  obtain ⟨u, e2, hu⟩ := one_ok hb q (by omega) (by omega) [40, 41, 91, 93, 123, 125, 60, 62, 124] (by simp) k (by omega)
  rw [e2]
  simp only [Option.bind_some]
  obtain ⟨c, e3, h3, h4, _⟩ := pick_ok hb (q + 1) 2 (by omega) (by omega) k (by omega)
  rw [e3]
  simp only [Option.bind_some]
  have h5 := h4 (by omega)
  rw [if_pos h3, if_pos (by simpa using h5)]
  refine ⟨_, rfl, ?_⟩
  have hu' : LRange u := by
    simp only [List.mem_cons, List.not_mem_nil, or_false] at hu
    unfold LRange
    omega
  have : c = 0 ∨ c = 1 := by omega
  rcases this with rfl | rfl
  · simpa [rd] using hv
  · simpa [rd] using hu'
theorem mir_range {r : Int} (h : LRange r) : LRange (mir r) ∧ LRange (mate r) := by
  unfold LRange at *
  unfold mir mate
  constructor <;> (repeat' split) <;> omega
theorem mate_mate (r : Int) (h : mate r ≠ 0) : mate (mate r) = r := by
  unfold mate at h ⊢
  repeat' split at h
  all_goals first | omega | simp_all
theorem mir_mir (r : Int) : mir (mir r) = r := by
  by_cases h1 : r = 40
  · subst h1; decide
  by_cases h2 : r = 41
  · subst h2; decide
  by_cases h3 : r = 91
  · subst h3; decide
  by_cases h4 : r = 93
  · subst h4; decide
  by_cases h5 : r = 123
  · subst h5; decide
  by_cases h6 : r = 125
  · subst h6; decide
  by_cases h7 : r = 60
  · subst h7; decide
  by_cases h8 : r = 62
  · subst h8; decide
  have e : mir r = r := by simp [mir, mate, h1, h2, h3, h4, h5, h6, h7, h8]
  rw [e, e]
theorem bidi_mir (r : Int) : bidi (mir r) = bidi r := by
  by_cases h1 : r = 40
  · subst h1; decide
  by_cases h2 : r = 41
  · subst h2; decide
  by_cases h3 : r = 91
  · subst h3; decide
  by_cases h4 : r = 93
  · subst h4; decide
  by_cases h5 : r = 123
  · subst h5; decide
  by_cases h6 : r = 125
  · subst h6; decide
  by_cases h7 : r = 60
  · subst h7; decide
  by_cases h8 : r = 62
  · subst h8; decide
  have e : mir r = r := by simp [mir, mate, h1, h2, h3, h4, h5, h6, h7, h8]
  rw [e]
theorem FnRuneMirror : laws_FnRuneMirror.Pure := by
  intro l _ _ hl
  refine ⟨20, ?_⟩
  unfold laws_FnRuneMirror.f
  by_cases h0 : (l.length : Int) > 1048576
  · rw [if_pos h0]
  rw [if_neg h0]
  obtain ⟨r, e, hr⟩ := drawMirror hl 20 (by omega)
  rw [e]
  obtain ⟨hm, hk⟩ := mir_range hr
  unfold LRange at hr hm hk
  have m8 : ∀ a, spec_RuneMate.f 20 a = some (mate a) := fun a => at_rounds (fun k => spec_RuneMate.mono a k) (by omega) (specMate a)
  have r8 : ∀ a, spec_RuneMirror.f 20 a = some (mir a) := fun a => at_rounds (fun k => spec_RuneMirror.mono a k) (by omega) (specMirror a)
  simp only [Option.bind_some, implMirror (a := r) (by omega) (by omega), implMate (a := r) (by omega) (by omega), r8, m8, ↓reduceIte, laws_FnRuneMirror.j0, bne_self_eq_false, Bool.false_eq_true, if_false, implMirror (a := mir r) (by omega) (by omega), mir_mir, implBidi, bidi_mir, implMate (a := mate r) (by omega) (by omega)]
  by_cases hz : mate r = 0
  · simp [hz]
  · have hmm : mate r = mir r := by unfold mir; rw [if_neg hz]
    rw [if_neg hz, if_pos (mate_mate r hz), if_pos hmm]
    simp

end Go.Proofs.Ytjnmpamnlfabbaa.Pure
