/- Of every drawn list of letters: LevelBase is the reference's, 0 with a letter from the left ahead, 1 with one from the right, and what is read by itself ahead does not matter: the law FnLevelBase answers true; no condition. -/
import Derived.Test.YtkapjhlcmicpnaaPFnLevelBasex7
namespace Go.Proofs.Ytkapjhlcmicpnaa.Pure
open Go.RowKit Go.Proofs.Ytkapjhlcmicpnaa.PFnLevelBase Go.Proofs.YtkapjhlcmicpnaaW.PrintWords Go.Proofs.YtkapjhlcmicpnaaW.PrintLast Go.Proofs.YtkapjhlcmicpnaaW.PrintMore
set_option linter.unusedVariables false
set_option linter.unusedSimpArgs false

/-! small lemmas on whole numbers, lists and rounds -/
theorem w64 {x : Int} (h : -9223372036854775808 ≤ x) (h' : x ≤ 9223372036854775807) : wrap64 x = x := by
  unfold wrap64
  omega
theorem in_i64 {x : Int} (h : (Lit.int .i64 x).wf = true) : -9223372036854775808 ≤ x ∧ x ≤ 9223372036854775807 := by
  simpa [Lit.wf, IntKind.min, IntKind.max, IntKind.bits, IntKind.signed] using h
theorem in_u8 {x : Int} (h : (Lit.int .u8 x).wf = true) : 0 ≤ x ∧ x ≤ 255 := by
  simpa [Lit.wf, IntKind.min, IntKind.max, IntKind.bits, IntKind.signed] using h
theorem rd_nat (l : List Int) (i : Nat) : rd l (i : Int) = l.getD i 0 := by
  unfold rd
  rw [Int.toNat_natCast]

/-- the class of a letter for its side -/
def bidi (a : Int) : Int :=
  if (97 ≤ a ∧ a ≤ 122) ∨ (65 ≤ a ∧ a ≤ 90) ∨ (19968 ≤ a ∧ a ≤ 40959) then 1 else if 1488 ≤ a ∧ a ≤ 1514 then 2 else if 1569 ≤ a ∧ a ≤ 1610 then 3
  else if 48 ≤ a ∧ a ≤ 57 then 4 else if 1632 ≤ a ∧ a ≤ 1641 then 7 else if a = 43 ∨ a = 45 then 5 else if 35 ≤ a ∧ a ≤ 37 then 6
  else if a = 44 ∨ a = 46 ∨ a = 47 ∨ a = 58 then 8 else if 768 ≤ a ∧ a ≤ 879 then 9 else if a = 8203 ∨ a = 8205 ∨ a = 173 then 10
  else if a = 9 then 11 else if a = 32 then 12 else if 8234 ≤ a ∧ a ≤ 8238 then a - 8220 else if 8294 ≤ a ∧ a ≤ 8297 then a - 8275 else 13
theorem or_ite {α : Type} {p q : Prop} [Decidable p] [Decidable q] (x y : α) : (if p ∨ q then x else y) = if p then x else if q then x else y := by
  by_cases h1 : p <;> by_cases h2 : q <;> simp [h1, h2]

theorem specIn (a b c : Int) : spec_l1In.f a b c = some (decide (b ≤ a ∧ a ≤ c)) := by
  unfold spec_l1In.f
  by_cases h1 : b ≤ a <;> by_cases h2 : a ≤ c <;> simp [h1, h2]

theorem specMoves (a : Int) (k : Nat) (hk : 12 ≤ k) : spec_l1Moves.f k a = some (if 8234 ≤ a ∧ a ≤ 8238 then a - 8220 else if 8294 ≤ a ∧ a ≤ 8297 then a - 8275 else 13) := by
  obtain ⟨k, rfl⟩ : ∃ m, k = m + 12 := ⟨k - 12, by omega⟩
  unfold spec_l1Moves.f
  by_cases h1 : a = 8234
  · subst h1; simp [spec_l1Moves.l0, rd, wrap64]
  by_cases h2 : a = 8235
  · subst h2; simp [spec_l1Moves.l0, rd, wrap64]
  by_cases h3 : a = 8236
  · subst h3; simp [spec_l1Moves.l0, rd, wrap64]
  by_cases h4 : a = 8237
  · subst h4; simp [spec_l1Moves.l0, rd, wrap64]
  by_cases h5 : a = 8238
  · subst h5; simp [spec_l1Moves.l0, rd, wrap64]
  by_cases h6 : a = 8294
  · subst h6; simp [spec_l1Moves.l0, rd, wrap64]
  by_cases h7 : a = 8295
  · subst h7; simp [spec_l1Moves.l0, rd, wrap64]
  by_cases h8 : a = 8296
  · subst h8; simp [spec_l1Moves.l0, rd, wrap64]
  by_cases h9 : a = 8297
  · subst h9; simp [spec_l1Moves.l0, rd, wrap64]
  rw [if_neg (by omega), if_neg (by omega)]
  simp [spec_l1Moves.l0, rd, wrap64, Ne.symm h1, Ne.symm h2, Ne.symm h3, Ne.symm h4, Ne.symm h5, Ne.symm h6, Ne.symm h7, Ne.symm h8, Ne.symm h9, eq_comm, h1, h2, h3, h4, h5, h6, h7, h8, h9]
/-- the class of a sign -/
def bsign (a : Int) : Int :=
  if a = 43 ∨ a = 45 then 5 else if 35 ≤ a ∧ a ≤ 37 then 6
  else if a = 44 ∨ a = 46 ∨ a = 47 ∨ a = 58 then 8 else if 768 ≤ a ∧ a ≤ 879 then 9 else if a = 8203 ∨ a = 8205 ∨ a = 173 then 10
  else if a = 9 then 11 else if a = 32 then 12 else if 8234 ≤ a ∧ a ≤ 8238 then a - 8220 else if 8294 ≤ a ∧ a ≤ 8297 then a - 8275 else 13
theorem specSigns (a : Int) (k : Nat) (hk : 20 ≤ k) : spec_l1Signs.f k a = some (bsign a) := by
  obtain ⟨k, rfl⟩ : ∃ m, k = m + 20 := ⟨k - 20, by omega⟩
  unfold spec_l1Signs.f bsign
  simp only [spec_l1Signs.j0, spec_l1Signs.j1, spec_l1Signs.j2, specIn, specMoves a _ (show 12 ≤ k + 17 by omega), Option.bind_some, decide_eq_true_eq, beq_iff_eq, if_true, ↓reduceIte]
  simp only [or_ite, apply_ite some]
theorem specBidi (a : Int) (k : Nat) (hk : 30 ≤ k) : spec_RuneBidi.f k a = some (bidi a) := by
  obtain ⟨k, rfl⟩ : ∃ m, k = m + 30 := ⟨k - 30, by omega⟩
  unfold spec_RuneBidi.f bidi
  simp only [spec_RuneBidi.j0, specIn, specSigns a _ (show 20 ≤ k + 29 by omega), Option.bind_some, decide_eq_true_eq, if_true, ↓reduceIte, bsign]
  simp only [or_ite, apply_ite some]

theorem lookR_is {l : List _} {a o b : Int} (h1 : ∀ x ∈ l, hitR x a = true → x.f2 = b) (h2 : (∀ x ∈ l, hitR x a = false) → o = b) : lookR l a o = b := by
  induction l with
  | nil => exact h2 (fun x hx => by cases hx)
  | cons x xs ih =>
    cases hh : hitR x a with
    | true =>
      have : lookR (x :: xs) a o = x.f2 := by simp [lookR, List.find?_cons, hh]
      rw [this]
      exact h1 x List.mem_cons_self hh
    | false =>
      have : lookR (x :: xs) a o = lookR xs a o := by simp [lookR, List.find?_cons, hh]
      rw [this]
      exact ih (fun y hy => h1 y (List.mem_cons_of_mem _ hy)) (fun hn => h2 (fun y hy => by
        rcases List.mem_cons.1 hy with rfl | hy
        · exact hh
        · exact hn y hy))
theorem bidi_none {a : Int} (h1 : ¬ (9 ≤ a ∧ a ≤ 9)) (h2 : ¬ (32 ≤ a ∧ a ≤ 32)) (h3 : ¬ (35 ≤ a ∧ a ≤ 37)) (h4 : ¬ (43 ≤ a ∧ a ≤ 43)) (h5 : ¬ (44 ≤ a ∧ a ≤ 44)) (h6 : ¬ (45 ≤ a ∧ a ≤ 45)) (h7 : ¬ (46 ≤ a ∧ a ≤ 47)) (h8 : ¬ (48 ≤ a ∧ a ≤ 57)) (h9 : ¬ (58 ≤ a ∧ a ≤ 58)) (h10 : ¬ (65 ≤ a ∧ a ≤ 90)) (h11 : ¬ (97 ≤ a ∧ a ≤ 122)) (h12 : ¬ (173 ≤ a ∧ a ≤ 173)) (h13 : ¬ (768 ≤ a ∧ a ≤ 879)) (h14 : ¬ (1488 ≤ a ∧ a ≤ 1514)) (h15 : ¬ (1569 ≤ a ∧ a ≤ 1610)) (h16 : ¬ (1632 ≤ a ∧ a ≤ 1641)) (h17 : ¬ (8203 ≤ a ∧ a ≤ 8203)) (h18 : ¬ (8205 ≤ a ∧ a ≤ 8205)) (h19 : ¬ (8234 ≤ a ∧ a ≤ 8234)) (h20 : ¬ (8235 ≤ a ∧ a ≤ 8235)) (h21 : ¬ (8236 ≤ a ∧ a ≤ 8236)) (h22 : ¬ (8237 ≤ a ∧ a ≤ 8237)) (h23 : ¬ (8238 ≤ a ∧ a ≤ 8238)) (h24 : ¬ (8294 ≤ a ∧ a ≤ 8294)) (h25 : ¬ (8295 ≤ a ∧ a ≤ 8295)) (h26 : ¬ (8296 ≤ a ∧ a ≤ 8296)) (h27 : ¬ (8297 ≤ a ∧ a ≤ 8297)) (h28 : ¬ (19968 ≤ a ∧ a ≤ 40959)) : bidi a = 13 := by
  have e43 : ¬ a = 43 := (fun e => h4 ⟨by omega, by omega⟩)
  have e45 : ¬ a = 45 := (fun e => h6 ⟨by omega, by omega⟩)
  have e44 : ¬ a = 44 := (fun e => h5 ⟨by omega, by omega⟩)
  have e58 : ¬ a = 58 := (fun e => h9 ⟨by omega, by omega⟩)
  have e8203 : ¬ a = 8203 := (fun e => h17 ⟨by omega, by omega⟩)
  have e8205 : ¬ a = 8205 := (fun e => h18 ⟨by omega, by omega⟩)
  have e173 : ¬ a = 173 := (fun e => h12 ⟨by omega, by omega⟩)
  have e9 : ¬ a = 9 := (fun e => h1 ⟨by omega, by omega⟩)
  have e32 : ¬ a = 32 := (fun e => h2 ⟨by omega, by omega⟩)
  have e8234 : ¬ a = 8234 := (fun e => h19 ⟨by omega, by omega⟩)
  have e8235 : ¬ a = 8235 := (fun e => h20 ⟨by omega, by omega⟩)
  have e8236 : ¬ a = 8236 := (fun e => h21 ⟨by omega, by omega⟩)
  have e8237 : ¬ a = 8237 := (fun e => h22 ⟨by omega, by omega⟩)
  have e8238 : ¬ a = 8238 := (fun e => h23 ⟨by omega, by omega⟩)
  have e8294 : ¬ a = 8294 := (fun e => h24 ⟨by omega, by omega⟩)
  have e8295 : ¬ a = 8295 := (fun e => h25 ⟨by omega, by omega⟩)
  have e8296 : ¬ a = 8296 := (fun e => h26 ⟨by omega, by omega⟩)
  have e8297 : ¬ a = 8297 := (fun e => h27 ⟨by omega, by omega⟩)
  have e46 : ¬ a = 46 := (fun e => h7 ⟨by omega, by omega⟩)
  have e47 : ¬ a = 47 := (fun e => h7 ⟨by omega, by omega⟩)
  have g1 : ¬ (8234 ≤ a ∧ a ≤ 8238) := by clear h1 h2 h3 h4 h5 h6 h7 h8 h9 h10 h11 h12 h13 h14 h15 h16 h17 h18 h19 h20 h21 h22 h23 h24 h25 h26 h27 h28; omega
  have g2 : ¬ (8294 ≤ a ∧ a ≤ 8297) := by clear h1 h2 h3 h4 h5 h6 h7 h8 h9 h10 h11 h12 h13 h14 h15 h16 h17 h18 h19 h20 h21 h22 h23 h24 h25 h26 h27 h28 g1; omega
  unfold bidi
  simp only [h1, h2, h3, h4, h5, h6, h7, h8, h9, h10, h11, h12, h13, h14, h15, h16, h17, h18, h19, h20, h21, h22, h23, h24, h25, h26, h27, h28, e43, e45, e44, e58, e8203, e8205, e173, e9, e32, e46, e47, g1, g2, or_self, if_false, ↓reduceIte]
theorem implBidi (a : Int) : impl_RuneBidi.f a = some (bidi a) := by
  unfold impl_RuneBidi.f impl_bidiReaches.f impl_find.f
  simp only [Option.bind_some]
  rw [if_pos ⟨by decide, by decide⟩]
  simp only [Option.bind_some, Option.some.injEq]
  apply lookR_is
  · intro x hx hh
    unfold hitR at hh
    simp only [List.mem_cons, List.not_mem_nil, or_false] at hx
    simp only [Bool.and_eq_true, decide_eq_true_eq] at hh
    obtain ⟨h1, h2⟩ := hh
    unfold bidi
    rcases hx with rfl | rfl | rfl | rfl | rfl | rfl | rfl | rfl | rfl | rfl | rfl | rfl | rfl | rfl | rfl | rfl | rfl | rfl | rfl | rfl | rfl | rfl | rfl | rfl | rfl | rfl | rfl | rfl
    all_goals
      simp only [] at h1 h2 ⊢
      simp (disch := omega) only [if_pos, if_neg]
      try omega
  · intro hn
    simp only [List.mem_cons, List.not_mem_nil, or_false, forall_eq_or_imp, forall_eq, hitR, Bool.and_eq_false_iff, decide_eq_false_iff_not, ← Classical.not_and_iff_not_or_not] at hn
    obtain ⟨h1, h2, h3, h4, h5, h6, h7, h8, h9, h10, h11, h12, h13, h14, h15, h16, h17, h18, h19, h20, h21, h22, h23, h24, h25, h26, h27, h28⟩ := hn
    exact (bidi_none h1 h2 h3 h4 h5 h6 h7 h8 h9 h10 h11 h12 h13 h14 h15 h16 h17 h18 h19 h20 h21 h22 h23 h24 h25 h26 h27 h28).symm

/-! the class of a letter -/

/-! what opens and what ends it -/
/-- the place of what ends that which is d deep -/
def mt : List Int → Nat → Nat → Option Nat
  | [], _, _ => none
  | c :: r, p, d => if opn c then mt r (p + 1) (d + 1) else if c = 22 then (if d ≤ 1 then some p else mt r (p + 1) (d - 1)) else mt r (p + 1) d
theorem mtRun_out : ∀ (r : List Int) (p : Nat) (st : List Nat) (M : Nat → Option Nat) (k : Nat), k < p → (∀ a ∈ st, a < p) → k ∉ st → mtRun r p st M k = M k
  | [], p, st, M, k, _, _, _ => rfl
  | c :: r, p, st, M, k, h1, h2, h3 => by
    unfold mtRun
    split
    · refine mtRun_out r (p + 1) (p :: st) M k (by omega) ?_ ?_
      · intro a ha
        rcases List.mem_cons.1 ha with rfl | ha
        · omega
        · have := h2 a ha; omega
      · intro hk
        rcases List.mem_cons.1 hk with rfl | hk
        · omega
        · exact h3 hk
    · split
      · cases st with
        | nil => exact mtRun_out r (p + 1) [] M k (by omega) (by simp) (by simp)
        | cons a st =>
          simp only
          rw [mtRun_out r (p + 1) st _ k (by omega) (fun b hb => by have := h2 b (List.mem_cons_of_mem _ hb); omega) (fun hk => h3 (List.mem_cons_of_mem _ hk))]
          rw [if_neg (fun e => h3 (by rw [e]; exact List.mem_cons_self))]
      · exact mtRun_out r (p + 1) st M k (by omega) (fun a ha => by have := h2 a ha; omega) h3
theorem mtRun_st : ∀ (r : List Int) (p : Nat) (pre : List Nat) (k : Nat) (suf : List Nat) (M : Nat → Option Nat), (∀ a ∈ pre ++ k :: suf, a < p) → (pre ++ k :: suf).Nodup → M k = none → mtRun r p (pre ++ k :: suf) M k = mt r p (pre.length + 1)
  | [], p, pre, k, suf, M, _, _, h => h
  | c :: r, p, pre, k, suf, M, h1, h2, h3 => by
    unfold mtRun mt
    have h1' : ∀ a ∈ pre ++ k :: suf, a < p + 1 := fun a ha => by have := h1 a ha; omega
    by_cases ho : opn c = true
    · rw [if_pos ho, if_pos ho]
      have := mtRun_st r (p + 1) (p :: pre) k suf M (by
        intro a ha
        rcases List.mem_cons.1 ha with rfl | ha
        · omega
        · exact h1' a ha) (List.nodup_cons.2 ⟨fun hp => by have := h1 p hp; omega, h2⟩) h3
      exact this
    · rw [if_neg ho, if_neg ho]
      by_cases hc : c = 22
      · rw [if_pos hc, if_pos hc]
        cases pre with
        | nil =>
          simp only [List.nil_append, List.length_nil, Nat.zero_add]
          rw [if_pos (Nat.le_refl _)]
          have hk := h1 k (by simp)
          have hn : k ∉ suf := (List.nodup_cons.1 h2).1
          rw [mtRun_out r (p + 1) suf _ k (by omega) (fun a ha => h1' a (by simp [ha])) hn]
          simp
        | cons b pre =>
          simp only [List.cons_append, List.length_cons]
          rw [if_neg (by omega)]
          have hb : k ≠ b := by
            intro e
            subst e
            exact (List.nodup_cons.1 h2).1 (by simp)
          have := mtRun_st r (p + 1) pre k suf (fun x => if x = b then some p else M x) (fun a ha => h1' a (List.mem_cons_of_mem _ ha)) (List.nodup_cons.1 h2).2 (by simp [hb, h3])
          rw [this]
          congr 1
      · rw [if_neg hc, if_neg hc]
        exact mtRun_st r (p + 1) pre k suf M h1' h2 h3
/-- what opens at a place or behind it -/
theorem mtRun_new : ∀ (r : List Int) (p : Nat) (st : List Nat) (M : Nat → Option Nat) (j : Nat), (∀ a ∈ st, a < p) → st.Nodup → (∀ k, p ≤ k → M k = none) →
    mtRun r p st M (p + j) = if opn (r.getD j 0) then mt (r.drop (j + 1)) (p + j + 1) 1 else none
  | [], p, st, M, j, h1, h2, h3 => by
    unfold mtRun
    rw [h3 _ (by omega)]
    simp [opn]
  | c :: r, p, st, M, 0, h1, h2, h3 => by
    show mtRun (c :: r) p st M p = if opn c then mt r (p + 1) 1 else none
    unfold mtRun
    have hp : p ∉ st := fun h => by have := h1 p h; omega
    have h1' : ∀ a ∈ st, a < p + 1 := fun a ha => by have := h1 a ha; omega
    by_cases ho : opn c = true
    · rw [if_pos ho, if_pos ho]
      exact mtRun_st r (p + 1) [] p st M (by
        intro a ha
        rcases List.mem_cons.1 ha with rfl | ha
        · omega
        · exact h1' a ha) (List.nodup_cons.2 ⟨hp, h2⟩) (h3 p (Nat.le_refl _))
    · rw [if_neg ho, if_neg ho]
      by_cases hc : c = 22
      · rw [if_pos hc]
        cases st with
        | nil =>
          simp only
          rw [mtRun_out r (p + 1) [] M p (by omega) (by simp) (by simp)]
          exact h3 p (Nat.le_refl _)
        | cons a st =>
          simp only
          rw [mtRun_out r (p + 1) st _ p (by omega) (fun b hb => h1' b (List.mem_cons_of_mem _ hb)) (fun h => hp (List.mem_cons_of_mem _ h))]
          rw [if_neg (fun e => hp (by rw [e]; exact List.mem_cons_self))]
          exact h3 p (Nat.le_refl _)
      · rw [if_neg hc, mtRun_out r (p + 1) st M p (by omega) h1' hp]
        exact h3 p (Nat.le_refl _)
  | c :: r, p, st, M, j + 1, h1, h2, h3 => by
    unfold mtRun
    have h1' : ∀ a ∈ st, a < p + 1 := fun a ha => by have := h1 a ha; omega
    have hp : p ∉ st := fun h => by have := h1 p h; omega
    have h3' : ∀ k, p + 1 ≤ k → M k = none := fun k hk => h3 k (by omega)
    have e : p + (j + 1) = p + 1 + j := by omega
    rw [e]
    simp only [List.getD_cons_succ, List.drop_succ_cons]
    by_cases ho : opn c = true
    · rw [if_pos ho]
      exact mtRun_new r (p + 1) (p :: st) M j (by
        intro a ha
        rcases List.mem_cons.1 ha with rfl | ha
        · omega
        · exact h1' a ha) (List.nodup_cons.2 ⟨hp, h2⟩) h3'
    · rw [if_neg ho]
      by_cases hc : c = 22
      · rw [if_pos hc]
        cases st with
        | nil => exact mtRun_new r (p + 1) [] M j (by simp) (by simp) h3'
        | cons a st =>
          refine mtRun_new r (p + 1) st _ j (fun b hb => h1' b (List.mem_cons_of_mem _ hb)) (List.nodup_cons.1 h2).2 ?_
          intro k hk
          have := h1 a List.mem_cons_self
          rw [if_neg (by omega)]
          exact h3' k hk
      · rw [if_neg hc]
        exact mtRun_new r (p + 1) st M j h1' h2 h3'

/-! lists, place by place: what lies ahead of a place, the place, what lies behind -/
theorem getD_mid {α : Type} (pre : List α) (x : α) (suf : List α) (d : α) : (pre ++ x :: suf).getD ((pre.length : Int)).toNat d = x := by
  rw [Int.toNat_natCast, List.getD_eq_getElem?_getD]
  simp
theorem set_mid {α : Type} (pre : List α) (x y : α) (suf : List α) : (pre ++ x :: suf).set ((pre.length : Int)).toNat y = pre ++ y :: suf := by
  rw [Int.toNat_natCast]
  simp
theorem rd_mid (pre : List Int) (x : Int) (suf : List Int) : rd (pre ++ x :: suf) (pre.length : Int) = x := getD_mid pre x suf 0
theorem len_mid {α : Type} (pre : List α) (x : α) (suf : List α) : (pre.length : Int) < ((pre ++ x :: suf).length : Int) := by
  simp only [List.length_append, List.length_cons]
  omega
theorem len_end {α : Type} (pre : List α) : ¬ (pre.length : Int) < ((pre ++ []).length : Int) := by simp
theorem len_snoc {α : Type} (pre : List α) (x : α) : ((pre ++ [x]).length : Int) = (pre.length : Int) + 1 := by simp
theorem app_cons {α : Type} (pre : List α) (x : α) (suf : List α) : pre ++ x :: suf = (pre ++ [x]) ++ suf := by simp
theorem w64_len {n : Int} (h0 : 0 ≤ n) (h : n ≤ 9000000000000000000) : wrap64 (n + 1) = n + 1 := w64 (by omega) (by omega)

/-- letters that may be clustered -/
def okT (l : List Int) : Bool := decide ((l.length : Int) ≤ 80) && l.all isL
theorem implLettersOk (l : List Int) : impl_lettersOk.f l = some (okT l) := by
  unfold impl_lettersOk.f okT
  congr 2
  induction l with
  | nil => rfl
  | cons x r ih => simp only [List.any_cons, List.all_cons, Bool.not_or, Bool.not_not, ih]
theorem specSize (x : Int) : ∃ n, spec_l1Size.f x = some n ∧ (n = 0 ↔ isL x = false) := by
  unfold spec_l1Size.f isL
  simp only [specIn, Option.bind_some, decide_eq_true_eq]
  by_cases h1 : 0 ≤ x ∧ x ≤ 127
  · exact ⟨1, by rw [if_pos h1], by simp; omega⟩
  by_cases h2 : 128 ≤ x ∧ x ≤ 2047
  · exact ⟨2, by rw [if_neg h1, if_pos h2], by simp; omega⟩
  by_cases h3 : 55296 ≤ x ∧ x ≤ 57343
  · exact ⟨0, by rw [if_neg h1, if_neg h2, if_pos h3], by simp; omega⟩
  by_cases h4 : 2048 ≤ x ∧ x ≤ 65535
  · exact ⟨3, by rw [if_neg h1, if_neg h2, if_neg h3, if_pos h4], by simp; omega⟩
  by_cases h5 : 65536 ≤ x ∧ x ≤ 1114111
  · exact ⟨4, by rw [if_neg h1, if_neg h2, if_neg h3, if_neg h4, if_pos h5], by simp; omega⟩
  · exact ⟨0, by rw [if_neg h1, if_neg h2, if_neg h3, if_neg h4, if_neg h5], by simp; omega⟩
theorem okT_len {l : List Int} (h : okT l = true) : l.length ≤ 80 := by
  unfold okT at h
  simp only [Bool.and_eq_true, decide_eq_true_eq] at h
  omega

theorem specL1Ok_l0 : ∀ (suf pre : List Int) (k : Nat), (pre ++ suf).length ≤ 1048576 → suf.length + 1 ≤ k →
    spec_l1Ok.l0 k (pre ++ suf) (pre.length : Int) = some (decide (((pre ++ suf).length : Int) ≤ 80) && suf.all isL)
  | [], pre, k, hl, hk => by
    obtain ⟨k, rfl⟩ : ∃ m, k = m + 1 := ⟨k - 1, by simp at hk; omega⟩
    simp only [spec_l1Ok.l0]
    rw [if_neg (len_end pre)]
    simp
  | x :: suf, pre, k, hl, hk => by
    obtain ⟨k, rfl⟩ : ∃ m, k = m + 1 := ⟨k - 1, by simp at hk; omega⟩
    have hp : (pre.length : Int) ≤ 1048576 := by simp at hl; omega
    have ih := specL1Ok_l0 suf (pre ++ [x]) k (by simpa using hl) (by simp at hk; omega)
    rw [len_snoc, ← app_cons] at ih
    obtain ⟨n, e, hn⟩ := specSize x
    simp only [spec_l1Ok.l0]
    rw [if_pos (len_mid pre x suf), if_pos (by omega), rd_mid, e, w64_len (by omega) (by omega), ih]
    simp only [Option.bind_some, List.all_cons]
    cases h : isL x with
    | false => rw [if_pos (hn.2 h)]; simp
    | true => rw [if_neg (fun g => by rw [hn.1 g] at h; cases h)]; simp
theorem specL1Ok (l : List Int) (hl : l.length ≤ 1048576) (k : Nat) (hk : l.length + 1 ≤ k) : spec_l1Ok.f k l = some (okT l) := specL1Ok_l0 l [] k (by simpa using hl) hk

/-! the side of letters -/
def cls (l : List Int) : List Int := l.map bidi
theorem bdF_bidi (x : Int) : bdF x = bidi x := by
  unfold bdF
  rw [implBidi]
  rfl
theorem map_bdF (l : List Int) : l.map bdF = cls l := List.map_congr_left fun x _ => bdF_bidi x
theorem cls_len (l : List Int) : (cls l).length = l.length := by simp [cls]
/-- the mates that there are -/
def mateM (c : List Int) (i : Nat) : Option Nat := if opn (c.getD i 0) then mt (c.drop (i + 1)) (i + 1) 1 else none
theorem mtRun_mate (c : List Int) (i : Nat) : mtRun c 0 [] (fun _ => none) i = mateM c i := by
  have := mtRun_new c 0 [] (fun _ => none) i (by simp) (by simp) (fun _ _ => rfl)
  simpa [mateM] using this
theorem mt_ge : ∀ (r : List Int) (p d v : Nat), mt r p d = some v → p ≤ v ∧ v < p + r.length
  | [], p, d, v, h => by cases h
  | c :: r, p, d, v, h => by
    unfold mt at h
    simp only [List.length_cons]
    split at h
    · have := mt_ge r (p + 1) _ v h; omega
    · split at h
      · split at h
        · injection h with h; omega
        · have := mt_ge r (p + 1) _ v h; omega
      · have := mt_ge r (p + 1) _ v h; omega
theorem specOpens (c : Int) : spec_l3Opens.f c = some (opn c) := by
  unfold spec_l3Opens.f opn
  rw [specIn]
  simp only [Option.bind_some, Option.some.injEq]
  rw [Bool.eq_iff_iff]
  simp only [decide_eq_true_eq, Bool.or_eq_true, beq_iff_eq]
  omega
theorem rd_cls (l : List Int) (p : Nat) (h : p < l.length) : bidi (rd l (p : Int)) = (cls l).getD p 0 := by
  rw [rd_nat, List.getD_eq_getElem?_getD, List.getD_eq_getElem?_getD, List.getElem?_eq_getElem h]
  simp [cls, h]
theorem drop_cls' (l : List Int) (p : Nat) (h : p < l.length) : (cls l).drop p = (cls l).getD p 0 :: (cls l).drop (p + 1) := by
  rw [List.drop_eq_getElem_cons (by rw [cls_len]; exact h), List.getD_eq_getElem?_getD, List.getElem?_eq_getElem (by rw [cls_len]; exact h)]
  rfl
theorem specMate_l0 (l : List Int) (hl : l.length ≤ 1048576) : ∀ (n p d k : Nat), p + n = l.length → 1 ≤ d → d + n ≤ 3000000 → 2 * n + 40 ≤ k →
    spec_l3Mate.l0 k l (d : Int) (p : Int) = some (match mt ((cls l).drop p) p d with | some v => (v : Int) | none => (l.length : Int))
  | 0, p, d, k, hp, hd, hd2, hk => by
    obtain ⟨k, rfl⟩ : ∃ m, k = m + 1 := ⟨k - 1, by omega⟩
    simp only [spec_l3Mate.l0]
    rw [if_neg (by omega), List.drop_of_length_le (by rw [cls_len]; omega)]
    rfl
  | n + 1, p, d, k, hp, hd, hd2, hk => by
    obtain ⟨k, rfl⟩ : ∃ m, k = m + 2 := ⟨k - 2, by omega⟩
    have ih := fun d' (h1 : 1 ≤ d') (h2 : d' ≤ d + 1) => specMate_l0 l hl n (p + 1) d' k (by omega) h1 (by omega) (by omega)
    have e1 : wrap64 ((p : Int) + 1) = ((p + 1 : Nat) : Int) := by rw [w64_len (by omega) (by omega)]; omega
    rw [show k + 2 = (k + 1) + 1 from rfl]
    have hb : spec_RuneBidi.f (k + 1) (rd l (p : Int)) = some ((cls l).getD p 0) := by rw [specBidi _ _ (by omega), rd_cls l p (by omega)]
    rw [drop_cls' l p (by omega)]
    generalize (cls l).getD p 0 = c at hb ⊢
    have step : ∀ d' : Nat, 1 ≤ d' → d' ≤ d + 1 → spec_l3Mate.j1 (k + 1) l (d' : Int) (p : Int) c = if c = 22 then (if d' ≤ 1 then some (p : Int) else spec_l3Mate.l0 k l ((d' - 1 : Nat) : Int) ((p + 1 : Nat) : Int)) else spec_l3Mate.l0 k l (d' : Int) ((p + 1 : Nat) : Int) := by
      intro d' h1 h2
      simp only [spec_l3Mate.j1]
      rw [e1, w64 (by omega) (by omega)]
      by_cases hc : c = 22
      · rw [if_pos hc, if_pos hc]
        by_cases g : d' ≤ 1
        · rw [if_pos g, if_pos (by omega)]
        · rw [if_neg g, if_neg (by omega)]
          congr 1
          omega
      · rw [if_neg hc, if_neg hc, if_neg (by omega)]
    have e2 : wrap64 ((d : Int) + 1) = ((d + 1 : Nat) : Int) := by rw [w64_len (by omega) (by omega)]; omega
    rw [spec_l3Mate.l0]
    rw [if_pos (by omega), if_pos (by omega), hb]
    simp only [Option.bind_some]
    rw [specOpens]
    simp only [Option.bind_some]
    unfold mt
    by_cases ho : opn c = true
    · have hc : ¬ c = 22 := by
        intro e
        rw [e] at ho
        exact absurd ho (by decide)
      rw [if_pos ho, if_pos ho, e2, step (d + 1) (by omega) (by omega), if_neg hc, ih (d + 1) (by omega) (by omega)]
    · rw [if_neg ho, if_neg ho, step d hd (by omega)]
      by_cases hc : c = 22
      · rw [if_pos hc, if_pos hc]
        by_cases g : d ≤ 1
        · rw [if_pos g, if_pos g]
        · rw [if_neg g, if_neg g, ih (d - 1) (by omega) (by omega)]
      · rw [if_neg hc, if_neg hc, ih d hd (by omega)]
theorem specMate (l : List Int) (hl : l.length ≤ 1048576) (p : Nat) (hp : p < l.length) (ho : opn ((cls l).getD p 0) = true) (k : Nat) (hk : 2 * l.length + 50 ≤ k) :
    spec_l3Mate.f k l (p : Int) = some (match mateM (cls l) p with | some v => (v : Int) | none => (l.length : Int)) := by
  obtain ⟨k, rfl⟩ : ∃ m, k = m + 2 := ⟨k - 2, by omega⟩
  have h := specMate_l0 l hl (l.length - (p + 1)) (p + 1) 1 k (by omega) (by omega) (by omega) (by omega)
  have e1 : wrap64 ((p : Int) + 1) = ((p + 1 : Nat) : Int) := by rw [w64_len (by omega) (by omega)]; omega
  have hb : spec_RuneBidi.f (k + 1) (rd l (p : Int)) = some ((cls l).getD p 0) := by rw [specBidi _ _ (by omega), rd_cls l p hp]
  unfold mateM
  rw [if_pos ho]
  generalize (cls l).getD p 0 = c at hb ho
  have hc : ¬ c = 22 := by
    intro e
    rw [e] at ho
    exact absurd ho (by decide)
  unfold spec_l3Mate.f
  rw [show k + 2 = (k + 1) + 1 from rfl, spec_l3Mate.l0]
  rw [if_pos (by omega), if_pos (by omega), hb]
  simp only [Option.bind_some]
  rw [specOpens]
  simp only [Option.bind_some]
  rw [if_pos ho, spec_l3Mate.j1]
  rw [if_neg hc, e1, w64 (by omega) (by omega), if_neg (by omega)]
  exact h
/-- the side of letters from a place on: both ways -/
theorem base_both (l : List Int) (hl : l.length ≤ 80) : ∀ (n i : Nat), i + n = l.length ∨ (n = 0 ∧ l.length ≤ i ∧ i ≤ l.length + 1) → ∃ r : Int, (r = 0 ∨ r = 1) ∧ (∀ f, n + 1 ≤ f → sideF (cls l) (mateM (cls l)) f i = some r) ∧ (∀ k, 3 * n + 300 ≤ k → spec_l3Base.l0 k l (l.length : Int) (i : Int) = some r) := by
  intro n
  induction n using Nat.strongRecOn with
  | ind n ih =>
    intro i hi
    by_cases hlt : i < l.length
    · have hb := fun k (hk : 30 ≤ k) => (specBidi (rd l (i : Int)) k hk).trans (congrArg some (rd_cls l i hlt))
      have hs : ∀ f, sideF (cls l) (mateM (cls l)) (f + 1) i = (if (cls l).getD i 0 = 1 then some 0 else if (cls l).getD i 0 = 2 then some 1 else if (cls l).getD i 0 = 3 then some 1 else if opn ((cls l).getD i 0) = true then (match mateM (cls l) i with
          | none => some 0
          | some v => sideF (cls l) (mateM (cls l)) f (v + 1)) else sideF (cls l) (mateM (cls l)) f (i + 1)) := by
        intro f
        conv => lhs; unfold sideF
        rw [if_pos (by rw [cls_len]; exact hlt)]
        cases mateM (cls l) i <;> rfl
      have hmate := fun (ho : opn ((cls l).getD i 0) = true) k hk => specMate l (by omega) i hlt ho k hk
      generalize hc : (cls l).getD i 0 = c at hb hs hmate
      have e1 : wrap64 ((i : Int) + 1) = ((i + 1 : Nat) : Int) := by rw [w64_len (by omega) (by omega)]; omega
      have one : ∀ r : Int, (∀ f, n ≤ f → sideF (cls l) (mateM (cls l)) (f + 1) i = some r) → (∀ f, n + 1 ≤ f → sideF (cls l) (mateM (cls l)) f i = some r) := by
        intro r h f hf
        obtain ⟨f, rfl⟩ : ∃ m, f = m + 1 := ⟨f - 1, by omega⟩
        exact h f (by omega)
      have two : ∀ r : Int, (∀ k, 3 * n + 298 ≤ k → spec_l3Base.l0 (k + 1 + 1) l (l.length : Int) (i : Int) = some r) → (∀ k, 3 * n + 300 ≤ k → spec_l3Base.l0 k l (l.length : Int) (i : Int) = some r) := by
        intro r h k hk
        obtain ⟨k, rfl⟩ : ∃ m, k = m + 1 + 1 := ⟨k - 2, by omega⟩
        exact h k (by omega)
      have hsp : ∀ k, 3 * n + 298 ≤ k → spec_l3Base.l0 (k + 1 + 1) l (l.length : Int) (i : Int) = (if c = 1 then some 0 else if c = 2 then some 1 else if c = 3 then some 1 else if opn c = true then ((spec_l3Mate.f k l (i : Int)).bind fun t => spec_l3Base.l0 k l (l.length : Int) (wrap64 (t + 1))) else spec_l3Base.l0 k l (l.length : Int) ((i + 1 : Nat) : Int)) := by
        intro k hk
        rw [spec_l3Base.l0]
        rw [if_pos (by omega), if_pos (by omega), if_pos (by omega), hb _ (by omega)]
        simp only [Option.bind_some]
        by_cases h1 : c = 1
        · rw [if_pos h1, if_pos h1]
        rw [if_neg h1, if_neg h1]
        by_cases h2 : c = 2
        · rw [if_pos h2, if_pos h2, spec_l3Base.j1]
          rw [if_pos (beq_iff_eq.2 h2)]
        rw [if_neg h2, if_neg h2, spec_l3Base.j1]
        by_cases h3 : c = 3
        · rw [if_pos (beq_iff_eq.2 h3), if_pos h3]
        rw [if_neg (fun g => h3 (beq_iff_eq.1 g)), if_neg h3, specOpens, e1]
        rfl
      by_cases h1 : c = 1
      · exact ⟨0, .inl rfl, one 0 (fun f _ => by rw [hs, if_pos h1]), two 0 (fun k hk => by rw [hsp k hk, if_pos h1])⟩
      by_cases h2 : c = 2
      · exact ⟨1, .inr rfl, one 1 (fun f _ => by rw [hs, if_neg h1, if_pos h2]), two 1 (fun k hk => by rw [hsp k hk, if_neg h1, if_pos h2])⟩
      by_cases h3 : c = 3
      · exact ⟨1, .inr rfl, one 1 (fun f _ => by rw [hs, if_neg h1, if_neg h2, if_pos h3]), two 1 (fun k hk => by rw [hsp k hk, if_neg h1, if_neg h2, if_pos h3])⟩
      by_cases ho : opn c = true
      · cases hm : mateM (cls l) i with
        | none =>
          refine ⟨0, .inl rfl, one 0 (fun f _ => by rw [hs, if_neg h1, if_neg h2, if_neg h3, if_pos ho, hm]), two 0 (fun k hk => ?_)⟩
          rw [hsp k hk, if_neg h1, if_neg h2, if_neg h3, if_pos ho, hmate ho k (by omega), hm]
          simp only [Option.bind_some]
          obtain ⟨k, rfl⟩ : ∃ m, k = m + 1 := ⟨k - 1, by omega⟩
          rw [w64_len (by omega) (by omega), spec_l3Base.l0]
          rw [if_neg (by omega)]
        | some v =>
          have hv : i + 1 ≤ v ∧ v < l.length := by
            have h := hm
            unfold mateM at h
            rw [hc, if_pos ho] at h
            have := mt_ge _ _ _ _ h
            rw [List.length_drop, cls_len] at this
            omega
          obtain ⟨r, hr, g1, g2⟩ := ih (l.length - (v + 1)) (by omega) (v + 1) (.inl (by omega))
          refine ⟨r, hr, one r (fun f hf => by rw [hs, if_neg h1, if_neg h2, if_neg h3, if_pos ho, hm]; exact g1 f (by omega)), two r (fun k hk => ?_)⟩
          rw [hsp k hk, if_neg h1, if_neg h2, if_neg h3, if_pos ho, hmate ho k (by omega), hm]
          simp only [Option.bind_some]
          rw [w64_len (by omega) (by omega)]
          exact g2 k (by omega)
      · obtain ⟨r, hr, g1, g2⟩ := ih (l.length - (i + 1)) (by omega) (i + 1) (.inl (by omega))
        exact ⟨r, hr, one r (fun f hf => by rw [hs, if_neg h1, if_neg h2, if_neg h3, if_neg ho]; exact g1 f (by omega)), two r (fun k hk => by rw [hsp k hk, if_neg h1, if_neg h2, if_neg h3, if_neg ho]; exact g2 k (by omega))⟩
    · refine ⟨0, .inl rfl, fun f hf => ?_, fun k hk => ?_⟩
      · obtain ⟨f, rfl⟩ : ∃ m, f = m + 1 := ⟨f - 1, by omega⟩
        unfold sideF
        rw [if_neg (by rw [cls_len]; exact hlt)]
      · obtain ⟨k, rfl⟩ : ∃ m, k = m + 1 := ⟨k - 1, by omega⟩
        rw [spec_l3Base.l0]
        rw [if_neg (by omega)]
theorem mtRun_fun (c : List Int) : mtRun c 0 [] (fun _ => none) = mateM c := funext fun i => mtRun_mate c i
/-- the side of letters -/
theorem levelBase_both (l : List Int) (hl : l.length ≤ 1048576) : ∃ r : Int, (r = 0 ∨ r = 1) ∧ (∀ k, 700 ≤ k → impl_LevelBase.f k l = some r) ∧ (∀ k, l.length + 1000 ≤ k → spec_LevelBase.f k l = some r) ∧ (okT l = true → ∀ f, l.length + 1 ≤ f → sideF (cls l) (mateM (cls l)) f 0 = some r) := by
  by_cases h : okT l = true
  · have h80 := okT_len h
    obtain ⟨r, hr, g1, g2⟩ := base_both l h80 l.length 0 (.inl (by omega))
    refine ⟨r, hr, fun k hk => ?_, fun k hk => ?_, fun _ => g1⟩
    · unfold impl_LevelBase.f
      rw [implLettersOk]
      simp only [Option.bind_some]
      have ha : (l.all fun x => (impl_RuneBidi.f x).isSome) = true := by
        rw [List.all_eq_true]
        intro x _
        rw [implBidi]
        rfl
      rw [if_pos h, if_pos ⟨by omega, ha⟩, map_bdF, mtRun_fun]
      exact g1 k (by omega)
    · unfold spec_LevelBase.f
      rw [specL1Ok l hl k (by omega)]
      simp only [Option.bind_some]
      unfold spec_l3Base.f
      have := g2 k (by omega)
      rw [if_pos h, show spec_l3Base.l0 k l (l.length : Int) 0 = some r from this]
      rfl
  · refine ⟨0, .inl rfl, fun k _ => ?_, fun k hk => ?_, fun g => absurd g h⟩
    · unfold impl_LevelBase.f
      rw [implLettersOk]
      simp only [Option.bind_some]
      rw [if_neg h]
    · unfold spec_LevelBase.f
      rw [specL1Ok l hl k (by omega)]
      simp only [Option.bind_some]
      rw [if_neg h]

theorem isL_in {x : Int} (h : isL x = true) : 0 ≤ x ∧ x ≤ 1114111 ∧ (x < 55296 ∨ 57343 < x) := by
  simpa [isL, and_assoc] using h
/-- a letter's bytes -/
def enc8 (x : Int) : List Int :=
  if x ≤ 127 then [x] else if x ≤ 2047 then [192 + x / 64, 128 + x % 64]
  else if x ≤ 65535 then [224 + x / 4096, 128 + x / 64 % 64, 128 + x % 64]
  else [240 + x / 262144, 128 + x / 4096 % 64, 128 + x / 64 % 64, 128 + x % 64]
theorem enc8_len (x : Int) : 1 ≤ (enc8 x).length ∧ (enc8 x).length ≤ 4 := by
  unfold enc8
  repeat' split
  all_goals simp
theorem specSizeL (x : Int) (hx : isL x = true) : spec_l1Size.f x = some (if x ≤ 127 then 1 else if x ≤ 2047 then 2 else if x ≤ 65535 then 3 else 4) := by
  obtain ⟨h0, h1, h2⟩ := isL_in hx
  unfold spec_l1Size.f
  simp only [specIn, Option.bind_some, decide_eq_true_eq]
  by_cases c1 : x ≤ 127
  · rw [if_pos (by omega), if_pos c1]
  rw [if_neg (by omega), if_neg c1]
  by_cases c2 : x ≤ 2047
  · rw [if_pos (by omega), if_pos c2]
  rw [if_neg (by omega), if_neg c2, if_neg (by omega)]
  by_cases c3 : x ≤ 65535
  · rw [if_pos (by omega), if_pos c3]
  rw [if_neg (by omega), if_neg c3, if_pos (by omega)]
theorem specPutL (x : Int) (hx : isL x = true) : spec_l1Put.f x = some (strOfNums (enc8 x)) := by
  obtain ⟨h0, h1, h2⟩ := isL_in hx
  have d1 : Int.tdiv x 64 = x / 64 := Int.tdiv_eq_ediv_of_nonneg h0
  have d2 : Int.tdiv x 4096 = x / 4096 := Int.tdiv_eq_ediv_of_nonneg h0
  have d3 : Int.tdiv x 262144 = x / 262144 := Int.tdiv_eq_ediv_of_nonneg h0
  have m1 : Int.tmod x 64 = x % 64 := Int.tmod_eq_emod_of_nonneg h0
  have m2 : Int.tmod (x / 64) 64 = x / 64 % 64 := Int.tmod_eq_emod_of_nonneg (by omega)
  have m3 : Int.tmod (x / 4096) 64 = x / 4096 % 64 := Int.tmod_eq_emod_of_nonneg (by omega)
  have w1 : wrap64 (x / 64) = x / 64 := w64 (by omega) (by omega)
  have w2 : wrap64 (x / 4096) = x / 4096 := w64 (by omega) (by omega)
  have w3 : wrap64 (x / 262144) = x / 262144 := w64 (by omega) (by omega)
  unfold spec_l1Put.f enc8
  rw [specSizeL x hx, d1, d2, d3, m1, w1, w2, w3, m2, m3]
  simp only [Option.bind_some]
  have v1 : wrap64 (128 + x % 64) % 256 = 128 + x % 64 := by rw [w64 (by omega) (by omega)]; omega
  have v2 : wrap64 (128 + x / 64 % 64) % 256 = 128 + x / 64 % 64 := by rw [w64 (by omega) (by omega)]; omega
  have v3 : wrap64 (128 + x / 4096 % 64) % 256 = 128 + x / 4096 % 64 := by rw [w64 (by omega) (by omega)]; omega
  rw [v1, v2, v3]
  by_cases c1 : x ≤ 127
  · simp only [if_pos c1, if_true]
    rw [show x % 256 = x from by omega]
  by_cases c2 : x ≤ 2047
  · simp only [if_neg c1, if_pos c2, if_true]
    rw [if_neg (by omega), w64 (by omega) (by omega), show (192 + x / 64) % 256 = 192 + x / 64 from by omega]
  by_cases c3 : x ≤ 65535
  · simp only [if_neg c1, if_neg c2, if_pos c3, if_true]
    rw [if_neg (by omega), if_neg (by omega), w64 (by omega) (by omega), show (224 + x / 4096) % 256 = 224 + x / 4096 from by omega]
  · simp only [if_neg c1, if_neg c2, if_neg c3, if_true]
    rw [if_neg (by omega), if_neg (by omega), if_neg (by omega), w64 (by omega) (by omega), show (240 + x / 262144) % 256 = 240 + x / 262144 from by omega]
theorem strOfNums_append (a b : List Int) : strOfNums a ++ strOfNums b = strOfNums (a ++ b) := by
  apply ByteArray.ext
  simp [strOfNums, ByteArray.data_append]
def encAll (l : List Int) : List Int := l.flatMap enc8
theorem encAll_len : ∀ l : List Int, (encAll l).length ≤ 4 * l.length
  | [] => Nat.le_refl _
  | x :: l => by
    have := encAll_len l
    have := enc8_len x
    simp only [encAll, List.flatMap_cons, List.length_append, List.length_cons] at *
    omega
theorem okT_mem {l : List Int} (h : okT l = true) : ∀ x ∈ l, isL x = true := by
  unfold okT at h
  rw [Bool.and_eq_true] at h
  exact List.all_eq_true.1 h.2
def putL (l : List Int) : ByteArray := if okT l = true then strOfNums (encAll l) else ⟨#[]⟩
def putS (acc : ByteArray) (suf : List Int) (n : Nat) : ByteArray := if suf.all isL = true ∧ n + suf.length ≤ 80 then acc ++ strOfNums (encAll suf) else ⟨#[]⟩
theorem putS_ok (acc : ByteArray) (x : Int) (suf : List Int) (n : Nat) (hx : isL x = true) : putS acc (x :: suf) n = putS (acc ++ strOfNums (enc8 x)) suf (n + 1) := by
  unfold putS
  by_cases h : suf.all isL = true ∧ n + 1 + suf.length ≤ 80
  · rw [if_pos h, if_pos ⟨by rw [List.all_cons, hx, h.1]; rfl, by rw [List.length_cons]; omega⟩, ByteArray.append_assoc, strOfNums_append]
    rfl
  · rw [if_neg h, if_neg (fun g => h ⟨by have := g.1; rw [List.all_cons, hx] at this; exact this, by have := g.2; rw [List.length_cons] at this; omega⟩)]
theorem putS_bad (acc : ByteArray) (x : Int) (suf : List Int) (n : Nat) (hx : ¬ isL x = true) : putS acc (x :: suf) n = ⟨#[]⟩ := by
  unfold putS
  rw [if_neg (fun g => hx (by have := g.1; rw [List.all_cons, Bool.and_eq_true] at this; exact this.1))]
theorem putS_far (acc : ByteArray) (x : Int) (suf : List Int) (n : Nat) (hn : 80 ≤ n) : putS acc (x :: suf) n = ⟨#[]⟩ := by
  unfold putS
  rw [if_neg (fun g => by have := g.2; rw [List.length_cons] at this; omega)]
theorem append_none (a : ByteArray) : a ++ (⟨#[]⟩ : ByteArray) = a := by
  apply ByteArray.ext
  rw [ByteArray.data_append]
  simp
theorem specPut_l0 : ∀ (suf pre : List Int) (acc : ByteArray) (k : Nat), pre.length ≤ 80 → acc.size ≤ 4 * pre.length → suf.length ≤ 1048576 → suf.length + 1 ≤ k →
    spec_Utf8Put.l0 k (pre ++ suf) acc (pre.length : Int) = some (putS acc suf pre.length)
  | [], pre, acc, k, hp, ha, hl, hk => by
    obtain ⟨k, rfl⟩ : ∃ m, k = m + 1 := ⟨k - 1, by simp at hk; omega⟩
    simp only [spec_Utf8Put.l0]
    rw [if_neg (len_end pre)]
    unfold putS
    rw [if_pos ⟨rfl, by simpa using hp⟩]
    exact congrArg some (append_none acc).symm
  | x :: suf, pre, acc, k, hp, ha, hl, hk => by
    obtain ⟨k, rfl⟩ : ∃ m, k = m + 1 := ⟨k - 1, by simp at hk; omega⟩
    obtain ⟨n, e, hn⟩ := specSize x
    simp only [spec_Utf8Put.l0]
    rw [if_pos (len_mid pre x suf), if_pos (by omega), rd_mid, e]
    simp only [Option.bind_some]
    by_cases hx : isL x = true
    · rw [if_neg (fun g => by rw [hn.1 g] at hx; cases hx)]
      by_cases h80 : (pre.length : Int) ≥ 80
      · rw [if_pos h80, putS_far _ _ _ _ (by omega)]
      · have he := enc8_len x
        have ih := specPut_l0 suf (pre ++ [x]) (acc ++ strOfNums (enc8 x)) k (by simp; omega) (by rw [ByteArray.size_append, strOfNums_size]; simp; omega) (by simp at hl; omega) (by simp at hk; omega)
        rw [len_snoc, ← app_cons] at ih
        rw [if_neg h80, specPutL x hx]
        simp only [Option.bind_some]
        rw [strOfNums_size, if_pos (by omega), w64_len (by omega) (by omega), ih, putS_ok _ _ _ _ hx]
        simp
    · rw [if_pos (hn.2 (by simpa using hx)), putS_bad _ _ _ _ hx]
theorem specPut (l : List Int) (hl : l.length ≤ 1048576) (k : Nat) (hk : l.length + 1 ≤ k) : spec_Utf8Put.f k l = some (putL l) := by
  unfold spec_Utf8Put.f putL
  have e : spec_Utf8Put.l0 k l ⟨#[]⟩ 0 = some (putS ⟨#[]⟩ l 0) := specPut_l0 l [] ⟨#[]⟩ k (by simp) (Nat.le_refl 0) hl hk
  rw [e]
  congr 1
  unfold okT putS
  by_cases h : l.all isL = true ∧ 0 + l.length ≤ 80
  · rw [if_pos h, if_pos (by rw [h.1, Bool.and_true, decide_eq_true_eq]; omega)]
    apply ByteArray.ext
    rw [ByteArray.data_append]
    simp
  · rw [if_neg h, if_neg (fun g => h (by rw [Bool.and_eq_true, decide_eq_true_eq] at g; exact ⟨g.2, by omega⟩))]

theorem wcOk_ok (l : List Int) (hl : l.length ≤ 1048576) (k : Nat) (hk : l.length + 1 ≤ k) : ∃ b : Bool, laws_wcOk.f k l = some b ∧ (b = true → okT l = true) := by
  unfold laws_wcOk.f
  by_cases h0 : (l.length : Int) = 0
  · rw [if_pos h0]
    have : l = [] := List.eq_nil_of_length_eq_zero (by omega)
    subst this
    exact ⟨true, rfl, fun _ => rfl⟩
  · rw [if_neg h0, specPut l hl k hk]
    simp only [Option.bind_some]
    refine ⟨_, rfl, fun h => ?_⟩
    unfold putL at h
    by_cases g : okT l = true
    · exact g
    · rw [if_neg g] at h
      exact absurd h (by unfold ByteArray.toList ByteArray.toList.loop; decide)

/-! what is drawn: a reader of bytes -/
theorem xor_i64 (a b : Nat) (ha : a < 2 ^ 40) (hb : b < 2 ^ 40) : bits .xor .i64 (a : Int) (b : Int) = ((a ^^^ b : Nat) : Int) := by
  have hp : (2 : Nat) ^ 40 ≤ 2 ^ IntKind.i64.bits := by decide
  have ha' : a % 2 ^ IntKind.i64.bits = a := Nat.mod_eq_of_lt (Nat.lt_of_lt_of_le ha hp)
  have hb' : b % 2 ^ IntKind.i64.bits = b := Nat.mod_eq_of_lt (Nat.lt_of_lt_of_le hb hp)
  simp only [bits, BitVec.ofInt_natCast, BitVec.toNat_xor, BitVec.toNat_ofNat, ha', hb']
  have h := Nat.xor_lt_two_pow ha hb
  rw [IntKind.wrap_i64]
  omega
theorem xor_pos {x y : Int} (hx : 0 ≤ x) (hx' : x < 1099511627776) (hy : 0 ≤ y) (hy' : y < 1099511627776) : 0 ≤ bits .xor .i64 x y ∧ bits .xor .i64 x y < 1099511627776 := by
  obtain ⟨a, rfl⟩ := Int.eq_ofNat_of_zero_le hx
  obtain ⟨b, rfl⟩ := Int.eq_ofNat_of_zero_le hy
  have ha : a < 2 ^ 40 := by omega
  have hb : b < 2 ^ 40 := by omega
  rw [xor_i64 a b ha hb]
  have h := Nat.xor_lt_two_pow ha hb
  omega
theorem tmod_in {x n : Int} (hx : 0 ≤ x) (hn : 0 < n) : 0 ≤ Int.tmod x n ∧ Int.tmod x n < n := by
  rw [Int.tmod_eq_emod_of_nonneg hx]
  exact ⟨Int.emod_nonneg _ (by omega), Int.emod_lt_of_pos _ hn⟩
theorem tdiv_in {x n : Int} (hx : 0 ≤ x) (hn : 0 < n) : 0 ≤ Int.tdiv x n ∧ Int.tdiv x n ≤ x := by
  rw [Int.tdiv_eq_ediv_of_nonneg hx]
  exact ⟨Int.ediv_nonneg hx (by omega), Int.ediv_le_self _ hx⟩
/-- bytes -/
def Bytes (b : List Int) : Prop := b.length ≤ 2000 ∧ ∀ x ∈ b, 0 ≤ x ∧ x ≤ 255
theorem rd_byte {b : List Int} (hb : Bytes b) {i : Int} (h : i < b.length) (h0 : 0 ≤ i) : 0 ≤ rd b i ∧ rd b i ≤ 255 := by
  unfold rd
  have hi : i.toNat < b.length := by omega
  rw [List.getD_eq_getElem?_getD, List.getElem?_eq_getElem hi]
  exact hb.2 _ (List.getElem_mem hi)
theorem pick_ok {b : List Int} (hb : Bytes b) (p n : Int) (hp : 0 ≤ p) (hp' : p ≤ 1000000) (k : Nat) (hk : 1 ≤ k) :
    ∃ v, spec_l1Rd_pick.f k b p n = some (v, p + 1) ∧ 0 ≤ v ∧ (1 ≤ n → v < n) ∧ (n < 1 → v = 0) := by
  obtain ⟨k, rfl⟩ : ∃ m, k = m + 1 := ⟨k - 1, by omega⟩
  have hl := hb.1
  have e1 : wrap64 (p + 1) = p + 1 := w64 (by omega) (by omega)
  have e2 : wrap64 (p + 1 - 1) = p := by rw [w64 (by omega) (by omega)]; omega
  unfold spec_l1Rd_pick.f
  by_cases hn : n < 1
  · rw [if_pos hn, e1]
    simp only [spec_l1Rd_pick.j0, if_true]
    exact ⟨0, rfl, by omega, by omega, fun _ => rfl⟩
  · rw [if_neg hn, e1]
    by_cases h0 : b.length = 0
    · have e0 : ((b.length : Int) == 0) = true := by simp [h0]
      simp only [spec_l1Rd_pick.j0, e0, if_true]
      exact ⟨0, rfl, by omega, by omega, fun _ => rfl⟩
    · have e0 : ((b.length : Int) == 0) = false := by simp; intro h; exact h0 (by rw [h]; rfl)
      have hlen : (0 : Int) < b.length := by omega
      simp only [spec_l1Rd_pick.j0, e0, e2, Bool.false_eq_true, if_false]
      have hn0 : ¬ n = 0 := by omega
      by_cases hlt : p < (b.length : Int)
      · rw [if_pos hlt, if_pos hp, if_neg hn0]
        obtain ⟨r0, r1⟩ := rd_byte hb hlt hp
        rw [w64 (by omega) (by omega)]
        have h := tmod_in r0 (show 0 < n by omega)
        exact ⟨_, rfl, h.1, fun _ => h.2, fun h' => absurd h' hn⟩
      · have m1 := tmod_in hp hlen
        have e7 : wrap64 (wrap64 (p * 7) + 3) = p * 7 + 3 := by rw [w64 (x := p * 7) (by omega) (by omega), w64 (by omega) (by omega)]
        have m2 := tmod_in (show 0 ≤ p * 7 + 3 by omega) hlen
        have r1 := rd_byte hb m1.2 m1.1
        have r2 := rd_byte hb m2.2 m2.1
        have d1 := tdiv_in hp hlen
        rw [if_neg hlt, if_neg (by omega), if_pos m1.1, if_pos m1.2, e7, if_pos m2.1, if_pos m2.2, if_neg hn0]
        generalize rd b (Int.tmod p (b.length : Int)) = x1 at *
        generalize rd b (Int.tmod (p * 7 + 3) (b.length : Int)) = x2 at *
        generalize Int.tdiv p (b.length : Int) = x3 at *
        have eX : wrap64 (wrap64 (wrap64 (wrap64 (wrap64 x1 * 131) + wrap64 (wrap64 x2 * 1117)) + wrap64 (p * 29)) + wrap64 (wrap64 x3 * 53)) = x1 * 131 + x2 * 1117 + p * 29 + x3 * 53 := by
          rw [w64 (x := x1) (by omega) (by omega), w64 (x := x2) (by omega) (by omega), w64 (x := x3) (by omega) (by omega), w64 (x := x1 * 131) (by omega) (by omega), w64 (x := x2 * 1117) (by omega) (by omega), w64 (x := p * 29) (by omega) (by omega), w64 (x := x3 * 53) (by omega) (by omega), w64 (x := x1 * 131 + x2 * 1117) (by omega) (by omega), w64 (x := x1 * 131 + x2 * 1117 + p * 29) (by omega) (by omega), w64 (by omega) (by omega)]
        rw [eX]
        have hX0 : 0 ≤ x1 * 131 + x2 * 1117 + p * 29 + x3 * 53 := by omega
        have hX1 : x1 * 131 + x2 * 1117 + p * 29 + x3 * 53 < 1000000000 := by omega
        generalize x1 * 131 + x2 * 1117 + p * 29 + x3 * 53 = X at *
        have d2 := tdiv_in hX0 (show (0 : Int) < 64 by omega)
        rw [w64 (x := Int.tdiv X 64) (by omega) (by omega)]
        have hx := xor_pos hX0 (by omega) d2.1 (by omega)
        have h := tmod_in hx.1 (show 0 < n by omega)
        exact ⟨_, rfl, h.1, fun _ => h.2, fun h' => absurd h' hn⟩
theorem open_ok {l : List Int} (h : ∀ x ∈ l, (Lit.int .u8 x).wf = true) : ∃ b, spec_l1Open.f l = some (b, 0) ∧ Bytes b := by
  unfold spec_l1Open.f
  by_cases h1 : (l.length : Int) > 2000
  · rw [if_pos h1, if_pos (by omega)]
    exact ⟨_, rfl, by rw [List.length_take]; omega, fun x hx => in_u8 (h x (List.mem_of_mem_take hx))⟩
  · rw [if_neg h1]
    exact ⟨_, rfl, by omega, fun x hx => in_u8 (h x hx)⟩

theorem one_ok {b : List Int} (hb : Bytes b) (p : Int) (hp : 0 ≤ p) (hp' : p ≤ 1000000) (l : List Int) (hl : 1 ≤ l.length) (k : Nat) (hk : 1 ≤ k) :
    ∃ v, spec_l1Rd_one.f k b p l = some (v, p + 1) ∧ v ∈ l := by
  obtain ⟨v, e, h0, h1, _⟩ := pick_ok hb p (l.length : Int) hp hp' k hk
  unfold spec_l1Rd_one.f
  rw [e]
  simp only [Option.bind_some]
  have h2 := h1 (by omega)
  rw [if_pos h0, if_pos h2]
  refine ⟨_, rfl, ?_⟩
  unfold rd
  have hi : v.toNat < l.length := by omega
  rw [List.getD_eq_getElem?_getD, List.getElem?_eq_getElem hi]
  exact List.getElem_mem hi

/-- a number that is drawn as a letter -/
def LRange (v : Int) : Prop := 0 ≤ v ∧ v ≤ 1114111
theorem rune_ok {b : List Int} (hb : Bytes b) (p : Int) (hp : 0 ≤ p) (hp' : p ≤ 900000) (k : Nat) (hk : 10 ≤ k) :
    ∃ v q, spec_l13Rune.f k b p = some (v, q) ∧ p ≤ q ∧ q ≤ p + 2 ∧ LRange v := by
  obtain ⟨k, rfl⟩ : ∃ m, k = m + 10 := ⟨k - 10, by omega⟩
  obtain ⟨v, e, h0, h1, _⟩ := pick_ok hb p 16 hp (by omega) (k + 10) (by omega)
  have h2 := h1 (by omega)
  unfold spec_l13Rune.f
  rw [e]
  have one : ∀ (l : List Int) (j : Nat), 1 ≤ l.length → 1 ≤ j → (∀ x ∈ l, LRange x) → ∃ u q, ((spec_l1Rd_one.f j b (p + 1) l).bind fun bt => some (bt.1, bt.2)) = some (u, q) ∧ p ≤ q ∧ q ≤ p + 2 ∧ LRange u := by
    intro l j h3 h4 h5
    obtain ⟨u, e1, h6⟩ := one_ok hb (p + 1) (by omega) (by omega) l h3 j h4
    exact ⟨u, p + 1 + 1, by rw [e1]; rfl, by omega, by omega, h5 u h6⟩
  simp only [Option.bind_some]
  have hv : v = 0 ∨ v = 1 ∨ v = 2 ∨ v = 3 ∨ v = 4 ∨ v = 5 ∨ v = 6 ∨ v = 7 ∨ v = 8 ∨ v = 9 ∨ v = 10 ∨ v = 11 ∨ v = 12 ∨ v = 13 ∨ v = 14 ∨ v = 15 := by omega
  rcases hv with rfl | rfl | rfl | rfl | rfl | rfl | rfl | rfl | rfl | rfl | rfl | rfl | rfl | rfl | rfl | rfl
  all_goals simp only [spec_l13Rune.j0, spec_l13Rune.j1, spec_l13Rune.j2, Int.reduceEq, Int.reduceBEq, if_true, if_false, ↓reduceIte, Bool.false_eq_true, beq_self_eq_true]
  all_goals first
    | exact ⟨32, p + 1, rfl, by omega, by omega, by unfold LRange; omega⟩
    | exact one _ _ (by simp) (by omega) (by simp [LRange])

theorem runes_l1 {b : List Int} (hb : Bytes b) : ∀ (n : Nat) (out : List Int) (p : Int) (k : Nat), out.length + n = 80 → 0 ≤ p → p + n ≤ 900000 → (∀ x ∈ out, LRange x) → n + 1 ≤ k →
    ∃ v q, spec_l13Runes.l1 k out b p = some (v, q) ∧ v.length ≤ 80 ∧ (∀ x ∈ v, LRange x) ∧ p ≤ q ∧ q ≤ p + n
  | 0, out, p, k, ho, hp, hp', hx, hk => by
    obtain ⟨k, rfl⟩ : ∃ m, k = m + 1 := ⟨k - 1, by omega⟩
    simp only [spec_l13Runes.l1]
    rw [if_neg (by omega)]
    exact ⟨_, _, rfl, by omega, hx, by omega, by omega⟩
  | n + 1, out, p, k, ho, hp, hp', hx, hk => by
    obtain ⟨k, rfl⟩ : ∃ m, k = m + 1 := ⟨k - 1, by omega⟩
    simp only [spec_l13Runes.l1]
    rw [if_pos (by omega)]
    obtain ⟨u, e1, h3⟩ := one_ok hb p (by omega) (by omega) [8235, 8238, 8295, 1488, 97] (by simp) k (by omega)
    rw [e1]
    simp only [Option.bind_some]
    rw [if_pos (by omega)]
    have hu : LRange u := by simp at h3; unfold LRange; omega
    obtain ⟨v, q, g1, g2, g3, g4, g5⟩ := runes_l1 hb n (out ++ [u]) (p + 1) k (by simp; omega) (by omega) (by omega) (fun x hx' => by
      rcases List.mem_append.1 hx' with h | h
      · exact hx x h
      · simp at h
        exact h ▸ hu) (by omega)
    exact ⟨v, q, g1, g2, g3, by omega, by omega⟩
theorem runes_l0 {b : List Int} (hb : Bytes b) : ∀ (n : Nat) (out : List Int) (p : Int) (k : Nat), out.length + n ≤ 80 → 0 ≤ p → p + 2 * n ≤ 800000 → (∀ x ∈ out, LRange x) → n + 100 ≤ k →
    ∃ v q, spec_l13Runes.l0 k out (n : Int) b p = some (v, q) ∧ v.length ≤ 80 ∧ (∀ x ∈ v, LRange x) ∧ p ≤ q ∧ q ≤ p + 2 * n + 81
  | 0, out, p, k, ho, hp, hp', hx, hk => by
    obtain ⟨k, rfl⟩ : ∃ m, k = m + 1 := ⟨k - 1, by omega⟩
    simp only [spec_l13Runes.l0]
    rw [if_neg (by omega)]
    obtain ⟨v, e, h0, h1, _⟩ := pick_ok hb p 24 hp (by omega) k (by omega)
    rw [e]
    simp only [Option.bind_some]
    by_cases hv : v = 0
    · rw [if_pos hv]
      obtain ⟨v, q, g1, g2, g3, g4, g5⟩ := runes_l1 hb (80 - out.length) out (p + 1) k (by omega) (by omega) (by omega) hx (by omega)
      exact ⟨v, q, g1, g2, g3, by omega, by omega⟩
    · rw [if_neg hv]
      exact ⟨_, _, rfl, by omega, hx, by omega, by omega⟩
  | n + 1, out, p, k, ho, hp, hp', hx, hk => by
    obtain ⟨k, rfl⟩ : ∃ m, k = m + 1 := ⟨k - 1, by omega⟩
    simp only [spec_l13Runes.l0]
    rw [if_pos (by omega)]
    obtain ⟨u, q, e1, h2, h3, hu⟩ := rune_ok hb p (by omega) (by omega) k (by omega)
    rw [e1]
    simp only [Option.bind_some]
    rw [if_pos (by omega)]
    have e6 : wrap64 (((n + 1 : Nat) : Int) - 1) = (n : Int) := by rw [w64 (by omega) (by omega)]; omega
    rw [e6]
    obtain ⟨v, q', g1, g2, g3, g4, g5⟩ := runes_l0 hb n (out ++ [u]) q k (by simp; omega) (by omega) (by omega) (fun x hx' => by
      rcases List.mem_append.1 hx' with h | h
      · exact hx x h
      · simp at h
        exact h ▸ hu) (by omega)
    exact ⟨v, q', g1, g2, g3, by omega, by omega⟩
theorem runes_ok {b : List Int} (hb : Bytes b) (p : Int) (hp : 0 ≤ p) (hp' : p ≤ 700000) (k : Nat) (hk : 150 ≤ k) :
    ∃ v q, spec_l13Runes.f k b p = some (v, q) ∧ v.length ≤ 80 ∧ (∀ x ∈ v, LRange x) ∧ p ≤ q ∧ q ≤ p + 200 := by
  obtain ⟨n, e, h0, h1, _⟩ := pick_ok hb p 24 hp (by omega) k (by omega)
  have h2 := h1 (by omega)
  unfold spec_l13Runes.f
  rw [e]
  simp only [Option.bind_some]
  obtain ⟨m, rfl⟩ : ∃ m : Nat, n = m := ⟨n.toNat, by omega⟩
  obtain ⟨v, q, g1, g2, g3, g4, g5⟩ := runes_l0 hb m [] (p + 1) k (by simp; omega) (by omega) (by omega) (by simp) (by omega)
  exact ⟨v, q, g1, g2, g3, by omega, by omega⟩

def ARange (v : Int) : Prop := -1 ≤ v ∧ v ≤ 1114112
theorem any_l0 (b : List Int) (p : Int) : ∀ (n : Nat) (out : List Int) (k : Nat), out.length + n = 81 → (∀ x ∈ out, ARange x) → n + 1 ≤ k → ∃ v, spec_l13Any.l0 k out b p = some (v, p) ∧ v.length ≤ 81 ∧ ∀ x ∈ v, ARange x
  | 0, out, k, ho, hx, hk => by
    obtain ⟨k, rfl⟩ : ∃ m, k = m + 1 := ⟨k - 1, by omega⟩
    simp only [spec_l13Any.l0]
    rw [if_neg (by omega)]
    exact ⟨_, rfl, by omega, hx⟩
  | n + 1, out, k, ho, hx, hk => by
    obtain ⟨k, rfl⟩ : ∃ m, k = m + 1 := ⟨k - 1, by omega⟩
    simp only [spec_l13Any.l0]
    rw [if_pos (by omega), if_pos (by omega)]
    exact any_l0 b p n (out ++ [97]) k (by simp; omega) (fun x hx' => by
      rcases List.mem_append.1 hx' with h | h
      · exact hx x h
      · simp at h
        subst h
        unfold ARange
        omega) (by omega)
theorem any_ok {b : List Int} (hb : Bytes b) (p : Int) (hp : 0 ≤ p) (hp' : p ≤ 600000) (k : Nat) (hk : 150 ≤ k) :
    ∃ v q, spec_l13Any.f k b p = some (v, q) ∧ v.length ≤ 81 ∧ (∀ x ∈ v, ARange x) ∧ p ≤ q ∧ q ≤ p + 202 := by
  obtain ⟨v, q, g1, g2, g3, g4, g5⟩ := runes_ok hb p hp (by omega) k hk
  have g6 : ∀ x ∈ v, ARange x := fun x hx => by have := g3 x hx; unfold LRange at this; unfold ARange; omega
  unfold spec_l13Any.f
  rw [g1]
  simp only [Option.bind_some]
  obtain ⟨n, e, h0, h1, _⟩ := pick_ok hb q 24 (by omega) (by omega) k (by omega)
  rw [e]
  simp only [Option.bind_some]
  by_cases hn : n = 0
  · rw [if_pos hn]
    obtain ⟨u, e1, h3⟩ := one_ok hb (q + 1) (by omega) (by omega) [-1, 55296, 57343, 1114112] (by simp) k (by omega)
    rw [e1]
    simp only [Option.bind_some]
    rw [if_pos (by omega)]
    refine ⟨_, _, rfl, by simp; omega, fun x hx' => ?_, by omega, by omega⟩
    rcases List.mem_append.1 hx' with h | h
    · exact g6 x h
    · simp at h
      subst h
      simp at h3
      unfold ARange
      omega
  rw [if_neg hn]
  by_cases hn1 : n = 1
  · rw [if_pos hn1]
    obtain ⟨u, f1, f2, f3⟩ := any_l0 b (q + 1) (81 - v.length) v k (by omega) g6 (by omega)
    exact ⟨u, _, f1, f2, f3, by omega, by omega⟩
  · rw [if_neg hn1]
    exact ⟨v, _, rfl, by omega, g6, by omega, by omega⟩

theorem mt_shift : ∀ (r : List Int) (p d s : Nat), mt r (s + p) d = (mt r p d).map (s + ·)
  | [], p, d, s => rfl
  | c :: r, p, d, s => by
    have e : s + p + 1 = s + (p + 1) := by omega
    unfold mt
    rw [e, mt_shift r (p + 1) (d + 1) s, mt_shift r (p + 1) (d - 1) s, mt_shift r (p + 1) d s]
    split
    · rfl
    · split
      · split
        · rfl
        · rfl
      · rfl
theorem mateM_shift (pre c : List Int) (i : Nat) : mateM (pre ++ c) (pre.length + i) = (mateM c i).map (pre.length + ·) := by
  have e1 : (pre ++ c).getD (pre.length + i) 0 = c.getD i 0 := by
    rw [List.getD_eq_getElem?_getD, List.getElem?_append_right (by omega), List.getD_eq_getElem?_getD, Nat.add_sub_cancel_left]
  have e2 : (pre ++ c).drop (pre.length + i + 1) = c.drop (i + 1) := by
    rw [List.drop_append, List.drop_of_length_le (by omega), List.nil_append]
    congr 1
    omega
  unfold mateM
  rw [e1, e2, show pre.length + i + 1 = pre.length + (i + 1) by omega, mt_shift]
  split <;> rfl
theorem side_shift (pre c : List Int) : ∀ (f i : Nat), sideF (pre ++ c) (mateM (pre ++ c)) f (pre.length + i) = sideF c (mateM c) f i
  | 0, i => rfl
  | f + 1, i => by
    have e1 : (pre ++ c).getD (pre.length + i) 0 = c.getD i 0 := by
      rw [List.getD_eq_getElem?_getD, List.getElem?_append_right (by omega), List.getD_eq_getElem?_getD, Nat.add_sub_cancel_left]
    have e2 := side_shift pre c f (i + 1)
    unfold sideF
    rw [e1, mateM_shift, show pre.length + i + 1 = pre.length + (i + 1) by omega, e2]
    by_cases h : i < c.length
    · rw [if_pos h, if_pos (by simp; omega)]
      cases hm : mateM c i with
      | none => rfl
      | some v =>
        have := side_shift pre c f (v + 1)
        simp only [Option.map_some]
        rw [show pre.length + v + 1 = pre.length + (v + 1) by omega, this]
    · rw [if_neg h, if_neg (by simp; omega)]
theorem okT_cons {l : List Int} (h : okT l = true) (pre : List Int) (hp : pre.all isL = true) (hl : pre.length + l.length ≤ 80) : okT (pre ++ l) = true := by
  unfold okT at h ⊢
  rw [Bool.and_eq_true, decide_eq_true_eq] at h ⊢
  exact ⟨by simp; omega, by rw [List.all_append, hp, h.2]; rfl⟩
theorem FnLevelBase : laws_FnLevelBase.Pure := by
  intro l _ _ hl
  obtain ⟨K, hK⟩ : ∃ K : Nat, K = 1500 := ⟨_, rfl⟩
  refine ⟨K + 1, ?_⟩
  unfold laws_FnLevelBase.f
  by_cases h0 : (l.length : Int) > 1048576
  · rw [if_pos h0]
  rw [if_neg h0]
  obtain ⟨b, e, hb⟩ := open_ok hl
  have hd : ∃ v, spec_DrawLevelBase.f (K + 1) l = some v ∧ v.length ≤ 81 := by
    unfold spec_DrawLevelBase.f
    rw [e]
    simp only [Option.bind_some]
    obtain ⟨v, q, g1, g2, g3, g4, g5⟩ := any_ok hb 0 (by omega) (by omega) (K + 1) (by omega)
    rw [g1]
    exact ⟨v, rfl, g2⟩
  obtain ⟨v, e1, hv⟩ := hd
  obtain ⟨r, hr, g1, g2, g3⟩ := levelBase_both v (by omega)
  obtain ⟨ok, e2, hok⟩ := wcOk_ok v (by omega) (K + 1) (by omega)
  rw [e1]
  simp only [Option.bind_some]
  rw [g1 _ (by omega), g2 _ (by omega)]
  simp only [Option.bind_some, if_true]
  rw [e2]
  simp only [Option.bind_some]
  have hT : laws_FnLevelBase.j0 (K + 1) v r true = some true := by
    simp only [laws_FnLevelBase.j0, if_true]
    rw [g2 _ (by omega)]
    simp
  cases ok with
  | false =>
    rw [if_neg (by decide)]
    exact hT
  | true =>
    have hokv := hok rfl
    rw [if_pos rfl, w64 (by omega) (by omega)]
    by_cases h80 : (v.length : Int) + 3 > 80
    · rw [decide_eq_true h80]
      exact hT
    · rw [decide_eq_false h80]
      have big : ∀ (pre : List Int) (z : Int), pre.all isL = true → pre.length ≤ 3 → (∀ f, 200 ≤ f → sideF (cls (pre ++ v)) (mateM (cls (pre ++ v))) f 0 = some z) → ∀ k, 700 ≤ k → impl_LevelBase.f k (pre ++ v) = some z := by
        intro pre z hp hpl hz k hk
        obtain ⟨r', _, i1, _, i3⟩ := levelBase_both (pre ++ v) (by simp; omega)
        have h1 := i3 (okT_cons hokv pre hp (by omega)) 300 (by simp; omega)
        rw [hz 300 (by omega)] at h1
        injection h1 with h1
        rw [i1 k hk, h1]
      have b1 := big [97] 0 (by decide) (by decide) (fun f hf => by
        obtain ⟨f, rfl⟩ : ∃ m, f = m + 1 := ⟨f - 1, by omega⟩
        unfold sideF
        rw [if_pos (by simp [cls])]
        rfl)
      have b2 := big [1488] 1 (by decide) (by decide) (fun f hf => by
        obtain ⟨f, rfl⟩ : ∃ m, f = m + 1 := ⟨f - 1, by omega⟩
        unfold sideF
        rw [if_pos (by simp [cls])]
        rfl)
      have b3 := big [8295, 1488, 8297] r (by decide) (by decide) (fun f hf => by
        obtain ⟨f, rfl⟩ : ∃ m, f = m + 1 := ⟨f - 1, by omega⟩
        have ec : cls ([8295, 1488, 8297] ++ v) = [20, 2, 22] ++ cls v := rfl
        have hs := side_shift [20, 2, 22] (cls v) f 0
        have hm : mateM ([20, 2, 22] ++ cls v) 0 = some 2 := rfl
        have hg := g3 hokv f (by omega)
        rw [ec]
        unfold sideF
        rw [if_pos (by simp), hm]
        show sideF ([20, 2, 22] ++ cls v) (mateM ([20, 2, 22] ++ cls v)) f 3 = some r
        exact hs.trans hg)
      have hwc : laws_wcIn.f r 0 1 = some true := by
        rcases hr with rfl | rfl <;> rfl
      simp only [laws_FnLevelBase.j0, Bool.false_eq_true, if_false, Option.bind_some]
      rw [if_pos (by simp; omega), if_pos (by simp; omega), if_pos (by simp; omega), b1 _ (by omega)]
      simp only [Option.bind_some, if_true]
      rw [b2 _ (by omega)]
      simp only [Option.bind_some, if_true]
      rw [b3 _ (by omega)]
      simp only [Option.bind_some, if_true]
      rw [hwc]
      rfl

end Go.Proofs.Ytkapjhlcmicpnaa.Pure
