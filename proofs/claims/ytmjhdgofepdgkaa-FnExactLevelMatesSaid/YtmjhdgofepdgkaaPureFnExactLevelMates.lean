/- The program's LevelMates answers as the reference's, for all letters and classes (at most 2^20 of each: longer lists the law itself lets by), writes into no argument, and its answer is its own: the law FnExactLevelMates answers true; no condition. -/
import Derived.Test.YtmjhdgofepdgkaaPFnExactLevelMatesx7
namespace Go.Proofs.Ytmjhdgofepdgkaa.Pure
open Go.RowKit Go.Proofs.Ytmjhdgofepdgkaa.PFnExactLevelMates Go.Proofs.YtmjhdgofepdgkaaW.PrintWords Go.Proofs.YtmjhdgofepdgkaaW.PrintLast Go.Proofs.YtmjhdgofepdgkaaW.PrintMore
set_option linter.unusedVariables false
set_option linter.unusedSimpArgs false

/-! small lemmas on whole numbers, lists and rounds -/
theorem w64 {x : Int} (h : -9223372036854775808 ≤ x) (h' : x ≤ 9223372036854775807) : wrap64 x = x := by
  unfold wrap64
  omega
theorem in_i64 {x : Int} (h : (Lit.int .i64 x).wf = true) : -9223372036854775808 ≤ x ∧ x ≤ 9223372036854775807 := by
  simpa [Lit.wf, IntKind.min, IntKind.max, IntKind.bits, IntKind.signed] using h
theorem in_u8 {x : Int} (h : (Lit.int .u8 x).wf = true) : 0 ≤ x ∧ x ≤ 255 := by
  simpa [Lit.wf, IntKind.min, IntKind.max, IntKind.bits, IntKind.signed] using h
theorem rd_nat (l : List Int) (i : Nat) : rd l (i : Int) = l.getD i 0 := by
  unfold rd
  rw [Int.toNat_natCast]

theorem specMate (a : Int) : spec_RuneMate.f 8 a = some (mate a) := by
  unfold spec_RuneMate.f mate
  by_cases h1 : a = 40
  · subst h1; simp [spec_RuneMate.l0, rd, wrap64]
  by_cases h2 : a = 41
  · subst h2; simp [spec_RuneMate.l0, rd, wrap64]
  by_cases h3 : a = 91
  · subst h3; simp [spec_RuneMate.l0, rd, wrap64]
  by_cases h4 : a = 93
  · subst h4; simp [spec_RuneMate.l0, rd, wrap64]
  by_cases h5 : a = 123
  · subst h5; simp [spec_RuneMate.l0, rd, wrap64]
  by_cases h6 : a = 125
  · subst h6; simp [spec_RuneMate.l0, rd, wrap64]
  have g1 : ¬ (40 = a) := fun h => h1 h.symm
  have g2 : ¬ (41 = a) := fun h => h2 h.symm
  have g3 : ¬ (91 = a) := fun h => h3 h.symm
  have g4 : ¬ (93 = a) := fun h => h4 h.symm
  have g5 : ¬ (123 = a) := fun h => h5 h.symm
  have g6 : ¬ (125 = a) := fun h => h6 h.symm
  simp [spec_RuneMate.l0, rd, wrap64, h1, h2, h3, h4, h5, h6, g1, g2, g3, g4, g5, g6]
theorem implMate {a : Int} (h : -9223372036854775808 ≤ a) (h' : a ≤ 9223372036854775807) : impl_RuneMate.f a = some (mate a) := by
  unfold impl_RuneMate.f inI64
  simp [h, h']

/-! lists, place by place: what lies ahead of a place, the place, what lies behind -/
theorem getD_mid {α : Type} (pre : List α) (x : α) (suf : List α) (d : α) : (pre ++ x :: suf).getD ((pre.length : Int)).toNat d = x := by
  rw [Int.toNat_natCast, List.getD_eq_getElem?_getD]
  simp
theorem set_mid {α : Type} (pre : List α) (x y : α) (suf : List α) : (pre ++ x :: suf).set ((pre.length : Int)).toNat y = pre ++ y :: suf := by
  rw [Int.toNat_natCast]
  simp
theorem rd_mid (pre : List Int) (x : Int) (suf : List Int) : rd (pre ++ x :: suf) (pre.length : Int) = x := getD_mid pre x suf 0
theorem len_mid {α : Type} (pre : List α) (x : α) (suf : List α) : (pre.length : Int) < ((pre ++ x :: suf).length : Int) := by
  simp only [List.length_append, List.length_cons]
  omega
theorem len_end {α : Type} (pre : List α) : ¬ (pre.length : Int) < ((pre ++ []).length : Int) := by simp
theorem len_snoc {α : Type} (pre : List α) (x : α) : ((pre ++ [x]).length : Int) = (pre.length : Int) + 1 := by simp
theorem app_cons {α : Type} (pre : List α) (x : α) (suf : List α) : pre ++ x :: suf = (pre ++ [x]) ++ suf := by simp
theorem w64_len {n : Int} (h0 : 0 ≤ n) (h : n ≤ 9000000000000000000) : wrap64 (n + 1) = n + 1 := w64 (by omega) (by omega)

/-! brackets that go together -/
theorem mate_back (x : Int) (h : mate x ≠ 0) : mate (mate x) = x := by
  unfold mate at *
  split at h
  · subst x; decide
  split at h
  · subst x; decide
  split at h
  · subst x; decide
  split at h
  · subst x; decide
  split at h
  · subst x; decide
  split at h
  · subst x; decide
  · exact absurd rfl h
/-- the nearest one that is open and like m, and what is open below it -/
def findB (l : List Int) (m : Int) : List Nat → Option (Nat × List Nat)
  | [] => none
  | a :: st => if l.getD a 0 = m then some (a, st) else findB l m st
/-- the pairs, as they are found: n letters from i on, what is open (the last one ahead) -/
def found (l cl : List Int) : Nat → Nat → List Nat → List (Nat × Nat)
  | 0, _, _ => []
  | n + 1, i, st =>
    if mate (l.getD i 0) = 0 ∨ cl.getD i 0 ≠ 13 then found l cl n (i + 1) st
    else if l.getD i 0 < mate (l.getD i 0) then found l cl n (i + 1) (i :: st)
    else match findB l (mate (l.getD i 0)) st with
      | some (a, st') => (a, i) :: found l cl n (i + 1) st'
      | none => found l cl n (i + 1) st
theorem findB_some {l : List Int} {m : Int} : ∀ {st : List Nat} {a : Nat} {st' : List Nat}, findB l m st = some (a, st') → l.getD a 0 = m ∧ ∃ d, st = d ++ a :: st'
  | b :: st, a, st', h => by
    unfold findB at h
    by_cases hb : l.getD b 0 = m
    · rw [if_pos hb] at h
      simp only [Option.some.injEq, Prod.mk.injEq] at h
      obtain ⟨rfl, rfl⟩ := h
      exact ⟨hb, [], rfl⟩
    · rw [if_neg hb] at h
      obtain ⟨h1, d, h2⟩ := findB_some h
      exact ⟨h1, b :: d, by rw [h2]; rfl⟩
/-- what is open: the last one ahead, all below i -/
def Opn (i : Nat) (st : List Nat) : Prop := st.Pairwise (fun a b => b < a) ∧ ∀ a ∈ st, a < i
theorem Opn.up {i : Nat} {st : List Nat} (h : Opn i st) : Opn (i + 1) st := ⟨h.1, fun a ha => by have := h.2 a ha; omega⟩
theorem Opn.push {i : Nat} {st : List Nat} (h : Opn i st) : Opn (i + 1) (i :: st) := ⟨List.pairwise_cons.2 ⟨h.2, h.1⟩, fun a ha => by
  rcases List.mem_cons.1 ha with rfl | ha
  · omega
  · have := h.2 a ha; omega⟩
theorem Opn.pop {i a : Nat} {d st' : List Nat} (h : Opn i (d ++ a :: st')) : Opn (i + 1) st' ∧ a < i ∧ ∀ b ∈ st', b < a := by
  have h1 := (List.pairwise_append.1 h.1).2.1
  rw [List.pairwise_cons] at h1
  exact ⟨⟨h1.2, fun b hb => by have := h.2 b (by simp [hb]); omega⟩, h.2 a (by simp), h1.1⟩
theorem opn_len : ∀ (st : List Nat) (i : Nat), Opn i st → st.length ≤ i
  | [], i, _ => Nat.zero_le _
  | a :: st, i, h => by
    have h1 := List.pairwise_cons.1 h.1
    have ha := h.2 a List.mem_cons_self
    have := opn_len st a ⟨h1.2, h1.1⟩
    simp
    omega
/-- of two pairs, the first one found first -/
def Rp (p q : Nat × Nat) : Prop := p.2 < q.2 ∧ (q.1 < p.1 ∨ p.2 < q.1) ∧ q.1 < q.2 ∧ p.1 < p.2
theorem found_all (l cl : List Int) : ∀ (n i : Nat) (st : List Nat), Opn i st →
    (∀ p ∈ found l cl n i st, (p.1 ∈ st ∨ i ≤ p.1) ∧ p.1 < p.2 ∧ i ≤ p.2 ∧ p.2 < i + n ∧ mate (l.getD p.1 0) = l.getD p.2 0 ∧ mate (l.getD p.2 0) ≠ 0) ∧ (found l cl n i st).Pairwise Rp
  | 0, i, st, h => ⟨fun p hp => by simp [found] at hp, List.Pairwise.nil⟩
  | n + 1, i, st, h => by
    unfold found
    have skip : ∀ st2 : List Nat, Opn (i + 1) st2 → (∀ a ∈ st2, a ∈ st ∨ i ≤ a) → (∀ p ∈ found l cl n (i + 1) st2, (p.1 ∈ st ∨ i ≤ p.1) ∧ p.1 < p.2 ∧ i ≤ p.2 ∧ p.2 < i + (n + 1) ∧ mate (l.getD p.1 0) = l.getD p.2 0 ∧ mate (l.getD p.2 0) ≠ 0) ∧ (found l cl n (i + 1) st2).Pairwise Rp := by
      intro st2 h2 hs
      obtain ⟨g1, g2⟩ := found_all l cl n (i + 1) st2 h2
      refine ⟨fun p hp => ?_, g2⟩
      obtain ⟨q1, q2, q3, q4, q5⟩ := g1 p hp
      refine ⟨?_, q2, by omega, by omega, q5⟩
      rcases q1 with q | q
      · exact hs _ q
      · right; omega
    by_cases c1 : mate (l.getD i 0) = 0 ∨ cl.getD i 0 ≠ 13
    · rw [if_pos c1]
      exact skip st h.up (fun a ha => .inl ha)
    · rw [if_neg c1]
      have hm : mate (l.getD i 0) ≠ 0 := fun e => c1 (.inl e)
      by_cases c2 : l.getD i 0 < mate (l.getD i 0)
      · rw [if_pos c2]
        exact skip (i :: st) h.push (fun a ha => by
          rcases List.mem_cons.1 ha with rfl | ha
          · exact .inr (Nat.le_refl _)
          · exact .inl ha)
      · rw [if_neg c2]
        cases hf : findB l (mate (l.getD i 0)) st with
        | none => exact skip st h.up (fun a ha => .inl ha)
        | some r =>
          obtain ⟨a, st'⟩ := r
          obtain ⟨e1, d, e2⟩ := findB_some hf
          rw [e2] at h
          obtain ⟨hp, ha, hb⟩ := h.pop
          obtain ⟨g1, g2⟩ := skip st' hp (fun b hb => .inl (by rw [e2]; simp [hb]))
          obtain ⟨f1, _⟩ := found_all l cl n (i + 1) st' hp
          refine ⟨fun p hpm => ?_, List.pairwise_cons.2 ⟨fun q hq => ?_, g2⟩⟩
          · rcases List.mem_cons.1 hpm with rfl | hpm
            · refine ⟨.inl (by rw [e2]; simp), ha, Nat.le_refl _, by omega, ?_, hm⟩
              show mate (l.getD a 0) = l.getD i 0
              rw [e1, mate_back _ hm]
            · exact g1 p hpm
          · obtain ⟨q1, q2, q3, q4, _⟩ := f1 q hq
            refine ⟨by show i < q.2; omega, ?_, q2, ha⟩
            rcases q1 with q | q
            · exact .inl (hb _ q)
            · right; show i < _; omega
theorem pw_all {α : Type} {R : α → α → Prop} : ∀ {F : List α}, F.Pairwise R → (∀ {a b}, R a b → R b a) → ∀ {a b : α}, a ∈ F → b ∈ F → a ≠ b → R a b
  | [], _, _, a, b, ha, _, _ => by simp at ha
  | x :: F, h, hs, a, b, ha, hb, hab => by
    rw [List.pairwise_cons] at h
    rcases List.mem_cons.1 ha with e1 | ha'
    · rcases List.mem_cons.1 hb with e2 | hb'
      · exact absurd (e1.trans e2.symm) hab
      · rw [e1]; exact h.1 b hb'
    · rcases List.mem_cons.1 hb with e2 | hb'
      · rw [e2]; exact hs (h.1 a ha')
      · exact pw_all h.2 hs ha' hb' hab
/-- a pair as a row -/
def pr (p : Nat × Nat) : List Int := [(p.1 : Int), (p.2 : Int)]
def le0 (a b : List Int) : Bool := decide (rd a 0 ≤ rd b 0)
def pins (p : Nat × Nat) : List (Nat × Nat) → List (Nat × Nat)
  | [] => [p]
  | q :: r => if q.1 < p.1 then q :: pins p r else p :: q :: r
theorem pins_perm (p : Nat × Nat) : ∀ l, (pins p l).Perm (p :: l)
  | [] => List.Perm.refl _
  | q :: r => by
    unfold pins
    split
    · exact ((pins_perm p r).cons q).trans (List.Perm.swap p q r)
    · exact List.Perm.refl _
theorem pins_sorted (p : Nat × Nat) : ∀ l : List (Nat × Nat), l.Pairwise (fun a b => a.1 < b.1) → (∀ q ∈ l, q.1 ≠ p.1) → (pins p l).Pairwise (fun a b => a.1 < b.1)
  | [], _, _ => by simp [pins]
  | q :: r, h, hn => by
    unfold pins
    rw [List.pairwise_cons] at h
    split
    · rename_i c
      refine List.pairwise_cons.2 ⟨fun x hx => ?_, pins_sorted p r h.2 (fun z hz => hn z (List.mem_cons_of_mem _ hz))⟩
      rcases List.mem_cons.1 ((pins_perm p r).mem_iff.1 hx) with rfl | hx
      · exact c
      · exact h.1 x hx
    · rename_i c
      have := hn q List.mem_cons_self
      refine List.pairwise_cons.2 ⟨fun x hx => ?_, List.pairwise_cons.2 h⟩
      rcases List.mem_cons.1 hx with rfl | hx
      · omega
      · have := h.1 x hx; omega
def pinsAll (F out : List (Nat × Nat)) : List (Nat × Nat) := F.foldl (fun o p => pins p o) out
theorem pinsAll_all : ∀ (F out : List (Nat × Nat)), out.Pairwise (fun a b => a.1 < b.1) → (out ++ F).Pairwise (fun a b => a.1 ≠ b.1) → (pinsAll F out).Perm (out ++ F) ∧ (pinsAll F out).Pairwise (fun a b => a.1 < b.1)
  | [], out, h, _ => ⟨by simp [pinsAll], h⟩
  | p :: F, out, h, hn => by
    have h1 := List.pairwise_append.1 hn
    have hp : (pins p out ++ F).Perm (out ++ p :: F) := ((pins_perm p out).append_right F).trans List.perm_middle.symm
    obtain ⟨g1, g2⟩ := pinsAll_all F (pins p out) (pins_sorted p out h (fun q hq => h1.2.2 q hq p List.mem_cons_self)) ((hp.pairwise_iff (fun e => e.symm)).2 hn)
    exact ⟨g1.trans hp, g2⟩
theorem Rp_ne {p q : Nat × Nat} (h : Rp p q) : p.1 ≠ q.1 := by
  obtain ⟨h1, h2, h3, h4⟩ := h
  omega
theorem sort_is (F : List (Nat × Nat)) (h : F.Pairwise Rp) : (F.map pr).mergeSort (fun a b => decide (rd a 0 ≤ rd b 0)) = (pinsAll F []).map pr := by
  have hne : F.Pairwise (fun a b => a.1 ≠ b.1) := h.imp Rp_ne
  obtain ⟨g1, g2⟩ := pinsAll_all F [] List.Pairwise.nil (by simpa using hne)
  rw [← List.map_mergeSort (r := fun a b : Nat × Nat => decide (a.1 ≤ b.1))]
  · congr 1
    have hs : ((F.mergeSort fun a b => decide (a.1 ≤ b.1))).Pairwise (fun a b => a.1 ≤ b.1) := by
      have := List.pairwise_mergeSort (le := fun a b : Nat × Nat => decide (a.1 ≤ b.1)) (by intro a b c h1 h2; simp at *; omega) (by intro a b; simp; omega) F
      exact this.imp (fun h => by simpa using h)
    refine List.Perm.eq_of_pairwise (le := fun a b => a.1 ≤ b.1) ?_ hs (g2.imp (fun h => Nat.le_of_lt h)) ((List.mergeSort_perm _ _).trans (by simpa using g1.symm))
    intro a b ha hb h1 h2
    have ma := (List.mergeSort_perm F _).mem_iff.1 ha
    have mb : b ∈ F := by simpa using g1.mem_iff.1 hb
    have e : a.1 = b.1 := Nat.le_antisymm h1 h2
    refine Classical.byContradiction fun hab => ?_
    exact pw_all hne (fun h => h.symm) ma mb hab e
  · intro a _ b _
    simp [pr, rd]

theorem specIn (a b c : Int) : spec_l1In.f a b c = some (decide (b ≤ a ∧ a ≤ c)) := by
  unfold spec_l1In.f
  by_cases h1 : b ≤ a <;> by_cases h2 : a ≤ c <;> simp [h1, h2]

/-- letters that may be clustered -/
def okT (l : List Int) : Bool := decide ((l.length : Int) ≤ 80) && l.all isL
theorem specSize (x : Int) : ∃ n, spec_l1Size.f x = some n ∧ (n = 0 ↔ isL x = false) := by
  unfold spec_l1Size.f isL
  simp only [specIn, Option.bind_some, decide_eq_true_eq]
  by_cases h1 : 0 ≤ x ∧ x ≤ 127
  · exact ⟨1, by rw [if_pos h1], by simp; omega⟩
  by_cases h2 : 128 ≤ x ∧ x ≤ 2047
  · exact ⟨2, by rw [if_neg h1, if_pos h2], by simp; omega⟩
  by_cases h3 : 55296 ≤ x ∧ x ≤ 57343
  · exact ⟨0, by rw [if_neg h1, if_neg h2, if_pos h3], by simp; omega⟩
  by_cases h4 : 2048 ≤ x ∧ x ≤ 65535
  · exact ⟨3, by rw [if_neg h1, if_neg h2, if_neg h3, if_pos h4], by simp; omega⟩
  by_cases h5 : 65536 ≤ x ∧ x ≤ 1114111
  · exact ⟨4, by rw [if_neg h1, if_neg h2, if_neg h3, if_neg h4, if_pos h5], by simp; omega⟩
  · exact ⟨0, by rw [if_neg h1, if_neg h2, if_neg h3, if_neg h4, if_neg h5], by simp; omega⟩
theorem okT_len {l : List Int} (h : okT l = true) : l.length ≤ 80 := by
  unfold okT at h
  simp only [Bool.and_eq_true, decide_eq_true_eq] at h
  omega

theorem implLettersOk (l : List Int) : impl_lettersOk.f l = some (okT l) := by
  unfold impl_lettersOk.f okT
  congr 2
  induction l with
  | nil => rfl
  | cons x r ih => simp only [List.any_cons, List.all_cons, Bool.not_or, Bool.not_not, ih]

theorem specL1Ok_l0 : ∀ (suf pre : List Int) (k : Nat), (pre ++ suf).length ≤ 1048576 → suf.length + 1 ≤ k →
    spec_l1Ok.l0 k (pre ++ suf) (pre.length : Int) = some (decide (((pre ++ suf).length : Int) ≤ 80) && suf.all isL)
  | [], pre, k, hl, hk => by
    obtain ⟨k, rfl⟩ : ∃ m, k = m + 1 := ⟨k - 1, by simp at hk; omega⟩
    simp only [spec_l1Ok.l0]
    rw [if_neg (len_end pre)]
    simp
  | x :: suf, pre, k, hl, hk => by
    obtain ⟨k, rfl⟩ : ∃ m, k = m + 1 := ⟨k - 1, by simp at hk; omega⟩
    have hp : (pre.length : Int) ≤ 1048576 := by simp at hl; omega
    have ih := specL1Ok_l0 suf (pre ++ [x]) k (by simpa using hl) (by simp at hk; omega)
    rw [len_snoc, ← app_cons] at ih
    obtain ⟨n, e, hn⟩ := specSize x
    simp only [spec_l1Ok.l0]
    rw [if_pos (len_mid pre x suf), if_pos (by omega), rd_mid, e, w64_len (by omega) (by omega), ih]
    simp only [Option.bind_some, List.all_cons]
    cases h : isL x with
    | false => rw [if_pos (hn.2 h)]; simp
    | true => rw [if_neg (fun g => by rw [hn.1 g] at h; cases h)]; simp
theorem specL1Ok (l : List Int) (hl : l.length ≤ 1048576) (k : Nat) (hk : l.length + 1 ≤ k) : spec_l1Ok.f k l = some (okT l) := specL1Ok_l0 l [] k (by simpa using hl) hk

def okK (l : List Int) : Bool := decide ((l.length : Int) ≤ 80) && !(l.any fun x => noCl x)
def stL (st : List Nat) : List Int := st.reverse.map fun a : Nat => (a : Int)
theorem stL_len (st : List Nat) : (stL st).length = st.length := by simp [stL]
theorem stL_push (st : List Nat) (i : Nat) : stL (i :: st) = stL st ++ [(i : Int)] := by simp [stL]
theorem stL_app (d st : List Nat) : stL (d ++ st) = stL st ++ stL d := by simp [stL]
theorem stL_rd (d : List Nat) (a : Nat) (st : List Nat) : rd (stL (d ++ a :: st)) (st.length : Int) = (a : Int) := by
  rw [stL_app, stL_push, List.append_assoc]
  have := rd_mid (stL st) (a : Int) (stL d)
  rw [stL_len] at this
  exact this
theorem stL_take (d st : List Nat) : (stL (d ++ st)).take st.length = stL st := by
  rw [stL_app, ← stL_len st]
  simp
theorem rd_getD (l : List Int) (i : Nat) : rd l (i : Int) = l.getD i 0 := rd_nat l i
theorem okT_in {l : List Int} (h : okT l = true) (i : Nat) (hi : i < l.length) : -9223372036854775808 ≤ l.getD i 0 ∧ l.getD i 0 ≤ 9223372036854775807 := by
  unfold okT at h
  rw [Bool.and_eq_true, List.all_eq_true] at h
  have := h.2 _ (List.getElem_mem hi)
  rw [List.getD_eq_getElem?_getD, List.getElem?_eq_getElem hi]
  unfold isL at this
  simp only [Option.getD_some]
  simp at this
  omega
/-! the program -/
theorem implSearch (l cl : List Int) (out : List (Nat × Nat)) (st0 : List Nat) (i : Nat) (hl : l.length ≤ 80) (hi : i < l.length) (hst : ∀ a ∈ st0, a < l.length) (hout : out.length ≤ 1000) : ∀ (st d : List Nat) (k : Nat), st0 = d ++ st → st.length + 1 ≤ k → st.length ≤ 1000 →
    ∃ k', k' + st.length + 1 ≥ k ∧ k' < k ∧ impl_LevelMates.l1 k l cl (stL st0) (out.map pr) (i : Int) (mate (l.getD i 0)) ((st.length : Int) - 1) l (l.length : Int) (i : Int) =
      match findB l (mate (l.getD i 0)) st with
      | some (a, st') => impl_LevelMates.l0 k' l cl (stL st') ((out ++ [(a, i)]).map pr) l (l.length : Int) ((i : Int) + 1)
      | none => impl_LevelMates.l0 k' l cl (stL st0) (out.map pr) l (l.length : Int) ((i : Int) + 1)
  | [], d, k, he, hk, hs => by
    obtain ⟨k, rfl⟩ : ∃ m, k = m + 1 := ⟨k - 1, by simp at hk; omega⟩
    refine ⟨k, by simp, by omega, ?_⟩
    simp only [impl_LevelMates.l1, findB]
    rw [if_neg (by simp), w64_len (by omega) (by omega)]
  | a :: st, d, k, he, hk, hs => by
    obtain ⟨k, rfl⟩ : ∃ m, k = m + 1 := ⟨k - 1, by simp at hk; omega⟩
    have e1 : ((a :: st).length : Int) - 1 = (st.length : Int) := by simp
    have e2 : rd (stL st0) (st.length : Int) = (a : Int) := by rw [he]; exact stL_rd d a st
    have e3 : (st.length : Int) < ((stL st0).length : Int) := by rw [stL_len, he]; simp; omega
    have ha : a < l.length := hst a (by rw [he]; simp)
    simp at hs
    simp only [impl_LevelMates.l1]
    rw [e1, if_pos (by omega), if_pos (by omega), if_pos e3, e2, if_pos (by omega), if_pos (by omega), rd_getD]
    unfold findB
    by_cases hc : l.getD a 0 = mate (l.getD i 0)
    · refine ⟨k, by omega, by omega, ?_⟩
      rw [if_pos hc, if_pos hc, if_pos (by simp; omega), if_pos (by omega), w64_len (by omega) (by omega), Int.toNat_natCast]
      have : (stL st0).take st.length = stL st := by
        rw [he, show d ++ a :: st = (d ++ [a]) ++ st by simp]
        exact stL_take (d ++ [a]) st
      rw [this]
      simp [pr]
    · obtain ⟨k', h1, h2, h3⟩ := implSearch l cl out st0 i hl hi hst hout st (d ++ [a]) k (by rw [he]; simp) (by simp at hk; omega) (by omega)
      refine ⟨k', by simp; omega, by omega, ?_⟩
      rw [if_neg hc, if_neg hc, w64 (by omega) (by omega), h3]
theorem implMates (l cl : List Int) (ho : okT l = true) (hcl : cl.length = l.length) : ∀ (n i : Nat) (st : List Nat) (out : List (Nat × Nat)) (k : Nat), i + n = l.length → Opn i st → out.length ≤ i → n * 200 + 1 ≤ k →
    impl_LevelMates.l0 k l cl (stL st) (out.map pr) l (l.length : Int) (i : Int) = sortR ((out ++ found l cl n i st).map pr)
  | 0, i, st, out, k, hi, hst, hout, hk => by
    obtain ⟨k, rfl⟩ : ∃ m, k = m + 1 := ⟨k - 1, by omega⟩
    simp only [impl_LevelMates.l0, found]
    rw [if_neg (by omega), List.append_nil]
  | n + 1, i, st, out, k, hi, hst, hout, hk => by
    have h80 := okT_len ho
    obtain ⟨k, rfl⟩ : ∃ m, k = m + 2 := ⟨k - 2, by omega⟩
    have hil : i < l.length := by omega
    have hin := okT_in ho i hil
    have e1 : wrap64 ((i : Int) + 1) = ((i + 1 : Nat) : Int) := by rw [w64 (by omega) (by omega)]; rfl
    have hstl : st.length ≤ i := by
      have := hst
      exact opn_len st i this
    rw [impl_LevelMates.l0, if_pos (by omega), if_pos (by omega), if_pos (by omega), rd_getD, implMate hin.1 hin.2]
    simp only [Option.bind_some]
    unfold found
    have skip : ∀ (st2 : List Nat) (out2 : List (Nat × Nat)) (k2 : Nat), Opn (i + 1) st2 → out2.length ≤ i + 1 → n * 200 + 1 ≤ k2 → impl_LevelMates.l0 k2 l cl (stL st2) (out2.map pr) l (l.length : Int) ((i + 1 : Nat) : Int) = sortR ((out2 ++ found l cl n (i + 1) st2).map pr) := fun st2 out2 k2 h1 h2 h3 =>
      implMates l cl ho hcl n (i + 1) st2 out2 k2 (by omega) h1 h2 h3
    by_cases c1 : mate (l.getD i 0) = 0
    · rw [if_pos c1, if_pos (.inl c1), impl_LevelMates.j2, if_pos rfl, e1]
      exact skip st out k hst.up (by omega) (by omega)
    · rw [if_neg c1, if_pos (by omega), rd_getD]
      by_cases c2 : cl.getD i 0 ≠ 13
      · rw [if_pos (.inr c2), show (cl.getD i 0 != 13) = true from bne_iff_ne.2 c2, impl_LevelMates.j2, if_pos rfl, e1]
        exact skip st out k hst.up (by omega) (by omega)
      · rw [if_neg (fun h => h.elim c1 c2), show (cl.getD i 0 != 13) = false from by simpa using c2, impl_LevelMates.j2, if_neg (by decide)]
        by_cases c3 : l.getD i 0 < mate (l.getD i 0)
        · rw [if_pos c3, if_pos c3, if_pos (by rw [stL_len]; omega), e1, ← stL_push]
          exact skip (i :: st) out k hst.push (by omega) (by omega)
        · rw [if_neg c3, if_neg c3, stL_len, w64 (by omega) (by omega)]
          obtain ⟨k', h1, h2, h3⟩ := implSearch l cl out st i h80 hil (fun a ha => by have := hst.2 a ha; omega) (by omega) st [] k rfl (by omega) (by omega)
          rw [h3]
          cases hf : findB l (mate (l.getD i 0)) st with
          | none =>
            show impl_LevelMates.l0 k' l cl (stL st) (out.map pr) l (l.length : Int) ((i + 1 : Nat) : Int) = _
            exact skip st out k' hst.up (by omega) (by omega)
          | some r =>
            obtain ⟨a, st'⟩ := r
            obtain ⟨_, d, e2⟩ := findB_some hf
            rw [e2] at hst
            show impl_LevelMates.l0 k' l cl (stL st') ((out ++ [(a, i)]).map pr) l (l.length : Int) ((i + 1 : Nat) : Int) = _
            rw [skip st' (out ++ [(a, i)]) k' hst.pop.1 (by simp; omega) (by omega)]
            simp
def matesF (l cl : List Int) : List (Nat × Nat) := found l cl l.length 0 []
def matesL (l cl : List Int) : List (List Int) := if okT l = true ∧ cl.length = l.length ∧ okK cl = true then (pinsAll (matesF l cl) []).map pr else []
theorem opn_nil : Opn 0 [] := ⟨List.Pairwise.nil, fun a ha => by simp at ha⟩
theorem found_len (l cl : List Int) : ∀ (n i : Nat) (st : List Nat), (found l cl n i st).length ≤ n
  | 0, i, st => by simp [found]
  | n + 1, i, st => by
    unfold found
    split
    · have := found_len l cl n (i + 1) st; omega
    · split
      · have := found_len l cl n (i + 1) (i :: st); omega
      · split
        · rename_i a st' _
          have := found_len l cl n (i + 1) st'
          simp; omega
        · have := found_len l cl n (i + 1) st; omega
theorem mates_ok (l cl : List Int) (hl : l.length ≤ 80) : sortR ((matesF l cl).map pr) = some ((pinsAll (matesF l cl) []).map pr) := by
  obtain ⟨h1, h2⟩ := found_all l cl l.length 0 [] opn_nil
  unfold sortR
  rw [if_pos, sort_is (matesF l cl) h2]
  have h3 := found_len l cl l.length 0 []
  refine ⟨by simp [matesF]; omega, fun x hx => ?_, ?_⟩
  · obtain ⟨p, hp, rfl⟩ := List.mem_map.1 hx
    obtain ⟨_, q2, _, q4, _⟩ := h1 p hp
    refine ⟨by simp [pr], by simp [pr, rd], ?_⟩
    simp [pr, rd]; omega
  · rw [List.map_map, List.nodup_iff_pairwise_ne, List.pairwise_map]
    refine h2.imp (fun {a b} h => ?_)
    have := Rp_ne h
    simp [pr, rd]
    omega
theorem implLevelMates (l cl : List Int) (k : Nat) (hk : 20000 ≤ k) : impl_LevelMates.f k l cl = some (matesL l cl) := by
  unfold impl_LevelMates.f matesL
  rw [implLettersOk]
  simp only [Option.bind_some]
  obtain ⟨k, rfl⟩ : ∃ m, k = m + 1 := ⟨k - 1, by omega⟩
  by_cases h1 : okT l = true
  · rw [if_pos h1]
    by_cases h2 : cl.length = l.length
    · rw [if_pos (by omega)]
      unfold impl_classesOk.f
      simp only [Option.bind_some]
      by_cases h3 : okK cl = true
      · rw [if_pos ⟨h1, h2, h3⟩]
        unfold okK at h3
        rw [h3, impl_LevelMates.j0, if_neg (by decide)]
        have h80 := okT_len h1
        have := implMates l cl h1 h2 l.length 0 [] [] k (by omega) opn_nil (by simp) (by omega)
        rw [show stL [] = ([] : List Int) from rfl] at this
        simp only [List.map_nil, List.nil_append, Int.ofNat_zero] at this
        rw [this]
        exact mates_ok l cl h80
      · rw [if_neg (fun g => h3 g.2.2)]
        unfold okK at h3
        rw [Bool.not_eq_true] at h3
        rw [h3, impl_LevelMates.j0, if_pos (by decide)]
    · rw [if_neg (by omega), if_neg (fun g => h2 g.2.1), impl_LevelMates.j0, if_pos rfl]
  · rw [if_neg h1, if_neg (fun g => h1 g.1), impl_LevelMates.j0, if_pos rfl]

theorem specClassesK_l0 : ∀ (suf pre : List Int) (k : Nat), (pre ++ suf).length ≤ 1048576 → suf.length + 1 ≤ k →
    spec_l3Classes.l0 k (pre ++ suf) (pre.length : Int) = some (decide (((pre ++ suf).length : Int) ≤ 80) && !(suf.any fun x => noCl x))
  | [], pre, k, hl, hk => by
    obtain ⟨k, rfl⟩ : ∃ m, k = m + 1 := ⟨k - 1, by simp at hk; omega⟩
    simp only [spec_l3Classes.l0]
    rw [if_neg (len_end pre)]
    simp
  | x :: suf, pre, k, hl, hk => by
    obtain ⟨k, rfl⟩ : ∃ m, k = m + 1 := ⟨k - 1, by simp at hk; omega⟩
    have hp : (pre.length : Int) ≤ 1048576 := by simp at hl; omega
    have ih := specClassesK_l0 suf (pre ++ [x]) k (by simpa using hl) (by simp at hk; omega)
    rw [len_snoc, ← app_cons] at ih
    simp only [spec_l3Classes.l0]
    rw [if_pos (len_mid pre x suf), if_pos (by omega), rd_mid, specIn, w64_len (by omega) (by omega), ih]
    simp only [Option.bind_some, decide_eq_true_eq, List.any_cons]
    have hn : noCl x = !decide (1 ≤ x ∧ x ≤ 22) := by
      unfold noCl
      by_cases h1 : 1 ≤ x
      · rw [decide_eq_false (show ¬ x < 1 by omega)]
        by_cases h2 : x ≤ 22
        · rw [decide_eq_false (show ¬ 22 < x by omega), decide_eq_true (show 1 ≤ x ∧ x ≤ 22 from ⟨h1, h2⟩)]; rfl
        · rw [decide_eq_true (show 22 < x by omega), decide_eq_false (show ¬ (1 ≤ x ∧ x ≤ 22) by omega)]; rfl
      · rw [decide_eq_true (show x < 1 by omega), decide_eq_false (show ¬ (1 ≤ x ∧ x ≤ 22) by omega)]; rfl
    rw [hn]
    by_cases h : 1 ≤ x ∧ x ≤ 22
    · rw [if_pos h, decide_eq_true h]
      simp
    · rw [if_neg h, decide_eq_false h]
      simp
theorem specClassesK (l : List Int) (hl : l.length ≤ 1048576) (k : Nat) (hk : l.length + 1 ≤ k) : spec_l3Classes.f k l = some (okK l) := specClassesK_l0 l [] k (by simpa using hl) hk
theorem specMateK (a : Int) (k : Nat) (hk : 8 ≤ k) : spec_RuneMate.f k a = some (mate a) := by
  obtain ⟨k, rfl⟩ : ∃ m, k = m + 8 := ⟨k - 8, by omega⟩
  unfold spec_RuneMate.f mate
  by_cases h1 : a = 40
  · subst h1; simp [spec_RuneMate.l0, rd, wrap64]
  by_cases h2 : a = 41
  · subst h2; simp [spec_RuneMate.l0, rd, wrap64]
  by_cases h3 : a = 91
  · subst h3; simp [spec_RuneMate.l0, rd, wrap64]
  by_cases h4 : a = 93
  · subst h4; simp [spec_RuneMate.l0, rd, wrap64]
  by_cases h5 : a = 123
  · subst h5; simp [spec_RuneMate.l0, rd, wrap64]
  by_cases h6 : a = 125
  · subst h6; simp [spec_RuneMate.l0, rd, wrap64]
  have g1 : ¬ (40 = a) := fun h => h1 h.symm
  have g2 : ¬ (41 = a) := fun h => h2 h.symm
  have g3 : ¬ (91 = a) := fun h => h3 h.symm
  have g4 : ¬ (93 = a) := fun h => h4 h.symm
  have g5 : ¬ (123 = a) := fun h => h5 h.symm
  have g6 : ¬ (125 = a) := fun h => h6 h.symm
  simp [spec_RuneMate.l0, rd, wrap64, h1, h2, h3, h4, h5, h6, g1, g2, g3, g4, g5, g6]
theorem rdL_mid (pre : List (List Int)) (x : List Int) (suf : List (List Int)) : rd_L1 (pre ++ x :: suf) (pre.length : Int) = x := getD_mid pre x suf []
theorem specInto_l0 (p : Nat × Nat) : ∀ (suf pre : List (Nat × Nat)) (k : Nat), (pre ++ suf).length ≤ 1000 → suf.length + 1 ≤ k →
    spec_l3Into.l0 k ((pre ++ suf).map pr) (pr p) (pre.length : Int) = some ((pre ++ pins p suf).map pr)
  | [], pre, k, hl, hk => by
    obtain ⟨k, rfl⟩ : ∃ m, k = m + 1 := ⟨k - 1, by simp at hk; omega⟩
    simp only [spec_l3Into.l0]
    rw [if_neg (by simp)]
    simp at hl
    simp [pins]
    refine ⟨by omega, by omega, ?_⟩
    rw [List.take_of_length_le (by simp), List.drop_of_length_le (by simp)]
  | q :: suf, pre, k, hl, hk => by
    obtain ⟨k, rfl⟩ : ∃ m, k = m + 1 := ⟨k - 1, by simp at hk; omega⟩
    have hp : (pre.length : Int) ≤ 1048576 := by simp at hl; omega
    have ih := specInto_l0 p suf (pre ++ [q]) k (by simpa using hl) (by simp at hk; omega)
    rw [len_snoc, ← app_cons] at ih
    have e1 : rd_L1 ((pre ++ q :: suf).map pr) (pre.length : Int) = pr q := by
      have := rdL_mid (pre.map pr) (pr q) (suf.map pr)
      rw [List.length_map] at this
      simpa using this
    simp only [spec_l3Into.l0]
    rw [if_pos (by simp; omega), if_pos (by omega), e1, if_pos (by simp [pr]), if_pos (by simp [pr]), w64_len (by omega) (by omega), ih]
    have e2 : rd (pr q) 0 = (q.1 : Int) := rfl
    have e3 : rd (pr p) 0 = (p.1 : Int) := rfl
    rw [e2, e3]
    have ep : pins p (q :: suf) = if q.1 < p.1 then q :: pins p suf else p :: q :: suf := rfl
    rw [ep]
    by_cases c : q.1 < p.1
    · rw [if_pos (by omega), if_pos c]
      simp
    · rw [if_neg (by omega), if_neg c]
      simp only [Option.bind_some]
      have hl2 : pre.length + (suf.length + 1) ≤ 1000 := by simpa using hl
      rw [if_pos (by simp; omega), if_pos (by simp; omega), if_pos (by simp; omega), if_pos (by simp; omega), Int.toNat_natCast]
      simp
theorem specSearch (l cl : List Int) (O : List (List Int)) (P : List (Nat × Nat)) (hO : O = P.map pr) (st0 : List Nat) (i : Nat) (hl : l.length ≤ 80) (hi : i < l.length) (hst : ∀ a ∈ st0, a < l.length) (hP : P.length ≤ 900) : ∀ (st d : List Nat) (k : Nat), st0 = d ++ st → st.length + 1001 ≤ k → st.length ≤ 1000 →
    ∃ k', k' + st.length + 1 ≥ k ∧ k' < k ∧ spec_l3Mates.l1 k l cl O (stL st0) (i : Int) (mate (l.getD i 0)) ((st.length : Int) - 1) =
      match findB l (mate (l.getD i 0)) st with
      | some (a, st') => spec_l3Mates.l0 k' l cl ((pins (a, i) P).map pr) (stL st') ((i : Int) + 1)
      | none => spec_l3Mates.l0 k' l cl O (stL st0) ((i : Int) + 1)
  | [], d, k, he, hk, hs => by
    obtain ⟨k, rfl⟩ : ∃ m, k = m + 1 := ⟨k - 1, by simp at hk; omega⟩
    refine ⟨k, by simp, by omega, ?_⟩
    simp only [spec_l3Mates.l1, findB]
    rw [if_neg (by simp), w64_len (by omega) (by omega)]
  | a :: st, d, k, he, hk, hs => by
    obtain ⟨k, rfl⟩ : ∃ m, k = m + 1 := ⟨k - 1, by simp at hk; omega⟩
    have e1 : ((a :: st).length : Int) - 1 = (st.length : Int) := by simp
    have e2 : rd (stL st0) (st.length : Int) = (a : Int) := by rw [he]; exact stL_rd d a st
    have e3 : (st.length : Int) < ((stL st0).length : Int) := by rw [stL_len, he]; simp; omega
    have ha : a < l.length := hst a (by rw [he]; simp)
    simp at hs hk
    simp only [spec_l3Mates.l1]
    rw [e1, if_pos (by omega), if_pos (by omega), if_pos e3, e2, if_pos (by omega), if_pos (by omega), rd_getD]
    unfold findB
    by_cases hc : l.getD a 0 = mate (l.getD i 0)
    · refine ⟨k, by simp <;> omega, by omega, ?_⟩
      have e4 : spec_l3Into.f k O [(a : Int), (i : Int)] = some ((pins (a, i) P).map pr) := by
        rw [hO]
        exact specInto_l0 (a, i) P [] k (by simpa using Nat.le_trans hP (by omega)) (by omega)
      rw [if_pos hc, if_pos hc, e4]
      simp only [Option.bind_some]
      rw [if_pos (by omega), w64_len (by omega) (by omega), Int.toNat_natCast]
      have : (stL st0).take st.length = stL st := by
        rw [he, show d ++ a :: st = (d ++ [a]) ++ st by simp]
        exact stL_take (d ++ [a]) st
      rw [this]
    · obtain ⟨k', h1, h2, h3⟩ := specSearch l cl O P hO st0 i hl hi hst hP st (d ++ [a]) k (by rw [he]; simp) (by omega) (by omega)
      refine ⟨k', by simp; omega, by omega, ?_⟩
      rw [if_neg hc, if_neg hc, w64 (by omega) (by omega), h3]
theorem pins_len (p : Nat × Nat) (l : List (Nat × Nat)) : (pins p l).length = l.length + 1 := (pins_perm p l).length_eq
theorem specMates (l cl : List Int) (ho : okT l = true) (hcl : cl.length = l.length) : ∀ (n i : Nat) (st : List Nat) (P : List (Nat × Nat)) (k : Nat), i + n = l.length → Opn i st → P.length ≤ i → n * 200 + 2000 ≤ k →
    spec_l3Mates.l0 k l cl (P.map pr) (stL st) (i : Int) = some ((pinsAll (found l cl n i st) P).map pr)
  | 0, i, st, P, k, hi, hst, hout, hk => by
    obtain ⟨k, rfl⟩ : ∃ m, k = m + 1 := ⟨k - 1, by omega⟩
    simp only [spec_l3Mates.l0, found]
    rw [if_neg (by omega)]
    rfl
  | n + 1, i, st, P, k, hi, hst, hout, hk => by
    have h80 := okT_len ho
    obtain ⟨k, rfl⟩ : ∃ m, k = m + 2 := ⟨k - 2, by omega⟩
    have hil : i < l.length := by omega
    have e1 : wrap64 ((i : Int) + 1) = ((i + 1 : Nat) : Int) := by rw [w64 (by omega) (by omega)]; rfl
    have hstl : st.length ≤ i := opn_len st i hst
    rw [spec_l3Mates.l0, if_pos (by omega), if_pos (by omega), rd_getD, specMateK _ _ (by omega)]
    simp only [Option.bind_some]
    unfold found
    have skip : ∀ (st2 : List Nat) (P2 : List (Nat × Nat)) (k2 : Nat), Opn (i + 1) st2 → P2.length ≤ i + 1 → n * 200 + 2000 ≤ k2 → spec_l3Mates.l0 k2 l cl (P2.map pr) (stL st2) ((i + 1 : Nat) : Int) = some ((pinsAll (found l cl n (i + 1) st2) P2).map pr) := fun st2 P2 k2 h1 h2 h3 =>
      specMates l cl ho hcl n (i + 1) st2 P2 k2 (by omega) h1 h2 h3
    by_cases c1 : mate (l.getD i 0) = 0
    · rw [if_pos c1, if_pos (.inl c1), spec_l3Mates.j1, if_pos rfl, e1]
      exact skip st P k hst.up (by omega) (by omega)
    · rw [if_neg c1, if_pos (by omega), rd_getD]
      by_cases c2 : cl.getD i 0 ≠ 13
      · rw [if_pos (.inr c2), show (cl.getD i 0 != 13) = true from bne_iff_ne.2 c2, spec_l3Mates.j1, if_pos rfl, e1]
        exact skip st P k hst.up (by omega) (by omega)
      · rw [if_neg (fun h => h.elim c1 c2), show (cl.getD i 0 != 13) = false from by simpa using c2, spec_l3Mates.j1, if_neg (by decide), if_pos (by omega), if_pos (by omega), rd_getD]
        by_cases c3 : l.getD i 0 < mate (l.getD i 0)
        · rw [if_pos c3, if_pos c3, if_pos (by rw [stL_len]; omega), e1, ← stL_push]
          exact skip (i :: st) P k hst.push (by omega) (by omega)
        · rw [if_neg c3, if_neg c3, stL_len, w64 (by omega) (by omega)]
          obtain ⟨k', h1, h2, h3⟩ := specSearch l cl _ P rfl st i h80 hil (fun a ha => by have := hst.2 a ha; omega) (by omega) st [] k rfl (by omega) (by omega)
          rw [h3]
          cases hf : findB l (mate (l.getD i 0)) st with
          | none =>
            show spec_l3Mates.l0 k' l cl (P.map pr) (stL st) ((i + 1 : Nat) : Int) = _
            exact skip st P k' hst.up (by omega) (by omega)
          | some r =>
            obtain ⟨a, st'⟩ := r
            obtain ⟨_, d, e2⟩ := findB_some hf
            rw [e2] at hst
            show spec_l3Mates.l0 k' l cl ((pins (a, i) P).map pr) (stL st') ((i + 1 : Nat) : Int) = _
            rw [skip st' (pins (a, i) P) k' hst.pop.1 (by rw [pins_len]; omega) (by omega)]
            rfl
theorem specLevelMates (l cl : List Int) (hl : l.length ≤ 1048576) (hc : cl.length ≤ 1048576) (k : Nat) (hk : l.length + cl.length + 20000 ≤ k) : spec_LevelMates.f k l cl = some (matesL l cl) := by
  unfold spec_LevelMates.f matesL
  rw [specL1Ok l hl k (by omega)]
  simp only [Option.bind_some]
  by_cases h1 : okT l = true
  · rw [if_pos h1, specClassesK cl hc k (by omega)]
    simp only [Option.bind_some]
    by_cases h3 : okK cl = true
    · rw [if_pos h3]
      by_cases h2 : cl.length = l.length
      · rw [if_pos (by omega), if_pos ⟨h1, h2, h3⟩]
        have h80 := okT_len h1
        have := specMates l cl h1 h2 l.length 0 [] [] k (by omega) opn_nil (by simp) (by omega)
        unfold spec_l3Mates.f
        rw [show stL [] = ([] : List Int) from rfl] at this
        simp only [List.map_nil, Int.ofNat_zero] at this
        rw [this]
        rfl
      · rw [if_neg (by omega), if_neg (fun g => h2 g.2.1)]
    · rw [if_neg h3, if_neg (fun g => h3 g.2.2)]
  · rw [if_neg h1, if_neg (fun g => h1 g.1)]

theorem toIntS_l0 : ∀ (suf pre rest : List Int) (k : Nat), rest.length = suf.length → (pre ++ suf).length ≤ 1048576 → suf.length + 1 ≤ k → laws_toIntS.l0 k (pre ++ suf) (pre ++ rest) (pre.length : Int) = some (pre ++ suf)
  | [], pre, rest, k, hr, hl, hk => by
    obtain ⟨k, rfl⟩ : ∃ m, k = m + 1 := ⟨k - 1, by simp at hk; omega⟩
    obtain rfl : rest = [] := List.eq_nil_of_length_eq_zero (by simpa using hr)
    simp only [laws_toIntS.l0]
    rw [if_neg (len_end pre)]
  | x :: suf, pre, [], k, hr, hl, hk => by simp at hr
  | x :: suf, pre, y :: rest, k, hr, hl, hk => by
    obtain ⟨k, rfl⟩ : ∃ m, k = m + 1 := ⟨k - 1, by simp at hk; omega⟩
    simp only [laws_toIntS.l0]
    have hp : (pre.length : Int) ≤ 1048576 := by simp at hl; omega
    rw [if_pos (len_mid pre x suf), if_pos (by omega), if_pos (len_mid pre y rest), rd_mid, set_mid, w64_len (by omega) (by omega), ← len_snoc pre x, app_cons pre x suf, app_cons pre x rest]
    exact toIntS_l0 suf (pre ++ [x]) rest k (by simpa using hr) (by simpa using hl) (by simp at hk; omega)
theorem toIntS_ok (l : List Int) (hl : l.length ≤ 1048576) (k : Nat) (hk : l.length + 1 ≤ k) : laws_toIntS.f k l = some l := by
  unfold laws_toIntS.f
  rw [if_pos (by omega), if_pos (by omega), Int.toNat_natCast]
  exact toIntS_l0 l [] (List.replicate l.length 0) k (by simp) (by simpa using hl) hk

theorem eqIntS_l0 : ∀ (suf pre : List Int) (k : Nat), (pre ++ suf).length ≤ 4000000 → suf.length + 1 ≤ k → laws_eqIntS.l0 k (pre ++ suf) (pre ++ suf) (pre.length : Int) = some true
  | [], pre, k, hl, hk => by
    obtain ⟨k, rfl⟩ : ∃ m, k = m + 1 := ⟨k - 1, by simp at hk; omega⟩
    simp only [laws_eqIntS.l0]
    rw [if_neg (len_end pre)]
  | x :: suf, pre, k, hl, hk => by
    obtain ⟨k, rfl⟩ : ∃ m, k = m + 1 := ⟨k - 1, by simp at hk; omega⟩
    simp only [laws_eqIntS.l0]
    have hp : (pre.length : Int) ≤ 4000000 := by simp at hl; omega
    rw [if_pos (len_mid pre x suf), if_pos (by omega), if_pos (len_mid pre x suf), if_pos trivial, w64_len (by omega) (by omega), ← len_snoc pre x, app_cons pre x suf]
    exact eqIntS_l0 suf (pre ++ [x]) k (by simpa using hl) (by simp at hk; omega)
theorem eqIntS_ok (l : List Int) (hl : l.length ≤ 4000000) (k : Nat) (hk : l.length + 1 ≤ k) : laws_eqIntS.f k l l = some true := by
  unfold laws_eqIntS.f
  rw [if_pos rfl]
  exact eqIntS_l0 l [] k (by simpa using hl) hk

/-- the numbers from one on, so many -/
def marks : Int → Nat → List Int
  | _, 0 => []
  | a, n + 1 => a :: marks (a + 1) n
theorem marks_length : ∀ (n : Nat) (a : Int), (marks a n).length = n
  | 0, _ => rfl
  | n + 1, a => by simp [marks, marks_length n]
theorem markIntS_l0 : ∀ (suf pre : List Int) (a : Int) (k : Nat), 0 ≤ a → a + suf.length ≤ 4000000000 → (pre ++ suf).length ≤ 4000000 → suf.length + 1 ≤ k → laws_markIntS.l0 k (pre ++ suf) a (pre.length : Int) = some (a + suf.length, pre ++ marks a suf.length)
  | [], pre, a, k, h0, h1, hl, hk => by
    obtain ⟨k, rfl⟩ : ∃ m, k = m + 1 := ⟨k - 1, by simp at hk; omega⟩
    simp only [laws_markIntS.l0]
    rw [if_neg (len_end pre)]
    simp [marks]
  | x :: suf, pre, a, k, h0, h1, hl, hk => by
    obtain ⟨k, rfl⟩ : ∃ m, k = m + 1 := ⟨k - 1, by simp at hk; omega⟩
    have hp : (pre.length : Int) ≤ 4000000 := by simp at hl; omega
    simp only [List.length_cons] at h1
    simp only [laws_markIntS.l0]
    rw [if_pos (len_mid pre x suf), if_pos (by omega), set_mid, w64_len (by omega) (by omega), w64_len (by omega) (by omega), ← len_snoc pre a, app_cons pre a suf, markIntS_l0 suf (pre ++ [a]) (a + 1) k (by omega) (by omega) (by simpa using hl) (by simp at hk; omega)]
    simp only [List.length_cons, Option.some.injEq, Prod.mk.injEq, marks]
    exact ⟨by omega, by simp⟩
theorem markIntS_ok (l : List Int) (a : Int) (h0 : 0 ≤ a) (h1 : a ≤ 3000000000) (hl : l.length ≤ 4000000) (k : Nat) (hk : l.length + 1 ≤ k) : laws_markIntS.f k l a = some (a + l.length, marks a l.length) := by
  unfold laws_markIntS.f
  exact markIntS_l0 l [] a k h0 (by omega) (by simpa using hl) hk

theorem heldIntS_l0 : ∀ (n : Nat) (pre : List Int) (a : Int) (k : Nat), 0 ≤ a → a + n ≤ 4000000000 → pre.length + n ≤ 4000000 → n + 1 ≤ k → laws_heldIntS.l0 k (pre ++ marks a n) a (pre.length : Int) = some (a + n)
  | 0, pre, a, k, h0, h1, hl, hk => by
    obtain ⟨k, rfl⟩ : ∃ m, k = m + 1 := ⟨k - 1, by omega⟩
    show laws_heldIntS.l0 (k + 1) (pre ++ []) a (pre.length : Int) = some (a + (0 : Nat))
    simp only [laws_heldIntS.l0]
    rw [if_neg (len_end pre)]
    simp
  | n + 1, pre, a, k, h0, h1, hl, hk => by
    obtain ⟨k, rfl⟩ : ∃ m, k = m + 1 := ⟨k - 1, by omega⟩
    show laws_heldIntS.l0 (k + 1) (pre ++ a :: marks (a + 1) n) a (pre.length : Int) = some (a + (n + 1 : Nat))
    simp only [laws_heldIntS.l0]
    have e := heldIntS_l0 n (pre ++ [a]) (a + 1) k (by omega) (by omega) (by simp; omega) (by omega)
    rw [if_pos (len_mid pre a _), if_pos (by omega), rd_mid, if_pos rfl, w64_len (by omega) (by omega), w64_len (by omega) (by omega), ← len_snoc pre a, app_cons pre a _, e]
    congr 1
    omega
theorem heldIntS_ok (n : Nat) (a : Int) (h0 : 0 ≤ a) (h1 : a ≤ 3000000000) (hl : n ≤ 4000000) (k : Nat) (hk : n + 1 ≤ k) : laws_heldIntS.f k (marks a n) a = some (a + n) := by
  unfold laws_heldIntS.f
  exact heldIntS_l0 n [] a k h0 (by omega) (by simpa using hl) hk

theorem eqIntSS_l0 (N : Nat) (hN : N ≤ 1000000) : ∀ (suf pre : List (List Int)) (k : Nat), (∀ x ∈ suf, x.length ≤ N) → (pre ++ suf).length ≤ 1000000 → suf.length + N + 2 ≤ k → laws_eqIntSS.l0 k (pre ++ suf) (pre ++ suf) (pre.length : Int) = some true
  | [], pre, k, hx, hl, hk => by
    obtain ⟨k, rfl⟩ : ∃ m, k = m + 1 := ⟨k - 1, by omega⟩
    simp only [laws_eqIntSS.l0]
    rw [if_neg (len_end pre)]
  | x :: suf, pre, k, hx, hl, hk => by
    obtain ⟨k, rfl⟩ : ∃ m, k = m + 1 := ⟨k - 1, by omega⟩
    have hp : (pre.length : Int) ≤ 1000000 := by simp at hl; omega
    have ih := eqIntSS_l0 N hN suf (pre ++ [x]) k (fun y hy => hx y (List.mem_cons_of_mem _ hy)) (by simpa using hl) (by simp at hk; omega)
    rw [len_snoc, ← app_cons] at ih
    have h0 := hx x List.mem_cons_self
    simp only [laws_eqIntSS.l0]
    rw [if_pos (len_mid pre x suf), if_pos (by omega), if_pos (len_mid pre x suf), rdL_mid, eqIntS_ok x (by omega) k (by simp at hk; omega)]
    simp only [Option.bind_some, if_true]
    rw [w64_len (by omega) (by omega), ih]
def marksR : Int → Nat → List (List Int)
  | _, 0 => []
  | a, n + 1 => marks a 2 :: marksR (a + 2) n
theorem marksR_len : ∀ (n : Nat) (a : Int), (marksR a n).length = n
  | 0, a => rfl
  | n + 1, a => by simp [marksR, marksR_len n (a + 2)]
theorem markIntSS_l0 : ∀ (suf pre : List (List Int)) (a : Int) (k : Nat), (∀ x ∈ suf, x.length = 2) → 0 ≤ a → a + 2 * suf.length ≤ 1000000 → (pre ++ suf).length ≤ 100000 → suf.length + 4 ≤ k →
    laws_markIntSS.l0 k (pre ++ suf) a (pre.length : Int) = some (a + 2 * suf.length, pre ++ marksR a suf.length)
  | [], pre, a, k, hx, h0, h1, hl, hk => by
    obtain ⟨k, rfl⟩ : ∃ m, k = m + 1 := ⟨k - 1, by omega⟩
    rw [laws_markIntSS.l0, if_neg (len_end pre)]
    simp [marksR]
  | x :: suf, pre, a, k, hx, h0, h1, hl, hk => by
    obtain ⟨k, rfl⟩ : ∃ m, k = m + 1 := ⟨k - 1, by omega⟩
    have hp : (pre.length : Int) ≤ 1000000 := by simp at hl; omega
    have h2 := hx x List.mem_cons_self
    simp only [List.length_cons] at h1
    have ih := markIntSS_l0 suf (pre ++ [marks a 2]) (a + 2) k (fun y hy => hx y (List.mem_cons_of_mem _ hy)) (by omega) (by omega) (by simpa using hl) (by simp at hk; omega)
    rw [len_snoc, ← app_cons] at ih
    rw [laws_markIntSS.l0, if_pos (len_mid pre x suf), if_pos (by omega), rdL_mid, markIntS_ok x a h0 (by omega) (by omega) k (by simp at hk; omega)]
    simp only [Option.bind_some]
    rw [set_mid, h2, w64_len (by omega) (by omega), show a + ((2 : Nat) : Int) = a + 2 from rfl, ih]
    simp [marksR]
    omega
theorem heldIntSS_l0 : ∀ (n : Nat) (pre : List (List Int)) (a : Int) (k : Nat), 0 ≤ a → a + 2 * n ≤ 1000000 → pre.length + n ≤ 100000 → n + 4 ≤ k →
    laws_heldIntSS.l0 k (pre ++ marksR a n) a (pre.length : Int) = some (a + 2 * n)
  | 0, pre, a, k, h0, h1, hl, hk => by
    obtain ⟨k, rfl⟩ : ∃ m, k = m + 1 := ⟨k - 1, by omega⟩
    show laws_heldIntSS.l0 (k + 1) (pre ++ []) a (pre.length : Int) = _
    rw [laws_heldIntSS.l0, if_neg (len_end pre)]
    simp
  | n + 1, pre, a, k, h0, h1, hl, hk => by
    obtain ⟨k, rfl⟩ : ∃ m, k = m + 1 := ⟨k - 1, by omega⟩
    have ih := heldIntSS_l0 n (pre ++ [marks a 2]) (a + 2) k (by omega) (by omega) (by simp; omega) (by omega)
    rw [len_snoc, ← app_cons] at ih
    show laws_heldIntSS.l0 (k + 1) (pre ++ marks a 2 :: marksR (a + 2) n) a (pre.length : Int) = _
    rw [laws_heldIntSS.l0, if_pos (len_mid pre _ _), if_pos (by omega), rdL_mid, heldIntS_ok 2 a h0 (by omega) (by omega) k (by omega)]
    simp only [Option.bind_some]
    rw [if_neg (by omega), w64_len (by omega) (by omega), show a + ((2 : Nat) : Int) = a + 2 from rfl, ih]
    congr 1
    omega
theorem matesL_two (l cl : List Int) : (matesL l cl).length ≤ 80 ∧ ∀ x ∈ matesL l cl, x.length = 2 := by
  unfold matesL
  by_cases h : okT l = true ∧ cl.length = l.length ∧ okK cl = true
  · rw [if_pos h]
    have h80 := okT_len h.1
    obtain ⟨h1, h2⟩ := found_all l cl l.length 0 [] opn_nil
    have hne : (matesF l cl).Pairwise (fun a b => a.1 ≠ b.1) := h2.imp Rp_ne
    obtain ⟨g1, g2⟩ := pinsAll_all (matesF l cl) [] List.Pairwise.nil (by simpa using hne)
    rw [List.nil_append] at g1
    have h3 := found_len l cl l.length 0 []
    refine ⟨by rw [List.length_map, g1.length_eq]; unfold matesF; omega, fun x hx => ?_⟩
    obtain ⟨p, _, rfl⟩ := List.mem_map.1 hx
    simp [pr]
  · rw [if_neg h]
    simp
theorem FnExactLevelMates : laws_FnExactLevelMates.Pure := by
  intro l c _ _ _ _ _ _ hb hc
  obtain ⟨r1, r2⟩ := matesL_two l c
  generalize hK : l.length + c.length + 30000 = K
  have hl : l.length ≤ 1048576 := by omega
  have hcl : c.length ≤ 1048576 := by omega
  refine ⟨K, marks 1 l.length, marks (1 + l.length) c.length, matesL l c, marksR 1 (matesL l c).length, 1 + l.length, 1 + l.length + c.length, 1 + 2 * (matesL l c).length, ?_⟩
  refine ⟨toIntS_ok l hl K (by omega), toIntS_ok c hcl K (by omega), specLevelMates l c hl hcl K (by omega), implLevelMates l c K (by omega), ?_, eqIntS_ok l (by omega) K (by omega), eqIntS_ok c (by omega) K (by omega), markIntS_ok l 1 (by omega) (by omega) (by omega) K (by omega), markIntS_ok c _ (by omega) (by omega) (by omega) K (by omega), ?_, ?_, by omega, marksR_len _ _, by omega, by omega⟩
  · unfold laws_eqIntSS.f
    rw [if_pos rfl]
    exact eqIntSS_l0 2 (by omega) (matesL l c) [] K (fun x hx => Nat.le_of_eq (r2 x hx)) (by simp; omega) (by omega)
  · exact markIntSS_l0 (matesL l c) [] 1 K r2 (by omega) (by omega) (by simp; omega) (by omega)
  · exact heldIntSS_l0 (matesL l c).length [] 1 K (by omega) (by omega) (by simp; omega) (by omega)

end Go.Proofs.Ytmjhdgofepdgkaa.Pure
