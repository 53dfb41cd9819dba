/- Of every drawn list of spans and every drawn place: SpanAt is the reference's, the span over the place decides, and over no span it is the plain look: the law FnSpanAt answers true; no condition. -/
import Derived.Test.YtjnmpamnlfabbaaPFnSpanAtx8
namespace Go.Proofs.Ytjnmpamnlfabbaa.Pure
open Go.RowKit Go.Proofs.Ytjnmpamnlfabbaa.PFnSpanAt Go.Proofs.YtjnmpamnlfabbaaW.PrintWords Go.Proofs.YtjnmpamnlfabbaaW.PrintLast Go.Proofs.YtjnmpamnlfabbaaW.PrintMore
set_option linter.unusedVariables false
set_option linter.unusedSimpArgs false

/-! small lemmas on whole numbers, lists and rounds -/
theorem w64 {x : Int} (h : -9223372036854775808 ≤ x) (h' : x ≤ 9223372036854775807) : wrap64 x = x := by
  unfold wrap64
  omega
theorem in_i64 {x : Int} (h : (Lit.int .i64 x).wf = true) : -9223372036854775808 ≤ x ∧ x ≤ 9223372036854775807 := by
  simpa [Lit.wf, IntKind.min, IntKind.max, IntKind.bits, IntKind.signed] using h
theorem in_u8 {x : Int} (h : (Lit.int .u8 x).wf = true) : 0 ≤ x ∧ x ≤ 255 := by
  simpa [Lit.wf, IntKind.min, IntKind.max, IntKind.bits, IntKind.signed] using h
theorem rd_nat (l : List Int) (i : Nat) : rd l (i : Int) = l.getD i 0 := by
  unfold rd
  rw [Int.toNat_natCast]

/-! lists, place by place: what lies ahead of a place, the place, what lies behind -/
theorem getD_mid {α : Type} (pre : List α) (x : α) (suf : List α) (d : α) : (pre ++ x :: suf).getD ((pre.length : Int)).toNat d = x := by
  rw [Int.toNat_natCast, List.getD_eq_getElem?_getD]
  simp
theorem set_mid {α : Type} (pre : List α) (x y : α) (suf : List α) : (pre ++ x :: suf).set ((pre.length : Int)).toNat y = pre ++ y :: suf := by
  rw [Int.toNat_natCast]
  simp
theorem rd_mid (pre : List Int) (x : Int) (suf : List Int) : rd (pre ++ x :: suf) (pre.length : Int) = x := getD_mid pre x suf 0
theorem len_mid {α : Type} (pre : List α) (x : α) (suf : List α) : (pre.length : Int) < ((pre ++ x :: suf).length : Int) := by
  simp only [List.length_append, List.length_cons]
  omega
theorem len_end {α : Type} (pre : List α) : ¬ (pre.length : Int) < ((pre ++ []).length : Int) := by simp
theorem len_snoc {α : Type} (pre : List α) (x : α) : ((pre ++ [x]).length : Int) = (pre.length : Int) + 1 := by simp
theorem app_cons {α : Type} (pre : List α) (x : α) (suf : List α) : pre ++ x :: suf = (pre ++ [x]) ++ suf := by simp
theorem w64_len {n : Int} (h0 : 0 ≤ n) (h : n ≤ 9000000000000000000) : wrap64 (n + 1) = n + 1 := w64 (by omega) (by omega)

abbrev Sp := S50
abbrev zSp : Sp := z50
theorem rdSp_mid (pre : List Sp) (x : Sp) (suf : List Sp) : rd_T50 (pre ++ x :: suf) (pre.length : Int) = x := getD_mid pre x suf _

/-- a span is ok by itself -/
def spOk (s : Sp) (c : Int) : Bool := decide (0 ≤ s.f0) && decide (s.f0 < c) && decide (s.f0 < s.f1) && decide (s.f1 ≤ c) && decide (1 ≤ s.f2) && decide (s.f2 ≤ 40) && decide (0 ≤ s.f3) && decide (s.f3 ≤ 9)
theorem implSpanOk (s : Sp) (c : Int) : impl_spanOk.f s.f0 s.f1 s.f2 s.f3 c = some (spOk s c) := by
  unfold impl_spanOk.f spOk
  by_cases h1 : 0 ≤ s.f0
  · by_cases h2 : s.f0 < c
    · by_cases h3 : s.f0 < s.f1
      · by_cases h4 : s.f1 ≤ c
        · by_cases h5 : 1 ≤ s.f2
          · by_cases h6 : s.f2 ≤ 40
            · by_cases h7 : 0 ≤ s.f3 <;> simp [h1, h2, h3, h4, h5, h6, h7]
            · simp [h1, h2, h3, h4, h5, h6]
          · simp [h1, h2, h3, h4, h5]
        · simp [h1, h2, h3, h4]
      · simp [h1, h2, h3]
    · simp [h1, h2]
  · simp [h1]
def chainOk (c : Int) : Int → List Sp → Bool
  | _, [] => true
  | p, s :: r => spOk s c && decide (p ≤ s.f0) && chainOk c s.f1 r
def spansOk (l : List Sp) (c : Int) : Bool := chainOk c 0 l && (decide (0 ≤ c) && decide (c ≤ 80) && decide (l.length ≤ 12))
def Ahead (pre : List Sp) (p : Int) : Prop := (pre = [] ∧ p = 0) ∨ ∃ q s, pre = q ++ [s] ∧ p = s.f1
theorem ahead_step (pre : List Sp) (s : Sp) : Ahead (pre ++ [s]) s.f1 := .inr ⟨pre, s, rfl, rfl⟩
theorem implSpansOk_l0 (c : Int) : ∀ (suf pre : List Sp) (p : Int) (k : Nat), Ahead pre p → (pre ++ suf).length ≤ 1048576 → suf.length + 1 ≤ k →
    impl_SpansOk.l0 k (pre ++ suf) c (pre ++ suf) ((pre ++ suf).length : Int) (pre.length : Int) = some (chainOk c p suf && (decide (0 ≤ c) && decide (c ≤ 80) && decide ((pre ++ suf).length ≤ 12)))
  | [], pre, p, k, ha, hl, hk => by
    obtain ⟨k, rfl⟩ : ∃ m, k = m + 1 := ⟨k - 1, by simp at hk; omega⟩
    simp only [impl_SpansOk.l0, chainOk]
    rw [if_neg (len_end pre)]
    by_cases h1 : 0 ≤ c <;> by_cases h2 : c ≤ 80 <;> simp [h1, h2]
    omega
  | s :: suf, pre, p, k, ha, hl, hk => by
    obtain ⟨k, rfl⟩ : ∃ m, k = m + 1 := ⟨k - 1, by simp at hk; omega⟩
    have hp : (pre.length : Int) ≤ 1048576 := by simp at hl; omega
    simp only [impl_SpansOk.l0, chainOk]
    rw [if_pos (len_mid pre s suf), if_pos (by omega), if_pos (len_mid pre s suf), rdSp_mid, implSpanOk]
    simp only [Option.bind_some]
    cases hs : spOk s c with
    | false => simp
    | true =>
      have ih := implSpansOk_l0 c suf (pre ++ [s]) s.f1 k (ahead_step pre s) (by simpa using hl) (by simp at hk; omega)
      rw [len_snoc, ← app_cons] at ih
      simp only [if_true, Bool.true_and]
      rw [w64_len (by omega) (by omega)]
      rcases ha with ⟨rfl, rfl⟩ | ⟨q, t, rfl, rfl⟩
      · have h0 : (0 : Int) ≤ s.f0 := by
          simp only [spOk, Bool.and_eq_true, decide_eq_true_eq] at hs
          omega
        rw [if_neg (by simp), ih]
        simp [h0]
      · have e1 : (((q ++ [t]).length : Int)) - 1 = (q.length : Int) := by simp
        rw [if_pos (by simp), e1, w64 (by omega) (by simp at hp; omega), if_pos (by omega), if_pos (by simp; omega)]
        have e2 : rd_T50 ((q ++ [t]) ++ s :: suf) (q.length : Int) = t := by
          rw [List.append_assoc]
          exact rdSp_mid q t _
        rw [e2, ih]
        by_cases hg : t.f1 > s.f0
        · rw [if_pos hg]
          have : ¬ t.f1 ≤ s.f0 := by omega
          simp [this]
        · rw [if_neg hg]
          have : t.f1 ≤ s.f0 := by omega
          simp [this]
theorem implSpansOk (l : List Sp) (c : Int) (hl : l.length ≤ 1048576) (k : Nat) (hk : l.length + 1 ≤ k) : impl_SpansOk.f k l c = some (spansOk l c) := by
  unfold impl_SpansOk.f spansOk
  exact implSpansOk_l0 c l [] 0 k (.inl ⟨rfl, rfl⟩) (by simpa using hl) hk

theorem specIn (a b c : Int) : spec_l1In.f a b c = some (decide (b ≤ a ∧ a ≤ c)) := by
  unfold spec_l1In.f
  by_cases h1 : b ≤ a <;> by_cases h2 : a ≤ c <;> simp [h1, h2]

theorem specL6Ok (s : Sp) (c : Int) (h0 : 0 ≤ c) (h1 : c ≤ 80) (hs : -9223372036854775808 ≤ s.f0) (hs' : s.f0 ≤ 9223372036854775807) : spec_l6Ok.f s.f0 s.f1 s.f2 s.f3 c = some (spOk s c) := by
  unfold spec_l6Ok.f spOk
  rw [w64 (x := c - 1) (by omega) (by omega)]
  simp only [specIn, Option.bind_some, decide_eq_true_eq]
  by_cases g0 : 0 ≤ s.f0 ∧ s.f0 ≤ c - 1
  · rw [if_pos g0, w64 (x := s.f0 + 1) (by omega) (by omega)]
    have a1 : (0 : Int) ≤ s.f0 := g0.1
    have a2 : s.f0 < c := by omega
    by_cases g1 : s.f0 + 1 ≤ s.f1 ∧ s.f1 ≤ c
    · rw [if_pos g1]
      have a3 : s.f0 < s.f1 := by omega
      have a4 : s.f1 ≤ c := g1.2
      by_cases g2 : 1 ≤ s.f2 ∧ s.f2 ≤ 40
      · rw [if_pos g2]
        simp [a1, a2, a3, a4, g2.1, g2.2]
      · rw [if_neg g2]
        have : (decide (1 ≤ s.f2) && decide (s.f2 ≤ 40)) = false := by
          simp only [Bool.and_eq_false_iff, decide_eq_false_iff_not]
          omega
        simp only [Option.some.injEq, Bool.and_assoc]
        rw [show ∀ z, (decide (1 ≤ s.f2) && (decide (s.f2 ≤ 40) && z)) = ((decide (1 ≤ s.f2) && decide (s.f2 ≤ 40)) && z) from fun z => (Bool.and_assoc _ _ _).symm, this]
        simp
    · rw [if_neg g1]
      have : (decide (s.f0 < s.f1) && decide (s.f1 ≤ c)) = false := by
        simp only [Bool.and_eq_false_iff, decide_eq_false_iff_not]
        omega
      simp only [Option.some.injEq, Bool.and_assoc]
      rw [show ∀ z, (decide (s.f0 < s.f1) && (decide (s.f1 ≤ c) && z)) = ((decide (s.f0 < s.f1) && decide (s.f1 ≤ c)) && z) from fun z => (Bool.and_assoc _ _ _).symm, this]
      simp
  · rw [if_neg g0]
    have : (decide (0 ≤ s.f0) && decide (s.f0 < c)) = false := by
      simp only [Bool.and_eq_false_iff, decide_eq_false_iff_not]
      omega
    simp only [Option.some.injEq, Bool.and_assoc]
    rw [show ∀ z, (decide (0 ≤ s.f0) && (decide (s.f0 < c) && z)) = ((decide (0 ≤ s.f0) && decide (s.f0 < c)) && z) from fun z => (Bool.and_assoc _ _ _).symm, this]
    simp
def InI (x : Int) : Prop := -9223372036854775808 ≤ x ∧ x ≤ 9223372036854775807
theorem specSpansOk_l0 (c : Int) (hc : 0 ≤ c ∧ c ≤ 80) : ∀ (suf pre : List Sp) (p : Int) (k : Nat), Ahead pre p → (∀ s ∈ suf, InI s.f0) → (pre ++ suf).length ≤ 1048576 → suf.length + 1 ≤ k →
    spec_SpansOk.l0 k (pre ++ suf) c (pre.length : Int) = some (chainOk c p suf && decide ((pre ++ suf).length ≤ 12))
  | [], pre, p, k, ha, hw, hl, hk => by
    obtain ⟨k, rfl⟩ : ∃ m, k = m + 1 := ⟨k - 1, by simp at hk; omega⟩
    simp only [spec_SpansOk.l0, chainOk]
    rw [if_neg (len_end pre)]
    simp only [specIn, Option.bind_some, hc, and_self, decide_true, Bool.true_and]
    by_cases h2 : (pre ++ []).length ≤ 12
    · rw [if_pos (by omega)]; simp only [h2, decide_true]
    · rw [if_neg (by omega)]; simp only [h2, decide_false]
  | s :: suf, pre, p, k, ha, hw, hl, hk => by
    obtain ⟨k, rfl⟩ : ∃ m, k = m + 1 := ⟨k - 1, by simp at hk; omega⟩
    have hp : (pre.length : Int) ≤ 1048576 := by simp at hl; omega
    simp only [spec_SpansOk.l0, chainOk]
    obtain ⟨hs0, hs1⟩ := hw s List.mem_cons_self
    rw [if_pos (len_mid pre s suf), if_pos (by omega), rdSp_mid, specL6Ok s c hc.1 hc.2 hs0 hs1]
    simp only [Option.bind_some]
    cases hs : spOk s c with
    | false => simp
    | true =>
      have ih := specSpansOk_l0 c hc suf (pre ++ [s]) s.f1 k (ahead_step pre s) (fun t ht => hw t (List.mem_cons_of_mem _ ht)) (by simpa using hl) (by simp at hk; omega)
      rw [len_snoc, ← app_cons] at ih
      simp only [if_true, Bool.true_and]
      rw [w64_len (by omega) (by omega)]
      rcases ha with ⟨rfl, rfl⟩ | ⟨q, t, rfl, rfl⟩
      · have h0 : (0 : Int) ≤ s.f0 := by
          simp only [spOk, Bool.and_eq_true, decide_eq_true_eq] at hs
          omega
        rw [if_neg (by simp), ih]
        simp [h0]
      · have e1 : (((q ++ [t]).length : Int)) - 1 = (q.length : Int) := by simp
        rw [if_pos (by simp), e1, w64 (by omega) (by simp at hp; omega), if_pos (by omega), if_pos (by simp; omega)]
        have e2 : rd_T50 ((q ++ [t]) ++ s :: suf) (q.length : Int) = t := by
          rw [List.append_assoc]
          exact rdSp_mid q t _
        rw [e2, ih]
        by_cases hg : t.f1 > s.f0
        · rw [if_pos hg]
          have : ¬ t.f1 ≤ s.f0 := by omega
          simp [this]
        · rw [if_neg hg]
          have : t.f1 ≤ s.f0 := by omega
          simp [this]
theorem specL6_some (a b c d e : Int) : ∃ r, spec_l6Ok.f a b c d e = some r := by
  unfold spec_l6Ok.f
  simp only [specIn, Option.bind_some]
  repeat' split
  all_goals exact ⟨_, rfl⟩
theorem specSpansOk_bad (c : Int) (hc : ¬ (0 ≤ c ∧ c ≤ 80)) : ∀ (suf pre : List Sp) (k : Nat), (pre ++ suf).length ≤ 1048576 → suf.length + 1 ≤ k → spec_SpansOk.l0 k (pre ++ suf) c (pre.length : Int) = some false
  | [], pre, k, hl, hk => by
    obtain ⟨k, rfl⟩ : ∃ m, k = m + 1 := ⟨k - 1, by simp at hk; omega⟩
    simp only [spec_SpansOk.l0]
    rw [if_neg (len_end pre)]
    simp only [specIn, Option.bind_some, hc, decide_false, ite_self]
  | s :: suf, pre, k, hl, hk => by
    obtain ⟨k, rfl⟩ : ∃ m, k = m + 1 := ⟨k - 1, by simp at hk; omega⟩
    have hp : (pre.length : Int) ≤ 1048576 := by simp at hl; omega
    have ih := specSpansOk_bad c hc suf (pre ++ [s]) k (by simpa using hl) (by simp at hk; omega)
    rw [len_snoc, ← app_cons] at ih
    simp only [spec_SpansOk.l0]
    rw [if_pos (len_mid pre s suf), if_pos (by omega), rdSp_mid]
    obtain ⟨r, hr⟩ := specL6_some s.f0 s.f1 s.f2 s.f3 c
    rw [hr]
    simp only [Option.bind_some]
    rw [w64_len (by omega) (by omega), ih]
    cases r with
    | false => simp
    | true =>
      simp only [if_true]
      by_cases h0 : (pre.length : Int) > 0
      · rw [if_pos h0, w64 (by omega) (by omega), if_pos (by omega), if_pos (by simp; omega)]
        simp
      · rw [if_neg h0]
theorem specSpansOk (l : List Sp) (c : Int) (hw : ∀ s ∈ l, InI s.f0) (hl : l.length ≤ 1048576) (k : Nat) (hk : l.length + 1 ≤ k) : spec_SpansOk.f k l c = some (spansOk l c) := by
  unfold spec_SpansOk.f spansOk
  by_cases hc : 0 ≤ c ∧ c ≤ 80
  · have h := specSpansOk_l0 c hc l [] 0 k (.inl ⟨rfl, rfl⟩) hw (by simpa using hl) hk
    rw [show ((0 : Int)) = (([] : List Sp).length : Int) from rfl]
    rw [show l = [] ++ l from rfl, h]
    simp [hc.1, hc.2]
  · have h := specSpansOk_bad c hc l [] k (by simpa using hl) hk
    have e : (decide (0 ≤ c) && decide (c ≤ 80)) = false := by
      simp only [Bool.and_eq_false_iff, decide_eq_false_iff_not]
      omega
    rw [e]
    simpa using h

def lookL (i : Int) : List Sp → Int × Int
  | [] => (10, 0)
  | s :: r => if s.f0 ≤ i ∧ i < s.f1 then (s.f2, s.f3) else lookL i r
theorem chainOk_mem (c : Int) : ∀ (l : List Sp) (p : Int), chainOk c p l = true → ∀ s ∈ l, spOk s c = true
  | [], _, _, s, hs => by cases hs
  | x :: r, p, h, s, hs => by
    simp only [chainOk, Bool.and_eq_true] at h
    rcases List.mem_cons.1 hs with rfl | hs
    · exact h.1.1
    · exact chainOk_mem c r x.f1 h.2 s hs
theorem implLookAt_l0 (i : Int) : ∀ (suf pre : List Sp) (k : Nat), (pre ++ suf).length ≤ 1048576 → suf.length + 1 ≤ k →
    impl_lookAt.l0 k i (pre ++ suf) ((pre ++ suf).length : Int) (pre.length : Int) = some (lookL i suf)
  | [], pre, k, hl, hk => by
    obtain ⟨k, rfl⟩ : ∃ m, k = m + 1 := ⟨k - 1, by simp at hk; omega⟩
    simp only [impl_lookAt.l0]
    rw [if_neg (len_end pre)]
    rfl
  | s :: suf, pre, k, hl, hk => by
    obtain ⟨k, rfl⟩ : ∃ m, k = m + 1 := ⟨k - 1, by simp at hk; omega⟩
    have hp : (pre.length : Int) ≤ 1048576 := by simp at hl; omega
    have ih := implLookAt_l0 i suf (pre ++ [s]) k (by simpa using hl) (by simp at hk; omega)
    rw [len_snoc, ← app_cons] at ih
    simp only [impl_lookAt.l0, lookL]
    rw [if_pos (len_mid pre s suf), if_pos (by omega), if_pos (len_mid pre s suf), rdSp_mid, w64_len (by omega) (by omega), ih]
    by_cases h1 : s.f0 ≤ i <;> by_cases h2 : i < s.f1 <;> simp [h1, h2]
theorem specL6At_l0 (i : Int) : ∀ (suf pre : List Sp) (k : Nat), (∀ s ∈ suf, spOk s 80 = true) → (pre ++ suf).length ≤ 1048576 → suf.length + 1 ≤ k →
    spec_l6At.l0 k (pre ++ suf) i (pre.length : Int) = some (lookL i suf)
  | [], pre, k, _, hl, hk => by
    obtain ⟨k, rfl⟩ : ∃ m, k = m + 1 := ⟨k - 1, by simp at hk; omega⟩
    simp only [spec_l6At.l0]
    rw [if_neg (len_end pre)]
    rfl
  | s :: suf, pre, k, hs, hl, hk => by
    obtain ⟨k, rfl⟩ : ∃ m, k = m + 1 := ⟨k - 1, by simp at hk; omega⟩
    have hp : (pre.length : Int) ≤ 1048576 := by simp at hl; omega
    have ih := specL6At_l0 i suf (pre ++ [s]) k (fun t ht => hs t (List.mem_cons_of_mem _ ht)) (by simpa using hl) (by simp at hk; omega)
    rw [len_snoc, ← app_cons] at ih
    have h0 := hs s List.mem_cons_self
    simp only [spOk, Bool.and_eq_true, decide_eq_true_eq] at h0
    simp only [spec_l6At.l0, lookL]
    rw [if_pos (len_mid pre s suf), if_pos (by omega), rdSp_mid, w64_len (by omega) (by omega), ih, w64 (by omega) (by omega), specIn]
    simp only [Option.bind_some]
    by_cases h1 : s.f0 ≤ i ∧ i < s.f1
    · rw [if_pos h1, if_pos (by simp only [decide_eq_true_eq]; omega)]
    · rw [if_neg h1, if_neg (by simp only [decide_eq_true_eq]; omega)]

def atL (l : List Sp) (i : Int) : Int × Int := if spansOk l 80 = true then lookL i l else (0, 0)
theorem implAt (l : List Sp) (i : Int) (hl : l.length ≤ 1048576) (k : Nat) (hk : l.length + 1 ≤ k) : impl_SpanAt.f k l i = some (atL l i) := by
  unfold impl_SpanAt.f atL
  rw [implSpansOk l 80 hl k hk]
  simp only [Option.bind_some]
  by_cases h : spansOk l 80 = true
  · rw [if_pos h, if_pos h]
    have h1 : impl_lookAt.l0 k i l (l.length : Int) 0 = some (lookL i l) := implLookAt_l0 i l [] k (by simpa using hl) hk
    unfold impl_lookAt.f
    rw [h1]
    simp
  · rw [if_neg h, if_neg h]
theorem spansOk_mem {l : List Sp} {c : Int} (h : spansOk l c = true) : ∀ s ∈ l, spOk s c = true := by
  unfold spansOk at h
  rw [Bool.and_eq_true] at h
  exact chainOk_mem c l 0 h.1
theorem specAt (l : List Sp) (i : Int) (hw : ∀ s ∈ l, InI s.f0) (hl : l.length ≤ 1048576) (k : Nat) (hk : l.length + 1 ≤ k) : spec_SpanAt.f k l i = some (atL l i) := by
  unfold spec_SpanAt.f atL
  rw [specSpansOk l 80 hw hl k hk]
  simp only [Option.bind_some]
  by_cases h : spansOk l 80 = true
  · rw [if_pos h, if_pos h]
    have h1 : spec_l6At.l0 k l i 0 = some (lookL i l) := specL6At_l0 i l [] k (spansOk_mem h) (by simpa using hl) hk
    unfold spec_l6At.f
    rw [h1]
    simp
  · rw [if_neg h, if_neg h]

/-! what is drawn: a reader of bytes -/
theorem xor_i64 (a b : Nat) (ha : a < 2 ^ 40) (hb : b < 2 ^ 40) : bits .xor .i64 (a : Int) (b : Int) = ((a ^^^ b : Nat) : Int) := by
  have hp : (2 : Nat) ^ 40 ≤ 2 ^ IntKind.i64.bits := by decide
  have ha' : a % 2 ^ IntKind.i64.bits = a := Nat.mod_eq_of_lt (Nat.lt_of_lt_of_le ha hp)
  have hb' : b % 2 ^ IntKind.i64.bits = b := Nat.mod_eq_of_lt (Nat.lt_of_lt_of_le hb hp)
  simp only [bits, BitVec.ofInt_natCast, BitVec.toNat_xor, BitVec.toNat_ofNat, ha', hb']
  have h := Nat.xor_lt_two_pow ha hb
  rw [IntKind.wrap_i64]
  omega
theorem xor_pos {x y : Int} (hx : 0 ≤ x) (hx' : x < 1099511627776) (hy : 0 ≤ y) (hy' : y < 1099511627776) : 0 ≤ bits .xor .i64 x y ∧ bits .xor .i64 x y < 1099511627776 := by
  obtain ⟨a, rfl⟩ := Int.eq_ofNat_of_zero_le hx
  obtain ⟨b, rfl⟩ := Int.eq_ofNat_of_zero_le hy
  have ha : a < 2 ^ 40 := by omega
  have hb : b < 2 ^ 40 := by omega
  rw [xor_i64 a b ha hb]
  have h := Nat.xor_lt_two_pow ha hb
  omega
theorem tmod_in {x n : Int} (hx : 0 ≤ x) (hn : 0 < n) : 0 ≤ Int.tmod x n ∧ Int.tmod x n < n := by
  rw [Int.tmod_eq_emod_of_nonneg hx]
  exact ⟨Int.emod_nonneg _ (by omega), Int.emod_lt_of_pos _ hn⟩
theorem tdiv_in {x n : Int} (hx : 0 ≤ x) (hn : 0 < n) : 0 ≤ Int.tdiv x n ∧ Int.tdiv x n ≤ x := by
  rw [Int.tdiv_eq_ediv_of_nonneg hx]
  exact ⟨Int.ediv_nonneg hx (by omega), Int.ediv_le_self _ hx⟩
/-- bytes -/
def Bytes (b : List Int) : Prop := b.length ≤ 2000 ∧ ∀ x ∈ b, 0 ≤ x ∧ x ≤ 255
theorem rd_byte {b : List Int} (hb : Bytes b) {i : Int} (h : i < b.length) (h0 : 0 ≤ i) : 0 ≤ rd b i ∧ rd b i ≤ 255 := by
  unfold rd
  have hi : i.toNat < b.length := by omega
  rw [List.getD_eq_getElem?_getD, List.getElem?_eq_getElem hi]
  exact hb.2 _ (List.getElem_mem hi)
theorem pick_ok {b : List Int} (hb : Bytes b) (p n : Int) (hp : 0 ≤ p) (hp' : p ≤ 1000000) (k : Nat) (hk : 1 ≤ k) :
    ∃ v, spec_l1Rd_pick.f k b p n = some (v, p + 1) ∧ 0 ≤ v ∧ (1 ≤ n → v < n) ∧ (n < 1 → v = 0) := by
  obtain ⟨k, rfl⟩ : ∃ m, k = m + 1 := ⟨k - 1, by omega⟩
  have hl := hb.1
  have e1 : wrap64 (p + 1) = p + 1 := w64 (by omega) (by omega)
  have e2 : wrap64 (p + 1 - 1) = p := by rw [w64 (by omega) (by omega)]; omega
  unfold spec_l1Rd_pick.f
  by_cases hn : n < 1
  · rw [if_pos hn, e1]
    simp only [spec_l1Rd_pick.j0, if_true]
    exact ⟨0, rfl, by omega, by omega, fun _ => rfl⟩
  · rw [if_neg hn, e1]
    by_cases h0 : b.length = 0
    · have e0 : ((b.length : Int) == 0) = true := by simp [h0]
      simp only [spec_l1Rd_pick.j0, e0, if_true]
      exact ⟨0, rfl, by omega, by omega, fun _ => rfl⟩
    · have e0 : ((b.length : Int) == 0) = false := by simp; intro h; exact h0 (by rw [h]; rfl)
      have hlen : (0 : Int) < b.length := by omega
      simp only [spec_l1Rd_pick.j0, e0, e2, Bool.false_eq_true, if_false]
      have hn0 : ¬ n = 0 := by omega
      by_cases hlt : p < (b.length : Int)
      · rw [if_pos hlt, if_pos hp, if_neg hn0]
        obtain ⟨r0, r1⟩ := rd_byte hb hlt hp
        rw [w64 (by omega) (by omega)]
        have h := tmod_in r0 (show 0 < n by omega)
        exact ⟨_, rfl, h.1, fun _ => h.2, fun h' => absurd h' hn⟩
      · have m1 := tmod_in hp hlen
        have e7 : wrap64 (wrap64 (p * 7) + 3) = p * 7 + 3 := by rw [w64 (x := p * 7) (by omega) (by omega), w64 (by omega) (by omega)]
        have m2 := tmod_in (show 0 ≤ p * 7 + 3 by omega) hlen
        have r1 := rd_byte hb m1.2 m1.1
        have r2 := rd_byte hb m2.2 m2.1
        have d1 := tdiv_in hp hlen
        rw [if_neg hlt, if_neg (by omega), if_pos m1.1, if_pos m1.2, e7, if_pos m2.1, if_pos m2.2, if_neg hn0]
        generalize rd b (Int.tmod p (b.length : Int)) = x1 at *
        generalize rd b (Int.tmod (p * 7 + 3) (b.length : Int)) = x2 at *
        generalize Int.tdiv p (b.length : Int) = x3 at *
        have eX : wrap64 (wrap64 (wrap64 (wrap64 (wrap64 x1 * 131) + wrap64 (wrap64 x2 * 1117)) + wrap64 (p * 29)) + wrap64 (wrap64 x3 * 53)) = x1 * 131 + x2 * 1117 + p * 29 + x3 * 53 := by
          rw [w64 (x := x1) (by omega) (by omega), w64 (x := x2) (by omega) (by omega), w64 (x := x3) (by omega) (by omega), w64 (x := x1 * 131) (by omega) (by omega), w64 (x := x2 * 1117) (by omega) (by omega), w64 (x := p * 29) (by omega) (by omega), w64 (x := x3 * 53) (by omega) (by omega), w64 (x := x1 * 131 + x2 * 1117) (by omega) (by omega), w64 (x := x1 * 131 + x2 * 1117 + p * 29) (by omega) (by omega), w64 (by omega) (by omega)]
        rw [eX]
        have hX0 : 0 ≤ x1 * 131 + x2 * 1117 + p * 29 + x3 * 53 := by omega
        have hX1 : x1 * 131 + x2 * 1117 + p * 29 + x3 * 53 < 1000000000 := by omega
        generalize x1 * 131 + x2 * 1117 + p * 29 + x3 * 53 = X at *
        have d2 := tdiv_in hX0 (show (0 : Int) < 64 by omega)
        rw [w64 (x := Int.tdiv X 64) (by omega) (by omega)]
        have hx := xor_pos hX0 (by omega) d2.1 (by omega)
        have h := tmod_in hx.1 (show 0 < n by omega)
        exact ⟨_, rfl, h.1, fun _ => h.2, fun h' => absurd h' hn⟩
theorem open_ok {l : List Int} (h : ∀ x ∈ l, (Lit.int .u8 x).wf = true) : ∃ b, spec_l1Open.f l = some (b, 0) ∧ Bytes b := by
  unfold spec_l1Open.f
  by_cases h1 : (l.length : Int) > 2000
  · rw [if_pos h1, if_pos (by omega)]
    exact ⟨_, rfl, by rw [List.length_take]; omega, fun x hx => in_u8 (h x (List.mem_of_mem_take hx))⟩
  · rw [if_neg h1]
    exact ⟨_, rfl, by omega, fun x hx => in_u8 (h x hx)⟩

theorem one_ok {b : List Int} (hb : Bytes b) (p : Int) (hp : 0 ≤ p) (hp' : p ≤ 1000000) (l : List Int) (hl : 1 ≤ l.length) (k : Nat) (hk : 1 ≤ k) :
    ∃ v, spec_l1Rd_one.f k b p l = some (v, p + 1) ∧ v ∈ l := by
  obtain ⟨v, e, h0, h1, _⟩ := pick_ok hb p (l.length : Int) hp hp' k hk
  unfold spec_l1Rd_one.f
  rw [e]
  simp only [Option.bind_some]
  have h2 := h1 (by omega)
  rw [if_pos h0, if_pos h2]
  refine ⟨_, rfl, ?_⟩
  unfold rd
  have hi : v.toNat < l.length := by omega
  rw [List.getD_eq_getElem?_getD, List.getElem?_eq_getElem hi]
  exact List.getElem_mem hi

def SpR (s : Sp) : Prop := -100 ≤ s.f0 ∧ s.f0 ≤ 200 ∧ -100 ≤ s.f1 ∧ s.f1 ≤ 200 ∧ -100 ≤ s.f2 ∧ s.f2 ≤ 200 ∧ -100 ≤ s.f3 ∧ s.f3 ≤ 200
theorem len_rd (i : Int) (h0 : 0 ≤ i) (h1 : i < 5) : 1 ≤ rd [10, 5, 20, 40, 1] i ∧ rd [10, 5, 20, 40, 1] i ≤ 40 := by
  have : i = 0 ∨ i = 1 ∨ i = 2 ∨ i = 3 ∨ i = 4 := by omega
  rcases this with rfl | rfl | rfl | rfl | rfl <;> decide
theorem all_snoc {α : Type} {P : α → Prop} {l : List α} {x : α} (h : ∀ y ∈ l, P y) (hx : P x) : ∀ y ∈ l ++ [x], P y := by
  intro y hy
  rcases List.mem_append.1 hy with g | g
  · exact h y g
  · simp at g
    exact g ▸ hx
theorem spans_l0 {b : List Int} (hb : Bytes b) (x1 : Int) (hx1 : 0 ≤ x1 ∧ x1 ≤ 100) : ∀ (n : Nat) (out : List Sp) (x6 p : Int) (k : Nat), out.length + n = 12 → (∀ s ∈ out, SpR s) → 0 ≤ x6 → x6 ≤ 110 → 0 ≤ p → p + 6 * n ≤ 800000 → 2 * n + 3 ≤ k →
    ∃ v q, spec_l13Spans.l0 k x1 out x6 b p = some (v, q) ∧ v.length ≤ 12 ∧ (∀ s ∈ v, SpR s) ∧ p ≤ q ∧ q ≤ p + 6 * n + 1
  | 0, out, x6, p, k, ho, hs, h0, h1, hp, hp', hk => by
    obtain ⟨k, rfl⟩ : ∃ m, k = m + 2 := ⟨k - 2, by omega⟩
    simp only [spec_l13Spans.l0]
    have hn : ¬ (out.length : Int) < 12 := by omega
    have e : spec_l13Spans.j1 (k + 1) x1 out x6 false b p = some (out, p) := by
      simp only [spec_l13Spans.j1]
      rw [if_neg (by simp)]
    rw [if_neg hn, e, ite_self]
    exact ⟨_, _, rfl, by omega, hs, by omega, by omega⟩
  | n + 1, out, x6, p, k, ho, hs, h0, h1, hp, hp', hk => by
    obtain ⟨k, rfl⟩ : ∃ m, k = m + 2 := ⟨k - 2, by omega⟩
    have stop : ∀ q, spec_l13Spans.j1 (k + 1) x1 out x6 false b q = some (out, q) := by
      intro q
      simp only [spec_l13Spans.j1]
      rw [if_neg (by simp)]
    simp only [spec_l13Spans.l0]
    by_cases hx : x6 < x1
    · rw [if_pos hx, if_pos (by omega)]
      obtain ⟨v1, e1, a1, b1, _⟩ := pick_ok hb p 8 hp (by omega) (k + 1) (by omega)
      rw [e1]
      simp only [Option.bind_some]
      by_cases hv : v1 > 0
      · rw [decide_eq_true hv]
        simp only [spec_l13Spans.j1, if_true]
        obtain ⟨v2, e2, a2, b2, _⟩ := pick_ok hb (p + 1) 5 (by omega) (by omega) k (by omega)
        have c2 := b2 (by omega)
        rw [e2]
        simp only [Option.bind_some]
        obtain ⟨v3, e3, a3, b3, _⟩ := pick_ok hb (p + 1 + 1) 5 (by omega) (by omega) k (by omega)
        have c3 := b3 (by omega)
        rw [e3]
        simp only [Option.bind_some]
        obtain ⟨v4, e4, a4, b4, _⟩ := pick_ok hb (p + 1 + 1 + 1) 3 (by omega) (by omega) k (by omega)
        have c4 := b4 (by omega)
        rw [e4]
        simp only [Option.bind_some]
        obtain ⟨v5, e5, a5, b5, _⟩ := pick_ok hb (p + 1 + 1 + 1 + 1) 3 (by omega) (by omega) k (by omega)
        have c5 := b5 (by omega)
        rw [e5]
        simp only [Option.bind_some]
        have hr := len_rd v3 a3 c3
        rw [w64 (x := x6 + 1) (by omega) (by omega), w64 (x := x6 + 1 + v2) (by omega) (by omega)]
        have c3' : v3 < (([10, 5, 20, 40, 1] : List Int).length : Int) := by simpa using c3
        have ho' : out.length < 4398046511104 := by omega
        by_cases ht : x6 + 1 + v2 > x1
        · rw [if_pos ht, if_pos a3, if_pos c3', if_pos ho', w64 (by omega) (by omega)]
          obtain ⟨v, q, g1, g2, g3, g4, g5⟩ := spans_l0 hb x1 hx1 n (out ++ [⟨x6, x1, rd [10, 5, 20, 40, 1] v3, v4⟩]) (x1 + v5) (p + 1 + 1 + 1 + 1 + 1) k (by simp; omega) (all_snoc hs (by simp only [SpR]; omega)) (by omega) (by omega) (by omega) (by omega) (by omega)
          exact ⟨v, q, g1, g2, g3, by omega, by omega⟩
        · rw [if_neg ht, if_pos a3, if_pos c3', if_pos ho', w64 (by omega) (by omega)]
          obtain ⟨v, q, g1, g2, g3, g4, g5⟩ := spans_l0 hb x1 hx1 n (out ++ [⟨x6, x6 + 1 + v2, rd [10, 5, 20, 40, 1] v3, v4⟩]) (x6 + 1 + v2 + v5) (p + 1 + 1 + 1 + 1 + 1) k (by simp; omega) (all_snoc hs (by simp only [SpR]; omega)) (by omega) (by omega) (by omega) (by omega) (by omega)
          exact ⟨v, q, g1, g2, g3, by omega, by omega⟩
      · rw [decide_eq_false hv, stop]
        exact ⟨_, _, rfl, by omega, hs, by omega, by omega⟩
    · rw [if_neg hx, stop]
      exact ⟨_, _, rfl, by omega, hs, by omega, by omega⟩
theorem spans_ok {b : List Int} (hb : Bytes b) (x1 : Int) (hx1 : 0 ≤ x1 ∧ x1 ≤ 100) (p : Int) (hp : 0 ≤ p) (hp' : p ≤ 700000) (k : Nat) (hk : 30 ≤ k) :
    ∃ v q, spec_l13Spans.f k b p x1 = some (v, q) ∧ v.length ≤ 12 ∧ (∀ s ∈ v, SpR s) ∧ p ≤ q ∧ q ≤ p + 100 := by
  obtain ⟨n, e, h0, h1, _⟩ := pick_ok hb p 4 hp (by omega) k (by omega)
  have h2 := h1 (by omega)
  unfold spec_l13Spans.f
  rw [e]
  simp only [Option.bind_some]
  obtain ⟨v, q, g1, g2, g3, g4, g5⟩ := spans_l0 hb x1 hx1 12 [] n (p + 1) k (by simp) (by simp) (by omega) (by omega) (by omega) (by omega) (by omega)
  exact ⟨v, q, g1, g2, g3, by omega, by omega⟩
theorem spoil_l0 (b : List Int) (p : Int) : ∀ (n : Nat) (y : List Sp) (i : Int) (k : Nat), y.length + n = 13 → (∀ s ∈ y, SpR s) → 0 ≤ i → i < y.length → n + 1 ≤ k → ∃ v, spec_l13SpoilSpans.l0 k y i b p = some (v, p) ∧ v.length ≤ 13 ∧ ∀ s ∈ v, SpR s
  | 0, y, i, k, hn, hs, h0, h1, hk => by
    obtain ⟨k, rfl⟩ : ∃ m, k = m + 1 := ⟨k - 1, by omega⟩
    simp only [spec_l13SpoilSpans.l0]
    rw [if_neg (by omega)]
    exact ⟨y, rfl, by omega, hs⟩
  | n + 1, y, i, k, hn, hs, h0, h1, hk => by
    obtain ⟨k, rfl⟩ : ∃ m, k = m + 1 := ⟨k - 1, by omega⟩
    have hm : SpR (rd_T50 y i) := by
      unfold rd_T50
      rw [List.getD_eq_getElem?_getD, List.getElem?_eq_getElem (by omega)]
      exact hs _ (List.getElem_mem _)
    simp only [spec_l13SpoilSpans.l0]
    rw [if_pos (by omega), if_pos h0, if_pos h1, if_pos (by omega)]
    exact spoil_l0 b p n _ i k (by simp; omega) (all_snoc hs hm) h0 (by simp; omega) (by omega)
theorem all_set {P : Sp → Prop} {y : List Sp} (h : ∀ s ∈ y, P s) (n : Nat) (x : Sp) (hx : P x) : ∀ s ∈ y.set n x, P s := by
  intro s hs
  rcases List.mem_or_eq_of_mem_set hs with g | g
  · exact h s g
  · exact g ▸ hx
theorem spoil_ok {b : List Int} (hb : Bytes b) (l : List Sp) (hl : l.length ≤ 12) (hs : ∀ s ∈ l, SpR s) (a2 : Int) (ha : 0 ≤ a2 ∧ a2 ≤ 100) (p : Int) (hp : 0 ≤ p) (hp' : p ≤ 800000) (k : Nat) (hk : 30 ≤ k) :
    ∃ v q, spec_l13SpoilSpans.f k b p l a2 = some (v, q) ∧ v.length ≤ 13 ∧ (∀ s ∈ v, SpR s) ∧ p ≤ q ∧ q ≤ p + 3 := by
  unfold spec_l13SpoilSpans.f
  simp only [Option.bind_some, List.nil_append, List.length_nil]
  rw [if_pos (by omega), w64 (x := a2 + 1) (by omega) (by omega)]
  by_cases hz : (l.length : Int) = 0
  · rw [if_pos hz]
    exact ⟨_, _, rfl, by simp, by intro s h; simp at h; subst h; simp only [SpR]; omega, by omega, by omega⟩
  rw [if_neg hz]
  obtain ⟨i, e1, a1, b1, _⟩ := pick_ok hb p (l.length : Int) hp (by omega) k (by omega)
  have c1 := b1 (by omega)
  rw [e1]
  simp only [Option.bind_some]
  obtain ⟨v2, e2, h2, b2, _⟩ := pick_ok hb (p + 1) 6 (by omega) (by omega) k (by omega)
  have c2 := b2 (by omega)
  rw [e2]
  simp only [Option.bind_some]
  have hm : SpR (rd_T50 l i) := by
    unfold rd_T50
    rw [List.getD_eq_getElem?_getD, List.getElem?_eq_getElem (by omega)]
    exact hs _ (List.getElem_mem _)
  have hm' := hm
  simp only [SpR] at hm'
  by_cases q0 : v2 = 0
  · rw [if_pos q0]
    obtain ⟨u, e3, hu⟩ := one_ok hb (p + 1 + 1) (by omega) (by omega) [-1, a2, 0] (by simp) k (by omega)
    rw [e3]
    simp only [Option.bind_some]
    rw [if_pos a1, if_pos c1]
    simp at hu
    exact ⟨_, _, rfl, by simp; omega, all_set hs _ _ (by simp only [SpR]; omega), by omega, by omega⟩
  rw [if_neg q0]
  by_cases q1 : v2 = 1
  · rw [if_pos q1, if_pos a1, if_pos c1]
    obtain ⟨u, e3, hu⟩ := one_ok hb (p + 1 + 1) (by omega) (by omega) [a2 + 1, (rd_T50 l i).f0, 0] (by simp) k (by omega)
    rw [e3]
    simp only [Option.bind_some]
    simp at hu
    exact ⟨_, _, rfl, by simp; omega, all_set hs _ _ (by simp only [SpR]; omega), by omega, by omega⟩
  rw [if_neg q1]
  by_cases q2 : v2 = 2
  · rw [if_pos q2]
    obtain ⟨u, e3, hu⟩ := one_ok hb (p + 1 + 1) (by omega) (by omega) [0, 41] (by simp) k (by omega)
    rw [e3]
    simp only [Option.bind_some]
    rw [if_pos a1, if_pos c1]
    simp at hu
    exact ⟨_, _, rfl, by simp; omega, all_set hs _ _ (by simp only [SpR]; omega), by omega, by omega⟩
  rw [if_neg q2]
  by_cases q3 : v2 = 3
  · rw [if_pos q3]
    obtain ⟨u, e3, hu⟩ := one_ok hb (p + 1 + 1) (by omega) (by omega) [-1, 10] (by simp) k (by omega)
    rw [e3]
    simp only [Option.bind_some]
    rw [if_pos a1, if_pos c1]
    simp at hu
    exact ⟨_, _, rfl, by simp; omega, all_set hs _ _ (by simp only [SpR]; omega), by omega, by omega⟩
  rw [if_neg q3]
  by_cases q4 : v2 = 4
  · rw [if_pos q4, if_pos a1, if_pos c1, if_pos (by omega)]
    exact ⟨_, _, rfl, by simp; omega, all_snoc hs hm, by omega, by omega⟩
  rw [if_neg q4]
  obtain ⟨v, g1, g2, g3⟩ := spoil_l0 b (p + 1 + 1) (13 - l.length) l i k (by omega) hs a1 c1 (by omega)
  exact ⟨v, _, g1, g2, g3, by omega, by omega⟩
theorem anyspans_ok {b : List Int} (hb : Bytes b) (x1 : Int) (hx1 : 0 ≤ x1 ∧ x1 ≤ 100) (p : Int) (hp : 0 ≤ p) (hp' : p ≤ 700000) (k : Nat) (hk : 30 ≤ k) :
    ∃ v q, spec_l13AnySpans.f k b p x1 = some (v, q) ∧ v.length ≤ 13 ∧ (∀ s ∈ v, SpR s) ∧ p ≤ q ∧ q ≤ p + 110 := by
  obtain ⟨v, q, g1, g2, g3, g4, g5⟩ := spans_ok hb x1 hx1 p hp hp' k hk
  unfold spec_l13AnySpans.f
  rw [g1]
  simp only [Option.bind_some]
  obtain ⟨n, e, h0, h1, _⟩ := pick_ok hb q 12 (by omega) (by omega) k (by omega)
  rw [e]
  simp only [Option.bind_some]
  by_cases hn : n = 0
  · rw [if_pos hn]
    obtain ⟨u, r, f1, f2, f3, f4, f5⟩ := spoil_ok hb v g2 g3 x1 hx1 (q + 1) (by omega) (by omega) k hk
    rw [f1]
    exact ⟨u, r, rfl, f2, f3, by omega, by omega⟩
  · rw [if_neg hn]
    exact ⟨v, _, rfl, by omega, g3, by omega, by omega⟩

theorem wcIn (a b c : Int) : laws_wcIn.f a b c = some (decide (b ≤ a ∧ a ≤ c)) := by
  unfold laws_wcIn.f
  by_cases h1 : b ≤ a <;> by_cases h2 : a ≤ c <;> simp [h1, h2]
theorem at_l0 (i : Int) : ∀ (suf pre : List Sp) (k : Nat), (∀ s ∈ suf, spOk s 80 = true) → (pre ++ suf).length ≤ 1048576 → suf.length + 1 ≤ k →
    laws_FnSpanAt.l0 k (pre ++ suf) i (lookL i suf).1 (lookL i suf).2 (pre.length : Int) = some true
  | [], pre, k, _, hl, hk => by
    obtain ⟨k, rfl⟩ : ∃ m, k = m + 1 := ⟨k - 1, by simp at hk; omega⟩
    simp only [laws_FnSpanAt.l0]
    rw [if_neg (len_end pre)]
    simp [lookL]
  | s :: suf, pre, k, hs, hl, hk => by
    obtain ⟨k, rfl⟩ : ∃ m, k = m + 1 := ⟨k - 1, by simp at hk; omega⟩
    have hp : (pre.length : Int) ≤ 1048576 := by simp at hl; omega
    have ih := at_l0 i suf (pre ++ [s]) k (fun t ht => hs t (List.mem_cons_of_mem _ ht)) (by simpa using hl) (by simp at hk; omega)
    rw [len_snoc, ← app_cons] at ih
    have h0 := hs s List.mem_cons_self
    simp only [spOk, Bool.and_eq_true, decide_eq_true_eq] at h0
    have e : lookL i (s :: suf) = if s.f0 ≤ i ∧ i < s.f1 then (s.f2, s.f3) else lookL i suf := rfl
    by_cases h1 : s.f0 ≤ i ∧ i < s.f1
    · rw [if_pos h1] at e
      rw [e]
      simp only [laws_FnSpanAt.l0]
      rw [if_pos (len_mid pre s suf), if_pos (by omega), rdSp_mid, w64_len (by omega) (by omega), w64 (by omega) (by omega), wcIn]
      simp only [Option.bind_some]
      rw [if_pos (by simp only [decide_eq_true_eq]; omega)]
      simp
    · rw [if_neg h1] at e
      rw [e]
      simp only [laws_FnSpanAt.l0]
      rw [if_pos (len_mid pre s suf), if_pos (by omega), rdSp_mid, w64_len (by omega) (by omega), w64 (by omega) (by omega), wcIn]
      simp only [Option.bind_some]
      rw [if_neg (by simp only [decide_eq_true_eq]; omega)]
      exact ih
theorem FnSpanAt : laws_FnSpanAt.Pure := by
  intro l _ _ hl
  refine ⟨100, ?_⟩
  unfold laws_FnSpanAt.f
  by_cases h0 : (l.length : Int) > 1048576
  · rw [if_pos h0]
  rw [if_neg h0]
  obtain ⟨b, e, hb⟩ := open_ok hl
  have hd : ∃ v i, spec_DrawSpanAt.f 100 l = some (v, i) ∧ v.length ≤ 13 ∧ (∀ s ∈ v, SpR s) := by
    unfold spec_DrawSpanAt.f
    rw [e]
    simp only [Option.bind_some]
    obtain ⟨v, q, g1, g2, g3, g4, g5⟩ := anyspans_ok hb 20 (by omega) 0 (by omega) (by omega) 100 (by omega)
    rw [g1]
    simp only [Option.bind_some]
    obtain ⟨n, e2, a1, b1, _⟩ := pick_ok hb q 22 (by omega) (by omega) 100 (by omega)
    rw [e2]
    exact ⟨v, _, rfl, g2, g3⟩
  obtain ⟨v, i, e1, hv, hs⟩ := hd
  have hw : ∀ s ∈ v, InI s.f0 := fun s h => by have := hs s h; simp only [SpR] at this; unfold InI; omega
  rw [e1]
  simp only [Option.bind_some]
  rw [implAt v i (by omega) _ (by omega), specAt v i hw (by omega) _ (by omega)]
  simp only [Option.bind_some, if_true]
  rw [specSpansOk v 80 hw (by omega) _ (by omega)]
  simp only [Option.bind_some]
  rw [show (100 : Nat) = 99 + 1 from rfl]
  simp only [laws_FnSpanAt.j0]
  cases h : spansOk v 80 with
  | false =>
    simp only [Bool.not_false, if_true]
    rw [implSpansOk v 80 (by omega) _ (by omega), specSpansOk v 80 hw (by omega) _ (by omega)]
    simp
  | true =>
    simp only [Bool.not_true, Bool.false_eq_true, if_false]
    have e3 : atL v i = lookL i v := by unfold atL; rw [if_pos h]
    rw [e3]
    exact at_l0 i v [] 99 (spansOk_mem h) (by simp; omega) (by omega)

end Go.Proofs.Ytjnmpamnlfabbaa.Pure
