/- The program's SpanAt answers as the reference's, for all spans (at most 2^20 of them: longer lists the law itself lets by) and every place, and writes into no argument: the law FnExactSpanAt answers true; no condition. -/
import Derived.Test.YtjnmpamnlfabbaaPFnExactSpanAtx5
namespace Go.Proofs.Ytjnmpamnlfabbaa.Pure
open Go.RowKit Go.Proofs.Ytjnmpamnlfabbaa.PFnExactSpanAt Go.Proofs.YtjnmpamnlfabbaaW.PrintWords Go.Proofs.YtjnmpamnlfabbaaW.PrintLast Go.Proofs.YtjnmpamnlfabbaaW.PrintMore
set_option linter.unusedVariables false
set_option linter.unusedSimpArgs false

/-! small lemmas on whole numbers, lists and rounds -/
theorem w64 {x : Int} (h : -9223372036854775808 ≤ x) (h' : x ≤ 9223372036854775807) : wrap64 x = x := by
  unfold wrap64
  omega
theorem in_i64 {x : Int} (h : (Lit.int .i64 x).wf = true) : -9223372036854775808 ≤ x ∧ x ≤ 9223372036854775807 := by
  simpa [Lit.wf, IntKind.min, IntKind.max, IntKind.bits, IntKind.signed] using h
theorem in_u8 {x : Int} (h : (Lit.int .u8 x).wf = true) : 0 ≤ x ∧ x ≤ 255 := by
  simpa [Lit.wf, IntKind.min, IntKind.max, IntKind.bits, IntKind.signed] using h
theorem rd_nat (l : List Int) (i : Nat) : rd l (i : Int) = l.getD i 0 := by
  unfold rd
  rw [Int.toNat_natCast]

/-! lists, place by place: what lies ahead of a place, the place, what lies behind -/
theorem getD_mid {α : Type} (pre : List α) (x : α) (suf : List α) (d : α) : (pre ++ x :: suf).getD ((pre.length : Int)).toNat d = x := by
  rw [Int.toNat_natCast, List.getD_eq_getElem?_getD]
  simp
theorem set_mid {α : Type} (pre : List α) (x y : α) (suf : List α) : (pre ++ x :: suf).set ((pre.length : Int)).toNat y = pre ++ y :: suf := by
  rw [Int.toNat_natCast]
  simp
theorem rd_mid (pre : List Int) (x : Int) (suf : List Int) : rd (pre ++ x :: suf) (pre.length : Int) = x := getD_mid pre x suf 0
theorem len_mid {α : Type} (pre : List α) (x : α) (suf : List α) : (pre.length : Int) < ((pre ++ x :: suf).length : Int) := by
  simp only [List.length_append, List.length_cons]
  omega
theorem len_end {α : Type} (pre : List α) : ¬ (pre.length : Int) < ((pre ++ []).length : Int) := by simp
theorem len_snoc {α : Type} (pre : List α) (x : α) : ((pre ++ [x]).length : Int) = (pre.length : Int) + 1 := by simp
theorem app_cons {α : Type} (pre : List α) (x : α) (suf : List α) : pre ++ x :: suf = (pre ++ [x]) ++ suf := by simp
theorem w64_len {n : Int} (h0 : 0 ≤ n) (h : n ≤ 9000000000000000000) : wrap64 (n + 1) = n + 1 := w64 (by omega) (by omega)

abbrev Sp := S50
abbrev zSp : Sp := z50
theorem rdSp_mid (pre : List Sp) (x : Sp) (suf : List Sp) : rd_T50 (pre ++ x :: suf) (pre.length : Int) = x := getD_mid pre x suf _

/-- a span is ok by itself -/
def spOk (s : Sp) (c : Int) : Bool := decide (0 ≤ s.f0) && decide (s.f0 < c) && decide (s.f0 < s.f1) && decide (s.f1 ≤ c) && decide (1 ≤ s.f2) && decide (s.f2 ≤ 40) && decide (0 ≤ s.f3) && decide (s.f3 ≤ 9)
theorem implSpanOk (s : Sp) (c : Int) : impl_spanOk.f s.f0 s.f1 s.f2 s.f3 c = some (spOk s c) := by
  unfold impl_spanOk.f spOk
  by_cases h1 : 0 ≤ s.f0
  · by_cases h2 : s.f0 < c
    · by_cases h3 : s.f0 < s.f1
      · by_cases h4 : s.f1 ≤ c
        · by_cases h5 : 1 ≤ s.f2
          · by_cases h6 : s.f2 ≤ 40
            · by_cases h7 : 0 ≤ s.f3 <;> simp [h1, h2, h3, h4, h5, h6, h7]
            · simp [h1, h2, h3, h4, h5, h6]
          · simp [h1, h2, h3, h4, h5]
        · simp [h1, h2, h3, h4]
      · simp [h1, h2, h3]
    · simp [h1, h2]
  · simp [h1]
def chainOk (c : Int) : Int → List Sp → Bool
  | _, [] => true
  | p, s :: r => spOk s c && decide (p ≤ s.f0) && chainOk c s.f1 r
def spansOk (l : List Sp) (c : Int) : Bool := chainOk c 0 l && (decide (0 ≤ c) && decide (c ≤ 80) && decide (l.length ≤ 12))
def Ahead (pre : List Sp) (p : Int) : Prop := (pre = [] ∧ p = 0) ∨ ∃ q s, pre = q ++ [s] ∧ p = s.f1
theorem ahead_step (pre : List Sp) (s : Sp) : Ahead (pre ++ [s]) s.f1 := .inr ⟨pre, s, rfl, rfl⟩
theorem implSpansOk_l0 (c : Int) : ∀ (suf pre : List Sp) (p : Int) (k : Nat), Ahead pre p → (pre ++ suf).length ≤ 1048576 → suf.length + 1 ≤ k →
    impl_SpansOk.l0 k (pre ++ suf) c (pre ++ suf) ((pre ++ suf).length : Int) (pre.length : Int) = some (chainOk c p suf && (decide (0 ≤ c) && decide (c ≤ 80) && decide ((pre ++ suf).length ≤ 12)))
  | [], pre, p, k, ha, hl, hk => by
    obtain ⟨k, rfl⟩ : ∃ m, k = m + 1 := ⟨k - 1, by simp at hk; omega⟩
    simp only [impl_SpansOk.l0, chainOk]
    rw [if_neg (len_end pre)]
    by_cases h1 : 0 ≤ c <;> by_cases h2 : c ≤ 80 <;> simp [h1, h2]
    omega
  | s :: suf, pre, p, k, ha, hl, hk => by
    obtain ⟨k, rfl⟩ : ∃ m, k = m + 1 := ⟨k - 1, by simp at hk; omega⟩
    have hp : (pre.length : Int) ≤ 1048576 := by simp at hl; omega
    simp only [impl_SpansOk.l0, chainOk]
    rw [if_pos (len_mid pre s suf), if_pos (by omega), if_pos (len_mid pre s suf), rdSp_mid, implSpanOk]
    simp only [Option.bind_some]
    cases hs : spOk s c with
    | false => simp
    | true =>
      have ih := implSpansOk_l0 c suf (pre ++ [s]) s.f1 k (ahead_step pre s) (by simpa using hl) (by simp at hk; omega)
      rw [len_snoc, ← app_cons] at ih
      simp only [if_true, Bool.true_and]
      rw [w64_len (by omega) (by omega)]
      rcases ha with ⟨rfl, rfl⟩ | ⟨q, t, rfl, rfl⟩
      · have h0 : (0 : Int) ≤ s.f0 := by
          simp only [spOk, Bool.and_eq_true, decide_eq_true_eq] at hs
          omega
        rw [if_neg (by simp), ih]
        simp [h0]
      · have e1 : (((q ++ [t]).length : Int)) - 1 = (q.length : Int) := by simp
        rw [if_pos (by simp), e1, w64 (by omega) (by simp at hp; omega), if_pos (by omega), if_pos (by simp; omega)]
        have e2 : rd_T50 ((q ++ [t]) ++ s :: suf) (q.length : Int) = t := by
          rw [List.append_assoc]
          exact rdSp_mid q t _
        rw [e2, ih]
        by_cases hg : t.f1 > s.f0
        · rw [if_pos hg]
          have : ¬ t.f1 ≤ s.f0 := by omega
          simp [this]
        · rw [if_neg hg]
          have : t.f1 ≤ s.f0 := by omega
          simp [this]
theorem implSpansOk (l : List Sp) (c : Int) (hl : l.length ≤ 1048576) (k : Nat) (hk : l.length + 1 ≤ k) : impl_SpansOk.f k l c = some (spansOk l c) := by
  unfold impl_SpansOk.f spansOk
  exact implSpansOk_l0 c l [] 0 k (.inl ⟨rfl, rfl⟩) (by simpa using hl) hk

theorem specIn (a b c : Int) : spec_l1In.f a b c = some (decide (b ≤ a ∧ a ≤ c)) := by
  unfold spec_l1In.f
  by_cases h1 : b ≤ a <;> by_cases h2 : a ≤ c <;> simp [h1, h2]

theorem specL6Ok (s : Sp) (c : Int) (h0 : 0 ≤ c) (h1 : c ≤ 80) (hs : -9223372036854775808 ≤ s.f0) (hs' : s.f0 ≤ 9223372036854775807) : spec_l6Ok.f s.f0 s.f1 s.f2 s.f3 c = some (spOk s c) := by
  unfold spec_l6Ok.f spOk
  rw [w64 (x := c - 1) (by omega) (by omega)]
  simp only [specIn, Option.bind_some, decide_eq_true_eq]
  by_cases g0 : 0 ≤ s.f0 ∧ s.f0 ≤ c - 1
  · rw [if_pos g0, w64 (x := s.f0 + 1) (by omega) (by omega)]
    have a1 : (0 : Int) ≤ s.f0 := g0.1
    have a2 : s.f0 < c := by omega
    by_cases g1 : s.f0 + 1 ≤ s.f1 ∧ s.f1 ≤ c
    · rw [if_pos g1]
      have a3 : s.f0 < s.f1 := by omega
      have a4 : s.f1 ≤ c := g1.2
      by_cases g2 : 1 ≤ s.f2 ∧ s.f2 ≤ 40
      · rw [if_pos g2]
        simp [a1, a2, a3, a4, g2.1, g2.2]
      · rw [if_neg g2]
        have : (decide (1 ≤ s.f2) && decide (s.f2 ≤ 40)) = false := by
          simp only [Bool.and_eq_false_iff, decide_eq_false_iff_not]
          omega
        simp only [Option.some.injEq, Bool.and_assoc]
        rw [show ∀ z, (decide (1 ≤ s.f2) && (decide (s.f2 ≤ 40) && z)) = ((decide (1 ≤ s.f2) && decide (s.f2 ≤ 40)) && z) from fun z => (Bool.and_assoc _ _ _).symm, this]
        simp
    · rw [if_neg g1]
      have : (decide (s.f0 < s.f1) && decide (s.f1 ≤ c)) = false := by
        simp only [Bool.and_eq_false_iff, decide_eq_false_iff_not]
        omega
      simp only [Option.some.injEq, Bool.and_assoc]
      rw [show ∀ z, (decide (s.f0 < s.f1) && (decide (s.f1 ≤ c) && z)) = ((decide (s.f0 < s.f1) && decide (s.f1 ≤ c)) && z) from fun z => (Bool.and_assoc _ _ _).symm, this]
      simp
  · rw [if_neg g0]
    have : (decide (0 ≤ s.f0) && decide (s.f0 < c)) = false := by
      simp only [Bool.and_eq_false_iff, decide_eq_false_iff_not]
      omega
    simp only [Option.some.injEq, Bool.and_assoc]
    rw [show ∀ z, (decide (0 ≤ s.f0) && (decide (s.f0 < c) && z)) = ((decide (0 ≤ s.f0) && decide (s.f0 < c)) && z) from fun z => (Bool.and_assoc _ _ _).symm, this]
    simp
def InI (x : Int) : Prop := -9223372036854775808 ≤ x ∧ x ≤ 9223372036854775807
theorem specSpansOk_l0 (c : Int) (hc : 0 ≤ c ∧ c ≤ 80) : ∀ (suf pre : List Sp) (p : Int) (k : Nat), Ahead pre p → (∀ s ∈ suf, InI s.f0) → (pre ++ suf).length ≤ 1048576 → suf.length + 1 ≤ k →
    spec_SpansOk.l0 k (pre ++ suf) c (pre.length : Int) = some (chainOk c p suf && decide ((pre ++ suf).length ≤ 12))
  | [], pre, p, k, ha, hw, hl, hk => by
    obtain ⟨k, rfl⟩ : ∃ m, k = m + 1 := ⟨k - 1, by simp at hk; omega⟩
    simp only [spec_SpansOk.l0, chainOk]
    rw [if_neg (len_end pre)]
    simp only [specIn, Option.bind_some, hc, and_self, decide_true, Bool.true_and]
    by_cases h2 : (pre ++ []).length ≤ 12
    · rw [if_pos (by omega)]; simp only [h2, decide_true]
    · rw [if_neg (by omega)]; simp only [h2, decide_false]
  | s :: suf, pre, p, k, ha, hw, hl, hk => by
    obtain ⟨k, rfl⟩ : ∃ m, k = m + 1 := ⟨k - 1, by simp at hk; omega⟩
    have hp : (pre.length : Int) ≤ 1048576 := by simp at hl; omega
    simp only [spec_SpansOk.l0, chainOk]
    obtain ⟨hs0, hs1⟩ := hw s List.mem_cons_self
    rw [if_pos (len_mid pre s suf), if_pos (by omega), rdSp_mid, specL6Ok s c hc.1 hc.2 hs0 hs1]
    simp only [Option.bind_some]
    cases hs : spOk s c with
    | false => simp
    | true =>
      have ih := specSpansOk_l0 c hc suf (pre ++ [s]) s.f1 k (ahead_step pre s) (fun t ht => hw t (List.mem_cons_of_mem _ ht)) (by simpa using hl) (by simp at hk; omega)
      rw [len_snoc, ← app_cons] at ih
      simp only [if_true, Bool.true_and]
      rw [w64_len (by omega) (by omega)]
      rcases ha with ⟨rfl, rfl⟩ | ⟨q, t, rfl, rfl⟩
      · have h0 : (0 : Int) ≤ s.f0 := by
          simp only [spOk, Bool.and_eq_true, decide_eq_true_eq] at hs
          omega
        rw [if_neg (by simp), ih]
        simp [h0]
      · have e1 : (((q ++ [t]).length : Int)) - 1 = (q.length : Int) := by simp
        rw [if_pos (by simp), e1, w64 (by omega) (by simp at hp; omega), if_pos (by omega), if_pos (by simp; omega)]
        have e2 : rd_T50 ((q ++ [t]) ++ s :: suf) (q.length : Int) = t := by
          rw [List.append_assoc]
          exact rdSp_mid q t _
        rw [e2, ih]
        by_cases hg : t.f1 > s.f0
        · rw [if_pos hg]
          have : ¬ t.f1 ≤ s.f0 := by omega
          simp [this]
        · rw [if_neg hg]
          have : t.f1 ≤ s.f0 := by omega
          simp [this]
theorem specL6_some (a b c d e : Int) : ∃ r, spec_l6Ok.f a b c d e = some r := by
  unfold spec_l6Ok.f
  simp only [specIn, Option.bind_some]
  repeat' split
  all_goals exact ⟨_, rfl⟩
theorem specSpansOk_bad (c : Int) (hc : ¬ (0 ≤ c ∧ c ≤ 80)) : ∀ (suf pre : List Sp) (k : Nat), (pre ++ suf).length ≤ 1048576 → suf.length + 1 ≤ k → spec_SpansOk.l0 k (pre ++ suf) c (pre.length : Int) = some false
  | [], pre, k, hl, hk => by
    obtain ⟨k, rfl⟩ : ∃ m, k = m + 1 := ⟨k - 1, by simp at hk; omega⟩
    simp only [spec_SpansOk.l0]
    rw [if_neg (len_end pre)]
    simp only [specIn, Option.bind_some, hc, decide_false, ite_self]
  | s :: suf, pre, k, hl, hk => by
    obtain ⟨k, rfl⟩ : ∃ m, k = m + 1 := ⟨k - 1, by simp at hk; omega⟩
    have hp : (pre.length : Int) ≤ 1048576 := by simp at hl; omega
    have ih := specSpansOk_bad c hc suf (pre ++ [s]) k (by simpa using hl) (by simp at hk; omega)
    rw [len_snoc, ← app_cons] at ih
    simp only [spec_SpansOk.l0]
    rw [if_pos (len_mid pre s suf), if_pos (by omega), rdSp_mid]
    obtain ⟨r, hr⟩ := specL6_some s.f0 s.f1 s.f2 s.f3 c
    rw [hr]
    simp only [Option.bind_some]
    rw [w64_len (by omega) (by omega), ih]
    cases r with
    | false => simp
    | true =>
      simp only [if_true]
      by_cases h0 : (pre.length : Int) > 0
      · rw [if_pos h0, w64 (by omega) (by omega), if_pos (by omega), if_pos (by simp; omega)]
        simp
      · rw [if_neg h0]
theorem specSpansOk (l : List Sp) (c : Int) (hw : ∀ s ∈ l, InI s.f0) (hl : l.length ≤ 1048576) (k : Nat) (hk : l.length + 1 ≤ k) : spec_SpansOk.f k l c = some (spansOk l c) := by
  unfold spec_SpansOk.f spansOk
  by_cases hc : 0 ≤ c ∧ c ≤ 80
  · have h := specSpansOk_l0 c hc l [] 0 k (.inl ⟨rfl, rfl⟩) hw (by simpa using hl) hk
    rw [show ((0 : Int)) = (([] : List Sp).length : Int) from rfl]
    rw [show l = [] ++ l from rfl, h]
    simp [hc.1, hc.2]
  · have h := specSpansOk_bad c hc l [] k (by simpa using hl) hk
    have e : (decide (0 ≤ c) && decide (c ≤ 80)) = false := by
      simp only [Bool.and_eq_false_iff, decide_eq_false_iff_not]
      omega
    rw [e]
    simpa using h

def lookL (i : Int) : List Sp → Int × Int
  | [] => (10, 0)
  | s :: r => if s.f0 ≤ i ∧ i < s.f1 then (s.f2, s.f3) else lookL i r
theorem chainOk_mem (c : Int) : ∀ (l : List Sp) (p : Int), chainOk c p l = true → ∀ s ∈ l, spOk s c = true
  | [], _, _, s, hs => by cases hs
  | x :: r, p, h, s, hs => by
    simp only [chainOk, Bool.and_eq_true] at h
    rcases List.mem_cons.1 hs with rfl | hs
    · exact h.1.1
    · exact chainOk_mem c r x.f1 h.2 s hs
theorem implLookAt_l0 (i : Int) : ∀ (suf pre : List Sp) (k : Nat), (pre ++ suf).length ≤ 1048576 → suf.length + 1 ≤ k →
    impl_lookAt.l0 k i (pre ++ suf) ((pre ++ suf).length : Int) (pre.length : Int) = some (lookL i suf)
  | [], pre, k, hl, hk => by
    obtain ⟨k, rfl⟩ : ∃ m, k = m + 1 := ⟨k - 1, by simp at hk; omega⟩
    simp only [impl_lookAt.l0]
    rw [if_neg (len_end pre)]
    rfl
  | s :: suf, pre, k, hl, hk => by
    obtain ⟨k, rfl⟩ : ∃ m, k = m + 1 := ⟨k - 1, by simp at hk; omega⟩
    have hp : (pre.length : Int) ≤ 1048576 := by simp at hl; omega
    have ih := implLookAt_l0 i suf (pre ++ [s]) k (by simpa using hl) (by simp at hk; omega)
    rw [len_snoc, ← app_cons] at ih
    simp only [impl_lookAt.l0, lookL]
    rw [if_pos (len_mid pre s suf), if_pos (by omega), if_pos (len_mid pre s suf), rdSp_mid, w64_len (by omega) (by omega), ih]
    by_cases h1 : s.f0 ≤ i <;> by_cases h2 : i < s.f1 <;> simp [h1, h2]
theorem specL6At_l0 (i : Int) : ∀ (suf pre : List Sp) (k : Nat), (∀ s ∈ suf, spOk s 80 = true) → (pre ++ suf).length ≤ 1048576 → suf.length + 1 ≤ k →
    spec_l6At.l0 k (pre ++ suf) i (pre.length : Int) = some (lookL i suf)
  | [], pre, k, _, hl, hk => by
    obtain ⟨k, rfl⟩ : ∃ m, k = m + 1 := ⟨k - 1, by simp at hk; omega⟩
    simp only [spec_l6At.l0]
    rw [if_neg (len_end pre)]
    rfl
  | s :: suf, pre, k, hs, hl, hk => by
    obtain ⟨k, rfl⟩ : ∃ m, k = m + 1 := ⟨k - 1, by simp at hk; omega⟩
    have hp : (pre.length : Int) ≤ 1048576 := by simp at hl; omega
    have ih := specL6At_l0 i suf (pre ++ [s]) k (fun t ht => hs t (List.mem_cons_of_mem _ ht)) (by simpa using hl) (by simp at hk; omega)
    rw [len_snoc, ← app_cons] at ih
    have h0 := hs s List.mem_cons_self
    simp only [spOk, Bool.and_eq_true, decide_eq_true_eq] at h0
    simp only [spec_l6At.l0, lookL]
    rw [if_pos (len_mid pre s suf), if_pos (by omega), rdSp_mid, w64_len (by omega) (by omega), ih, w64 (by omega) (by omega), specIn]
    simp only [Option.bind_some]
    by_cases h1 : s.f0 ≤ i ∧ i < s.f1
    · rw [if_pos h1, if_pos (by simp only [decide_eq_true_eq]; omega)]
    · rw [if_neg h1, if_neg (by simp only [decide_eq_true_eq]; omega)]

abbrev LSp := S58
theorem rdLSp_mid (pre : List LSp) (x : LSp) (suf : List LSp) : rd_T58 (pre ++ x :: suf) (pre.length : Int) = x := getD_mid pre x suf _
def cvt (x : LSp) : Sp := ⟨x.f0, x.f1, x.f2, x.f3⟩
theorem toSpanS_l0 : ∀ (suf pre : List LSp) (rest : List Sp) (k : Nat), rest.length = suf.length → (pre ++ suf).length ≤ 1048576 → suf.length + 1 ≤ k →
    laws_toSpanS.l0 k (pre ++ suf) (pre.map cvt ++ rest) (pre.length : Int) = some ((pre ++ suf).map cvt)
  | [], pre, rest, k, hr, hl, hk => by
    obtain ⟨k, rfl⟩ : ∃ m, k = m + 1 := ⟨k - 1, by simp at hk; omega⟩
    obtain rfl : rest = [] := List.eq_nil_of_length_eq_zero (by simpa using hr)
    simp only [laws_toSpanS.l0]
    rw [if_neg (len_end pre)]
    simp
  | x :: suf, pre, [], k, hr, hl, hk => by simp at hr
  | x :: suf, pre, y :: rest, k, hr, hl, hk => by
    obtain ⟨k, rfl⟩ : ∃ m, k = m + 1 := ⟨k - 1, by simp at hk; omega⟩
    have hp : (pre.length : Int) ≤ 1048576 := by simp at hl; omega
    have ih := toSpanS_l0 suf (pre ++ [x]) rest k (by simpa using hr) (by simpa using hl) (by simp at hk; omega)
    rw [len_snoc, ← app_cons] at ih
    have e : (pre.map cvt ++ y :: rest).set ((pre.length : Int)).toNat (cvt x) = (pre ++ [x]).map cvt ++ rest := by
      have := set_mid (pre.map cvt) y (cvt x) rest
      rw [List.length_map] at this
      rw [this]
      simp
    simp only [laws_toSpanS.l0, laws_toSpan.f]
    rw [if_pos (len_mid pre x suf), if_pos (by omega), rdLSp_mid]
    simp only [Option.bind_some]
    rw [if_pos (by simp; omega), w64_len (by omega) (by omega), ← ih, ← e]
    rfl
theorem toSpanS_ok (l : List LSp) (hl : l.length ≤ 1048576) (k : Nat) (hk : l.length + 1 ≤ k) : laws_toSpanS.f k l = some (l.map cvt) := by
  unfold laws_toSpanS.f
  rw [if_pos (by omega), if_pos (by omega), Int.toNat_natCast]
  exact toSpanS_l0 l [] (List.replicate l.length zSp) k (by simp) (by simpa using hl) hk

theorem eqSpanS_l0 : ∀ (suf pre : List Sp) (k : Nat), (pre ++ suf).length ≤ 1048576 → suf.length + 1 ≤ k → laws_eqSpanS.l0 k (pre ++ suf) (pre ++ suf) (pre.length : Int) = some true
  | [], pre, k, hl, hk => by
    obtain ⟨k, rfl⟩ : ∃ m, k = m + 1 := ⟨k - 1, by simp at hk; omega⟩
    simp only [laws_eqSpanS.l0]
    rw [if_neg (len_end pre)]
  | x :: suf, pre, k, hl, hk => by
    obtain ⟨k, rfl⟩ : ∃ m, k = m + 1 := ⟨k - 1, by simp at hk; omega⟩
    have hp : (pre.length : Int) ≤ 1048576 := by simp at hl; omega
    have ih := eqSpanS_l0 suf (pre ++ [x]) k (by simpa using hl) (by simp at hk; omega)
    rw [len_snoc, ← app_cons] at ih
    simp only [laws_eqSpanS.l0]
    rw [if_pos (len_mid pre x suf), if_pos (by omega), if_pos (len_mid pre x suf), rdSp_mid]
    simp only [laws_eqSpan.f, if_true, ↓reduceIte, Option.bind_some]
    rw [w64_len (by omega) (by omega), ih]
theorem eqSpanS_ok (l : List Sp) (hl : l.length ≤ 1048576) (k : Nat) (hk : l.length + 1 ≤ k) : laws_eqSpanS.f k l l = some true := by
  unfold laws_eqSpanS.f
  rw [if_pos rfl]
  exact eqSpanS_l0 l [] k (by simpa using hl) hk

def atL (l : List Sp) (i : Int) : Int × Int := if spansOk l 80 = true then lookL i l else (0, 0)
theorem implAt (l : List Sp) (i : Int) (hl : l.length ≤ 1048576) (k : Nat) (hk : l.length + 1 ≤ k) : impl_SpanAt.f k l i = some (atL l i) := by
  unfold impl_SpanAt.f atL
  rw [implSpansOk l 80 hl k hk]
  simp only [Option.bind_some]
  by_cases h : spansOk l 80 = true
  · rw [if_pos h, if_pos h]
    have h1 : impl_lookAt.l0 k i l (l.length : Int) 0 = some (lookL i l) := implLookAt_l0 i l [] k (by simpa using hl) hk
    unfold impl_lookAt.f
    rw [h1]
    simp
  · rw [if_neg h, if_neg h]
theorem specAt (l : List Sp) (i : Int) (hw : ∀ s ∈ l, InI s.f0) (hl : l.length ≤ 1048576) (k : Nat) (hk : l.length + 1 ≤ k) : spec_SpanAt.f k l i = some (atL l i) := by
  unfold spec_SpanAt.f atL
  rw [specSpansOk l 80 hw hl k hk]
  simp only [Option.bind_some]
  by_cases h : spansOk l 80 = true
  · rw [if_pos h, if_pos h]
    have hm : ∀ s ∈ l, spOk s 80 = true := by
      unfold spansOk at h
      rw [Bool.and_eq_true] at h
      exact chainOk_mem 80 l 0 h.1
    have h1 : spec_l6At.l0 k l i 0 = some (lookL i l) := specL6At_l0 i l [] k hm (by simpa using hl) hk
    unfold spec_l6At.f
    rw [h1]
    simp
  · rw [if_neg h, if_neg h]
theorem FnExactSpanAt : laws_FnExactSpanAt.Pure := by
  intro l i _ _ hw hi
  unfold laws_FnExactSpanAt.f laws_szSpanS.f
  by_cases hb : l.length ≤ 1048576
  · refine ⟨l.length + 10, ?_⟩
    rw [w64 (by omega) (by omega), if_neg (by omega)]
    simp only [Option.bind_some]
    have hw' : ∀ s ∈ l.map cvt, InI s.f0 := by
      intro s hs
      obtain ⟨x, hx, rfl⟩ := List.mem_map.1 hs
      exact in_i64 (hw x hx).1
    rw [if_neg (by omega), toSpanS_ok l hb _ (by omega)]
    simp only [Option.bind_some]
    rw [specAt _ i hw' (by simpa using hb) _ (by simp), implAt _ i (by simpa using hb) _ (by simp)]
    simp only [Option.bind_some, if_true, bne_self_eq_false]
    rw [show l.length + 10 = (l.length + 9) + 1 from rfl]
    simp only [laws_FnExactSpanAt.j0]
    rw [toSpanS_ok l hb _ (by omega)]
    simp only [Option.bind_some]
    rw [eqSpanS_ok _ (by simpa using hb) _ (by simp)]
    simp
  · refine ⟨0, ?_⟩
    rw [w64 (by omega) (by omega), if_pos (by omega)]
    simp

end Go.Proofs.Ytjnmpamnlfabbaa.Pure
