/- The program's SpansPut answers as the reference's, for all spans (at most 2^20 of them: longer lists the law itself lets by), counts and new spans, writes into no argument, and its answer is its own: the law FnExactSpansPut answers true; no condition. -/
import Derived.Test.YtkapjhlcmicpnaaPFnExactSpansPutx11
namespace Go.Proofs.Ytkapjhlcmicpnaa.Pure
open Go.RowKit Go.Proofs.Ytkapjhlcmicpnaa.PFnExactSpansPut Go.Proofs.YtkapjhlcmicpnaaW.PrintWords Go.Proofs.YtkapjhlcmicpnaaW.PrintLast Go.Proofs.YtkapjhlcmicpnaaW.PrintMore
set_option linter.unusedVariables false
set_option linter.unusedSimpArgs false

/-! small lemmas on whole numbers, lists and rounds -/
theorem w64 {x : Int} (h : -9223372036854775808 ≤ x) (h' : x ≤ 9223372036854775807) : wrap64 x = x := by
  unfold wrap64
  omega
theorem in_i64 {x : Int} (h : (Lit.int .i64 x).wf = true) : -9223372036854775808 ≤ x ∧ x ≤ 9223372036854775807 := by
  simpa [Lit.wf, IntKind.min, IntKind.max, IntKind.bits, IntKind.signed] using h
theorem in_u8 {x : Int} (h : (Lit.int .u8 x).wf = true) : 0 ≤ x ∧ x ≤ 255 := by
  simpa [Lit.wf, IntKind.min, IntKind.max, IntKind.bits, IntKind.signed] using h
theorem rd_nat (l : List Int) (i : Nat) : rd l (i : Int) = l.getD i 0 := by
  unfold rd
  rw [Int.toNat_natCast]

/-! lists, place by place: what lies ahead of a place, the place, what lies behind -/
theorem getD_mid {α : Type} (pre : List α) (x : α) (suf : List α) (d : α) : (pre ++ x :: suf).getD ((pre.length : Int)).toNat d = x := by
  rw [Int.toNat_natCast, List.getD_eq_getElem?_getD]
  simp
theorem set_mid {α : Type} (pre : List α) (x y : α) (suf : List α) : (pre ++ x :: suf).set ((pre.length : Int)).toNat y = pre ++ y :: suf := by
  rw [Int.toNat_natCast]
  simp
theorem rd_mid (pre : List Int) (x : Int) (suf : List Int) : rd (pre ++ x :: suf) (pre.length : Int) = x := getD_mid pre x suf 0
theorem len_mid {α : Type} (pre : List α) (x : α) (suf : List α) : (pre.length : Int) < ((pre ++ x :: suf).length : Int) := by
  simp only [List.length_append, List.length_cons]
  omega
theorem len_end {α : Type} (pre : List α) : ¬ (pre.length : Int) < ((pre ++ []).length : Int) := by simp
theorem len_snoc {α : Type} (pre : List α) (x : α) : ((pre ++ [x]).length : Int) = (pre.length : Int) + 1 := by simp
theorem app_cons {α : Type} (pre : List α) (x : α) (suf : List α) : pre ++ x :: suf = (pre ++ [x]) ++ suf := by simp
theorem w64_len {n : Int} (h0 : 0 ≤ n) (h : n ≤ 9000000000000000000) : wrap64 (n + 1) = n + 1 := w64 (by omega) (by omega)

abbrev Sp := S50
abbrev zSp : Sp := z50
theorem rdSp_mid (pre : List Sp) (x : Sp) (suf : List Sp) : rd_T50 (pre ++ x :: suf) (pre.length : Int) = x := getD_mid pre x suf _

/-- a span is ok by itself -/
def spOk (s : Sp) (c : Int) : Bool := decide (0 ≤ s.f0) && decide (s.f0 < c) && decide (s.f0 < s.f1) && decide (s.f1 ≤ c) && decide (1 ≤ s.f2) && decide (s.f2 ≤ 40) && decide (0 ≤ s.f3) && decide (s.f3 ≤ 9)
theorem implSpanOk (s : Sp) (c : Int) : impl_spanOk.f s.f0 s.f1 s.f2 s.f3 c = some (spOk s c) := by
  unfold impl_spanOk.f spOk
  by_cases h1 : 0 ≤ s.f0
  · by_cases h2 : s.f0 < c
    · by_cases h3 : s.f0 < s.f1
      · by_cases h4 : s.f1 ≤ c
        · by_cases h5 : 1 ≤ s.f2
          · by_cases h6 : s.f2 ≤ 40
            · by_cases h7 : 0 ≤ s.f3 <;> simp [h1, h2, h3, h4, h5, h6, h7]
            · simp [h1, h2, h3, h4, h5, h6]
          · simp [h1, h2, h3, h4, h5]
        · simp [h1, h2, h3, h4]
      · simp [h1, h2, h3]
    · simp [h1, h2]
  · simp [h1]
def chainOk (c : Int) : Int → List Sp → Bool
  | _, [] => true
  | p, s :: r => spOk s c && decide (p ≤ s.f0) && chainOk c s.f1 r
def spansOk (l : List Sp) (c : Int) : Bool := chainOk c 0 l && (decide (0 ≤ c) && decide (c ≤ 80) && decide (l.length ≤ 12))
def Ahead (pre : List Sp) (p : Int) : Prop := (pre = [] ∧ p = 0) ∨ ∃ q s, pre = q ++ [s] ∧ p = s.f1
theorem ahead_step (pre : List Sp) (s : Sp) : Ahead (pre ++ [s]) s.f1 := .inr ⟨pre, s, rfl, rfl⟩
theorem implSpansOk_l0 (c : Int) : ∀ (suf pre : List Sp) (p : Int) (k : Nat), Ahead pre p → (pre ++ suf).length ≤ 1048576 → suf.length + 1 ≤ k →
    impl_SpansOk.l0 k (pre ++ suf) c (pre ++ suf) ((pre ++ suf).length : Int) (pre.length : Int) = some (chainOk c p suf && (decide (0 ≤ c) && decide (c ≤ 80) && decide ((pre ++ suf).length ≤ 12)))
  | [], pre, p, k, ha, hl, hk => by
    obtain ⟨k, rfl⟩ : ∃ m, k = m + 1 := ⟨k - 1, by simp at hk; omega⟩
    simp only [impl_SpansOk.l0, chainOk]
    rw [if_neg (len_end pre)]
    by_cases h1 : 0 ≤ c <;> by_cases h2 : c ≤ 80 <;> simp [h1, h2]
    omega
  | s :: suf, pre, p, k, ha, hl, hk => by
    obtain ⟨k, rfl⟩ : ∃ m, k = m + 1 := ⟨k - 1, by simp at hk; omega⟩
    have hp : (pre.length : Int) ≤ 1048576 := by simp at hl; omega
    simp only [impl_SpansOk.l0, chainOk]
    rw [if_pos (len_mid pre s suf), if_pos (by omega), if_pos (len_mid pre s suf), rdSp_mid, implSpanOk]
    simp only [Option.bind_some]
    cases hs : spOk s c with
    | false => simp
    | true =>
      have ih := implSpansOk_l0 c suf (pre ++ [s]) s.f1 k (ahead_step pre s) (by simpa using hl) (by simp at hk; omega)
      rw [len_snoc, ← app_cons] at ih
      simp only [if_true, Bool.true_and]
      rw [w64_len (by omega) (by omega)]
      rcases ha with ⟨rfl, rfl⟩ | ⟨q, t, rfl, rfl⟩
      · have h0 : (0 : Int) ≤ s.f0 := by
          simp only [spOk, Bool.and_eq_true, decide_eq_true_eq] at hs
          omega
        rw [if_neg (by simp), ih]
        simp [h0]
      · have e1 : (((q ++ [t]).length : Int)) - 1 = (q.length : Int) := by simp
        rw [if_pos (by simp), e1, w64 (by omega) (by simp at hp; omega), if_pos (by omega), if_pos (by simp; omega)]
        have e2 : rd_T50 ((q ++ [t]) ++ s :: suf) (q.length : Int) = t := by
          rw [List.append_assoc]
          exact rdSp_mid q t _
        rw [e2, ih]
        by_cases hg : t.f1 > s.f0
        · rw [if_pos hg]
          have : ¬ t.f1 ≤ s.f0 := by omega
          simp [this]
        · rw [if_neg hg]
          have : t.f1 ≤ s.f0 := by omega
          simp [this]
theorem implSpansOk (l : List Sp) (c : Int) (hl : l.length ≤ 1048576) (k : Nat) (hk : l.length + 1 ≤ k) : impl_SpansOk.f k l c = some (spansOk l c) := by
  unfold impl_SpansOk.f spansOk
  exact implSpansOk_l0 c l [] 0 k (.inl ⟨rfl, rfl⟩) (by simpa using hl) hk

theorem specIn (a b c : Int) : spec_l1In.f a b c = some (decide (b ≤ a ∧ a ≤ c)) := by
  unfold spec_l1In.f
  by_cases h1 : b ≤ a <;> by_cases h2 : a ≤ c <;> simp [h1, h2]

theorem specL6Ok (s : Sp) (c : Int) (h0 : 0 ≤ c) (h1 : c ≤ 80) (hs : -9223372036854775808 ≤ s.f0) (hs' : s.f0 ≤ 9223372036854775807) : spec_l6Ok.f s.f0 s.f1 s.f2 s.f3 c = some (spOk s c) := by
  unfold spec_l6Ok.f spOk
  rw [w64 (x := c - 1) (by omega) (by omega)]
  simp only [specIn, Option.bind_some, decide_eq_true_eq]
  by_cases g0 : 0 ≤ s.f0 ∧ s.f0 ≤ c - 1
  · rw [if_pos g0, w64 (x := s.f0 + 1) (by omega) (by omega)]
    have a1 : (0 : Int) ≤ s.f0 := g0.1
    have a2 : s.f0 < c := by omega
    by_cases g1 : s.f0 + 1 ≤ s.f1 ∧ s.f1 ≤ c
    · rw [if_pos g1]
      have a3 : s.f0 < s.f1 := by omega
      have a4 : s.f1 ≤ c := g1.2
      by_cases g2 : 1 ≤ s.f2 ∧ s.f2 ≤ 40
      · rw [if_pos g2]
        simp [a1, a2, a3, a4, g2.1, g2.2]
      · rw [if_neg g2]
        have : (decide (1 ≤ s.f2) && decide (s.f2 ≤ 40)) = false := by
          simp only [Bool.and_eq_false_iff, decide_eq_false_iff_not]
          omega
        simp only [Option.some.injEq, Bool.and_assoc]
        rw [show ∀ z, (decide (1 ≤ s.f2) && (decide (s.f2 ≤ 40) && z)) = ((decide (1 ≤ s.f2) && decide (s.f2 ≤ 40)) && z) from fun z => (Bool.and_assoc _ _ _).symm, this]
        simp
    · rw [if_neg g1]
      have : (decide (s.f0 < s.f1) && decide (s.f1 ≤ c)) = false := by
        simp only [Bool.and_eq_false_iff, decide_eq_false_iff_not]
        omega
      simp only [Option.some.injEq, Bool.and_assoc]
      rw [show ∀ z, (decide (s.f0 < s.f1) && (decide (s.f1 ≤ c) && z)) = ((decide (s.f0 < s.f1) && decide (s.f1 ≤ c)) && z) from fun z => (Bool.and_assoc _ _ _).symm, this]
      simp
  · rw [if_neg g0]
    have : (decide (0 ≤ s.f0) && decide (s.f0 < c)) = false := by
      simp only [Bool.and_eq_false_iff, decide_eq_false_iff_not]
      omega
    simp only [Option.some.injEq, Bool.and_assoc]
    rw [show ∀ z, (decide (0 ≤ s.f0) && (decide (s.f0 < c) && z)) = ((decide (0 ≤ s.f0) && decide (s.f0 < c)) && z) from fun z => (Bool.and_assoc _ _ _).symm, this]
    simp
def InI (x : Int) : Prop := -9223372036854775808 ≤ x ∧ x ≤ 9223372036854775807
theorem specSpansOk_l0 (c : Int) (hc : 0 ≤ c ∧ c ≤ 80) : ∀ (suf pre : List Sp) (p : Int) (k : Nat), Ahead pre p → (∀ s ∈ suf, InI s.f0) → (pre ++ suf).length ≤ 1048576 → suf.length + 1 ≤ k →
    spec_SpansOk.l0 k (pre ++ suf) c (pre.length : Int) = some (chainOk c p suf && decide ((pre ++ suf).length ≤ 12))
  | [], pre, p, k, ha, hw, hl, hk => by
    obtain ⟨k, rfl⟩ : ∃ m, k = m + 1 := ⟨k - 1, by simp at hk; omega⟩
    simp only [spec_SpansOk.l0, chainOk]
    rw [if_neg (len_end pre)]
    simp only [specIn, Option.bind_some, hc, and_self, decide_true, Bool.true_and]
    by_cases h2 : (pre ++ []).length ≤ 12
    · rw [if_pos (by omega)]; simp only [h2, decide_true]
    · rw [if_neg (by omega)]; simp only [h2, decide_false]
  | s :: suf, pre, p, k, ha, hw, hl, hk => by
    obtain ⟨k, rfl⟩ : ∃ m, k = m + 1 := ⟨k - 1, by simp at hk; omega⟩
    have hp : (pre.length : Int) ≤ 1048576 := by simp at hl; omega
    simp only [spec_SpansOk.l0, chainOk]
    obtain ⟨hs0, hs1⟩ := hw s List.mem_cons_self
    rw [if_pos (len_mid pre s suf), if_pos (by omega), rdSp_mid, specL6Ok s c hc.1 hc.2 hs0 hs1]
    simp only [Option.bind_some]
    cases hs : spOk s c with
    | false => simp
    | true =>
      have ih := specSpansOk_l0 c hc suf (pre ++ [s]) s.f1 k (ahead_step pre s) (fun t ht => hw t (List.mem_cons_of_mem _ ht)) (by simpa using hl) (by simp at hk; omega)
      rw [len_snoc, ← app_cons] at ih
      simp only [if_true, Bool.true_and]
      rw [w64_len (by omega) (by omega)]
      rcases ha with ⟨rfl, rfl⟩ | ⟨q, t, rfl, rfl⟩
      · have h0 : (0 : Int) ≤ s.f0 := by
          simp only [spOk, Bool.and_eq_true, decide_eq_true_eq] at hs
          omega
        rw [if_neg (by simp), ih]
        simp [h0]
      · have e1 : (((q ++ [t]).length : Int)) - 1 = (q.length : Int) := by simp
        rw [if_pos (by simp), e1, w64 (by omega) (by simp at hp; omega), if_pos (by omega), if_pos (by simp; omega)]
        have e2 : rd_T50 ((q ++ [t]) ++ s :: suf) (q.length : Int) = t := by
          rw [List.append_assoc]
          exact rdSp_mid q t _
        rw [e2, ih]
        by_cases hg : t.f1 > s.f0
        · rw [if_pos hg]
          have : ¬ t.f1 ≤ s.f0 := by omega
          simp [this]
        · rw [if_neg hg]
          have : t.f1 ≤ s.f0 := by omega
          simp [this]
theorem specL6_some (a b c d e : Int) : ∃ r, spec_l6Ok.f a b c d e = some r := by
  unfold spec_l6Ok.f
  simp only [specIn, Option.bind_some]
  repeat' split
  all_goals exact ⟨_, rfl⟩
theorem specSpansOk_bad (c : Int) (hc : ¬ (0 ≤ c ∧ c ≤ 80)) : ∀ (suf pre : List Sp) (k : Nat), (pre ++ suf).length ≤ 1048576 → suf.length + 1 ≤ k → spec_SpansOk.l0 k (pre ++ suf) c (pre.length : Int) = some false
  | [], pre, k, hl, hk => by
    obtain ⟨k, rfl⟩ : ∃ m, k = m + 1 := ⟨k - 1, by simp at hk; omega⟩
    simp only [spec_SpansOk.l0]
    rw [if_neg (len_end pre)]
    simp only [specIn, Option.bind_some, hc, decide_false, ite_self]
  | s :: suf, pre, k, hl, hk => by
    obtain ⟨k, rfl⟩ : ∃ m, k = m + 1 := ⟨k - 1, by simp at hk; omega⟩
    have hp : (pre.length : Int) ≤ 1048576 := by simp at hl; omega
    have ih := specSpansOk_bad c hc suf (pre ++ [s]) k (by simpa using hl) (by simp at hk; omega)
    rw [len_snoc, ← app_cons] at ih
    simp only [spec_SpansOk.l0]
    rw [if_pos (len_mid pre s suf), if_pos (by omega), rdSp_mid]
    obtain ⟨r, hr⟩ := specL6_some s.f0 s.f1 s.f2 s.f3 c
    rw [hr]
    simp only [Option.bind_some]
    rw [w64_len (by omega) (by omega), ih]
    cases r with
    | false => simp
    | true =>
      simp only [if_true]
      by_cases h0 : (pre.length : Int) > 0
      · rw [if_pos h0, w64 (by omega) (by omega), if_pos (by omega), if_pos (by simp; omega)]
        simp
      · rw [if_neg h0]
theorem specSpansOk (l : List Sp) (c : Int) (hw : ∀ s ∈ l, InI s.f0) (hl : l.length ≤ 1048576) (k : Nat) (hk : l.length + 1 ≤ k) : spec_SpansOk.f k l c = some (spansOk l c) := by
  unfold spec_SpansOk.f spansOk
  by_cases hc : 0 ≤ c ∧ c ≤ 80
  · have h := specSpansOk_l0 c hc l [] 0 k (.inl ⟨rfl, rfl⟩) hw (by simpa using hl) hk
    rw [show ((0 : Int)) = (([] : List Sp).length : Int) from rfl]
    rw [show l = [] ++ l from rfl, h]
    simp [hc.1, hc.2]
  · have h := specSpansOk_bad c hc l [] k (by simpa using hl) hk
    have e : (decide (0 ≤ c) && decide (c ≤ 80)) = false := by
      simp only [Bool.and_eq_false_iff, decide_eq_false_iff_not]
      omega
    rw [e]
    simpa using h

def lookL (i : Int) : List Sp → Int × Int
  | [] => (10, 0)
  | s :: r => if s.f0 ≤ i ∧ i < s.f1 then (s.f2, s.f3) else lookL i r
theorem chainOk_mem (c : Int) : ∀ (l : List Sp) (p : Int), chainOk c p l = true → ∀ s ∈ l, spOk s c = true
  | [], _, _, s, hs => by cases hs
  | x :: r, p, h, s, hs => by
    simp only [chainOk, Bool.and_eq_true] at h
    rcases List.mem_cons.1 hs with rfl | hs
    · exact h.1.1
    · exact chainOk_mem c r x.f1 h.2 s hs
theorem specL6At_l0 (i : Int) : ∀ (suf pre : List Sp) (k : Nat), (∀ s ∈ suf, spOk s 80 = true) → (pre ++ suf).length ≤ 1048576 → suf.length + 1 ≤ k →
    spec_l6At.l0 k (pre ++ suf) i (pre.length : Int) = some (lookL i suf)
  | [], pre, k, _, hl, hk => by
    obtain ⟨k, rfl⟩ : ∃ m, k = m + 1 := ⟨k - 1, by simp at hk; omega⟩
    simp only [spec_l6At.l0]
    rw [if_neg (len_end pre)]
    rfl
  | s :: suf, pre, k, hs, hl, hk => by
    obtain ⟨k, rfl⟩ : ∃ m, k = m + 1 := ⟨k - 1, by simp at hk; omega⟩
    have hp : (pre.length : Int) ≤ 1048576 := by simp at hl; omega
    have ih := specL6At_l0 i suf (pre ++ [s]) k (fun t ht => hs t (List.mem_cons_of_mem _ ht)) (by simpa using hl) (by simp at hk; omega)
    rw [len_snoc, ← app_cons] at ih
    have h0 := hs s List.mem_cons_self
    simp only [spOk, Bool.and_eq_true, decide_eq_true_eq] at h0
    simp only [spec_l6At.l0, lookL]
    rw [if_pos (len_mid pre s suf), if_pos (by omega), rdSp_mid, w64_len (by omega) (by omega), ih, w64 (by omega) (by omega), specIn]
    simp only [Option.bind_some]
    by_cases h1 : s.f0 ≤ i ∧ i < s.f1
    · rw [if_pos h1, if_pos (by simp only [decide_eq_true_eq]; omega)]
    · rw [if_neg h1, if_neg (by simp only [decide_eq_true_eq]; omega)]

theorem spansOk_mem {l : List Sp} {c : Int} (h : spansOk l c = true) : ∀ s ∈ l, spOk s c = true := by
  unfold spansOk at h
  rw [Bool.and_eq_true] at h
  exact chainOk_mem c l 0 h.1

/-! how letters look, letter by letter, and the spans that say so -/
abbrev Lk := Int × Int
/-- spans of looks: the first of a stretch stands at a, m letters of the look x have come -/
def goR (a : Int) (x : Lk) (m : Nat) : List Lk → List Sp
  | [] => if x = (10, 0) then [] else [⟨a, a + m, x.1, x.2⟩]
  | y :: r => if y = x then goR a x (m + 1) r else (if x = (10, 0) then [] else [⟨a, a + m, x.1, x.2⟩]) ++ goR (a + m) y 1 r
def plainL : List Lk → List Sp
  | [] => []
  | x :: r => goR 0 x 1 r
/-- a look that is ok -/
def LkOk (x : Lk) : Prop := 1 ≤ x.1 ∧ x.1 ≤ 40 ∧ 0 ≤ x.2 ∧ x.2 ≤ 9
theorem goR_rep (x : Lk) (r : List Lk) : ∀ (n : Nat) (a : Int) (m : Nat), goR a x m (List.replicate n x ++ r) = goR a x (m + n) r
  | 0, a, m => by simp
  | n + 1, a, m => by
    rw [List.replicate_succ, List.cons_append]
    conv => lhs; unfold goR
    rw [if_pos rfl, goR_rep x r n a (m + 1), show m + 1 + n = m + (n + 1) by omega]
theorem lookL_miss (i : Int) : ∀ (l : List Sp), (∀ s ∈ l, i < s.f0) → lookL i l = (10, 0)
  | [], _ => rfl
  | s :: r, h => by
    have h0 := h s List.mem_cons_self
    unfold lookL
    rw [if_neg (by omega)]
    exact lookL_miss i r fun t ht => h t (List.mem_cons_of_mem _ ht)
/-- whatever span there is begins at a place or behind it -/
theorem goR_from : ∀ (r : List Lk) (a : Int) (x : Lk) (m : Nat), ∀ s ∈ goR a x m r, a ≤ s.f0
  | [], a, x, m, s, hs => by
    unfold goR at hs
    split at hs
    · cases hs
    · simp at hs
      subst hs
      exact Int.le_refl _
  | y :: r, a, x, m, s, hs => by
    unfold goR at hs
    split at hs
    · exact goR_from r a x (m + 1) s hs
    · rcases List.mem_append.1 hs with h | h
      · split at h
        · cases h
        · simp at h
          subst h
          exact Int.le_refl _
      · have := goR_from r (a + m) y 1 s h
        omega
theorem lookL_goR : ∀ (r : List Lk) (a : Int) (x : Lk) (m : Nat) (i : Nat), i < m + r.length → lookL (a + i) (goR a x m r) = (List.replicate m x ++ r).getD i (10, 0)
  | [], a, x, m, i, h => by
    have hi : i < m := by simpa using h
    have e : (List.replicate m x ++ []).getD i (10, 0) = x := by simp [List.getD_eq_getElem?_getD, hi]
    rw [e]
    unfold goR
    by_cases hx : x = (10, 0)
    · rw [if_pos hx, hx]
      rfl
    · rw [if_neg hx]
      unfold lookL
      rw [if_pos (by constructor <;> simp <;> omega)]
  | y :: r, a, x, m, i, h => by
    unfold goR
    by_cases hy : y = x
    · subst hy
      rw [if_pos rfl, lookL_goR r a y (m + 1) i (by simp at h; omega)]
      rw [List.replicate_succ', List.append_assoc]
      rfl
    · rw [if_neg hy]
      by_cases hi : i < m
      · have e : (List.replicate m x ++ y :: r).getD i (10, 0) = x := by simp [List.getD_eq_getElem?_getD, List.getElem?_append, hi]
        rw [e]
        by_cases hx : x = (10, 0)
        · rw [if_pos hx, List.nil_append, hx]
          refine lookL_miss _ _ fun s hs => ?_
          have := goR_from r (a + m) y 1 s hs
          omega
        · rw [if_neg hx, List.cons_append]
          unfold lookL
          rw [if_pos (by constructor <;> simp <;> omega)]
      · have ih := lookL_goR r (a + m) y 1 (i - m) (by simp at h; omega)
        have e : (List.replicate m x ++ y :: r).getD i (10, 0) = (List.replicate 1 y ++ r).getD (i - m) (10, 0) := by
          simp [List.getD_eq_getElem?_getD, List.getElem?_append, hi]
        have e2 : a + (m : Int) + ((i - m : Nat) : Int) = a + i := by omega
        rw [e, ← ih, e2]
        by_cases hx : x = (10, 0)
        · rw [if_pos hx, List.nil_append]
        · rw [if_neg hx, List.cons_append, List.nil_append]
          conv => lhs; unfold lookL
          rw [if_neg (by simp; omega)]
theorem lookL_plainL (L : List Lk) (i : Nat) (h : i < L.length) : lookL i (plainL L) = L.getD i (10, 0) := by
  cases L with
  | nil => simp at h
  | cons x r =>
    have := lookL_goR r 0 x 1 i (by simp at h; omega)
    simpa [plainL] using this
/-- the spans are ok -/
theorem chainOk_goR (c : Int) : ∀ (r : List Lk) (a p : Int) (x : Lk) (m : Nat), 0 ≤ p → p ≤ a → 0 < m → a + m + r.length ≤ c → LkOk x → (∀ y ∈ r, LkOk y) → chainOk c p (goR a x m r) = true
  | [], a, p, x, m, h0, h1, h2, h3, hx, _ => by
    unfold goR
    split
    · rfl
    · unfold LkOk at hx
      simp only [List.length_nil] at h3
      simp only [chainOk, spOk, Bool.and_eq_true, decide_eq_true_eq]
      refine ⟨⟨?_, h1⟩, trivial⟩
      omega
  | y :: r, a, p, x, m, h0, h1, h2, h3, hx, hr => by
    simp only [List.length_cons] at h3
    unfold goR
    split
    · exact chainOk_goR c r a p x (m + 1) h0 h1 (by omega) (by omega) hx fun z hz => hr z (List.mem_cons_of_mem _ hz)
    · have ih := fun p' (g0 : 0 ≤ p') (g1 : p' ≤ a + m) => chainOk_goR c r (a + m) p' y 1 g0 g1 (by omega) (by omega) (hr y List.mem_cons_self) fun z hz => hr z (List.mem_cons_of_mem _ hz)
      split
      · exact ih p h0 (by omega)
      · have := ih (a + m) (by omega) (by omega)
        unfold LkOk at hx
        simp only [List.cons_append, List.nil_append, chainOk, spOk, Bool.and_eq_true, decide_eq_true_eq]
        refine ⟨⟨?_, h1⟩, this⟩
        omega
theorem chainOk_plainL (L : List Lk) (hL : ∀ y ∈ L, LkOk y) : chainOk (L.length : Int) 0 (plainL L) = true := by
  cases L with
  | nil => rfl
  | cons x r => exact chainOk_goR _ r 0 0 x 1 (by omega) (by omega) (by omega) (by simp; omega) (hL x List.mem_cons_self) fun z hz => hL z (List.mem_cons_of_mem _ hz)
/-- no two neighbours say the same, none says what all say -/
def Plain : List Sp → Prop
  | [] => True
  | [s] => (s.f2, s.f3) ≠ (10, 0)
  | s :: t :: r => (s.f2, s.f3) ≠ (10, 0) ∧ ¬ (s.f1 = t.f0 ∧ s.f2 = t.f2 ∧ s.f3 = t.f3) ∧ Plain (t :: r)
theorem goR_head : ∀ (r : List Lk) (a : Int) (x : Lk) (m : Nat), 0 < m → ∀ s t, goR a x m r = s :: t → (s.f0 = a ∧ (s.f2, s.f3) = x) ∨ a < s.f0
  | [], a, x, m, hm, s, t, h => by
    unfold goR at h
    split at h
    · cases h
    · injection h with h1 h2
      subst h1
      exact .inl ⟨rfl, rfl⟩
  | y :: r, a, x, m, hm, s, t, h => by
    unfold goR at h
    split at h
    · exact goR_head r a x (m + 1) (by omega) s t h
    · split at h
      · have := goR_from r (a + m) y 1 s (by rw [List.nil_append] at h; rw [h]; exact List.mem_cons_self)
        exact .inr (by omega)
      · injection h with h1 h2
        subst h1
        exact .inl ⟨rfl, rfl⟩
theorem Plain_goR : ∀ (r : List Lk) (a : Int) (x : Lk) (m : Nat), 0 < m → Plain (goR a x m r)
  | [], a, x, m, hm => by
    unfold goR
    split
    · trivial
    · assumption
  | y :: r, a, x, m, hm => by
    unfold goR
    by_cases hy : y = x
    · rw [if_pos hy]
      exact Plain_goR r a x (m + 1) (by omega)
    · rw [if_neg hy]
      have ih := Plain_goR r (a + m) y 1 (by omega)
      by_cases hx : x = (10, 0)
      · rw [if_pos hx]
        exact ih
      · rw [if_neg hx]
        cases hg : goR (a + m) y 1 r with
        | nil => exact hx
        | cons s t =>
          rw [hg] at ih
          refine ⟨hx, ?_, ih⟩
          rintro ⟨g1, g2, g3⟩
          rcases goR_head r (a + m) y 1 (by omega) s t hg with ⟨_, h2⟩ | h
          · apply hy
            rw [← h2, ← g2, ← g3]
          · have g1' : a + (m : Int) = s.f0 := g1
            omega
theorem Plain_plainL (L : List Lk) : Plain (plainL L) := by
  cases L with
  | nil => trivial
  | cons x r => exact Plain_goR r 0 x 1 (by omega)
/-- how all letters look -/
def looksA (l : List Sp) (n : Nat) : List Lk := (List.range n).map fun i : Nat => lookL (i : Int) l
theorem looksA_len (l : List Sp) (n : Nat) : (looksA l n).length = n := by simp [looksA]
theorem looksA_plainL (L : List Lk) : looksA (plainL L) L.length = L := by
  apply List.ext_getElem
  · simp [looksA]
  · intro i h1 h2
    simp only [looksA, List.getElem_map, List.getElem_range]
    rw [lookL_plainL L i h2, List.getD_eq_getElem?_getD, List.getElem?_eq_getElem h2]
    rfl
theorem lookL_ok (c : Int) (i : Int) : ∀ (l : List Sp), (∀ s ∈ l, spOk s c = true) → LkOk (lookL i l)
  | [], _ => by unfold lookL LkOk; simp
  | s :: r, h => by
    have h0 := h s List.mem_cons_self
    simp only [spOk, Bool.and_eq_true, decide_eq_true_eq] at h0
    unfold lookL
    split
    · unfold LkOk
      simp only
      omega
    · exact lookL_ok c i r fun t ht => h t (List.mem_cons_of_mem _ ht)
theorem looksA_ok (c : Int) (l : List Sp) (n : Nat) (h : ∀ s ∈ l, spOk s c = true) : ∀ y ∈ looksA l n, LkOk y := by
  intro y hy
  obtain ⟨i, _, rfl⟩ := List.mem_map.1 hy
  exact lookL_ok c _ l h
/-- of spans that are ok: beyond what a span says lie the others -/
theorem lookL_behind (c : Int) : ∀ (l : List Sp) (p i : Int), chainOk c p l = true → i < p → lookL i l = (10, 0)
  | [], _, _, _, _ => rfl
  | s :: r, p, i, h, hi => by
    simp only [chainOk, Bool.and_eq_true, decide_eq_true_eq] at h
    obtain ⟨⟨h1, h2⟩, h3⟩ := h
    simp only [spOk, Bool.and_eq_true, decide_eq_true_eq] at h1
    unfold lookL
    rw [if_neg (by omega)]
    exact lookL_behind c r s.f1 i h3 (by omega)

/-! the reference: the looks of all letters, the spans of looks -/
abbrev SLk := S88
def ofLk (x : Lk) : SLk := ⟨x.1, x.2⟩
def looksF (l : List Sp) : Nat → Nat → List Lk
  | 0, _ => []
  | m + 1, i => lookL (i : Int) l :: looksF l m (i + 1)
theorem looksF_eq (l : List Sp) : ∀ (m i : Nat), looksF l m i = (List.range m).map fun j : Nat => lookL ((i + j : Nat) : Int) l
  | 0, i => rfl
  | m + 1, i => by
    rw [List.range_succ_eq_map, List.map_cons, List.map_map]
    unfold looksF
    rw [looksF_eq l m (i + 1)]
    congr 1
    refine List.map_congr_left fun j _ => ?_
    simp only [Function.comp]
    congr 1
    omega
theorem looksF_zero (l : List Sp) (n : Nat) : looksF l n 0 = looksA l n := by
  rw [looksF_eq]
  unfold looksA
  refine List.map_congr_left fun j _ => ?_
  rw [Nat.zero_add]
theorem specLooks_l0 (l : List Sp) (hs : ∀ s ∈ l, spOk s 80 = true) (hl : l.length ≤ 1048576) : ∀ (m i : Nat) (out : List SLk) (k : Nat), out.length = i → i + m ≤ 80 → l.length + m + 2 ≤ k →
    spec_l6Looks.l0 k l ((i + m : Nat) : Int) out (i : Int) = some (out ++ (looksF l m i).map ofLk)
  | 0, i, out, k, ho, hi, hk => by
    obtain ⟨k, rfl⟩ : ∃ q, k = q + 1 := ⟨k - 1, by omega⟩
    simp only [spec_l6Looks.l0]
    rw [if_neg (by omega)]
    simp [looksF]
  | m + 1, i, out, k, ho, hi, hk => by
    obtain ⟨k, rfl⟩ : ∃ q, k = q + 1 := ⟨k - 1, by omega⟩
    have ih := specLooks_l0 l hs hl m (i + 1) (out ++ [ofLk (lookL (i : Int) l)]) k (by simp; omega) (by omega) (by omega)
    have ha : spec_l6At.l0 k l (i : Int) 0 = some (lookL (i : Int) l) := specL6At_l0 (i : Int) l [] k hs (by simpa using hl) (by omega)
    simp only [spec_l6Looks.l0]
    rw [if_pos (by omega)]
    unfold spec_l6At.f
    rw [ha]
    simp only [Option.bind_some]
    rw [if_pos (by omega), w64_len (by omega) (by omega)]
    have e1 : ((i : Int) + 1) = ((i + 1 : Nat) : Int) := by omega
    have e2 : ((i + (m + 1) : Nat) : Int) = ((i + 1 + m : Nat) : Int) := by omega
    rw [e1, e2]
    have e3 : out ++ (looksF l (m + 1) i).map ofLk = out ++ [ofLk (lookL (i : Int) l)] ++ (looksF l m (i + 1)).map ofLk := by simp [looksF]
    rw [e3]
    exact ih
theorem specLooks (l : List Sp) (c : Int) (h : spansOk l c = true) (k : Nat) (hk : 200 ≤ k) : spec_l6Looks.f k l c = some ((looksA l c.toNat).map ofLk) := by
  have hm := spansOk_mem h
  simp only [spansOk, Bool.and_eq_true, decide_eq_true_eq] at h
  obtain ⟨h1, ⟨h2, h3⟩, h4⟩ := h
  have hs : ∀ s ∈ l, spOk s 80 = true := fun s hs => by
    have := hm s hs
    simp only [spOk, Bool.and_eq_true, decide_eq_true_eq] at this ⊢
    omega
  have := specLooks_l0 l hs (by omega) c.toNat 0 [] k rfl (by omega) (by omega)
  rw [looksF_zero] at this
  unfold spec_l6Looks.f
  have e : ((0 + c.toNat : Nat) : Int) = c := by omega
  rw [e] at this
  simpa using this
theorem rdLk_mid (pre : List Lk) (x : Lk) (suf : List Lk) (i : Int) (hi : i = (pre.length : Int)) : rd_T88 ((pre ++ x :: suf).map ofLk) i = ofLk x := by
  subst hi
  have := getD_mid (pre.map ofLk) (ofLk x) (suf.map ofLk) z88
  rw [List.length_map] at this
  unfold rd_T88
  rw [List.map_append, List.map_cons]
  exact this
theorem specSpans_l1 : ∀ (r : List Lk) (pre : List Lk) (x : Lk) (m : Nat) (out : List Sp) (k : Nat), 0 < m → pre.length + m + r.length ≤ 100000 → out.length + r.length + 1 ≤ 100000 → 2 * r.length + 3 ≤ k →
    spec_l6Spans.l1 k ((pre ++ (List.replicate m x ++ r)).map ofLk) out (pre.length : Int) ((pre.length + m : Nat) : Int) = some (out ++ goR (pre.length : Int) x m r)
  | [], pre, x, m, out, k, hm, hl, ho, hk => by
    obtain ⟨K, rfl⟩ : ∃ q, k = q + 1 := ⟨k - 1, by simp at hk; omega⟩
    simp only [List.length_nil] at hk
    obtain ⟨m, rfl⟩ : ∃ q, m = q + 1 := ⟨m - 1, by omega⟩
    simp only [List.length_nil] at hl ho
    have hlen : ((pre ++ (List.replicate (m + 1) x ++ [])).map ofLk).length = pre.length + (m + 1) := by simp
    have hr : rd_T88 ((pre ++ (List.replicate (m + 1) x ++ [])).map ofLk) (pre.length : Int) = ofLk x := by
      rw [List.replicate_succ, List.cons_append]
      exact rdLk_mid pre x _ _ rfl
    generalize hL : (pre ++ (List.replicate (m + 1) x ++ [])).map ofLk = L at hlen hr ⊢
    have fin : ∀ o : List Sp, spec_l6Spans.l0 K L o ((pre.length + (m + 1) : Nat) : Int) = some o := by
      intro o
      obtain ⟨K, rfl⟩ : ∃ q, K = q + 1 := ⟨K - 1, by omega⟩
      simp only [spec_l6Spans.l0]
      rw [if_neg (by omega)]
    simp only [spec_l6Spans.l1]
    have hout : out.length < 4398046511104 := by omega
    rw [if_neg (by omega), if_pos (by omega), if_pos (by omega), hr]
    unfold goR
    simp only [ofLk, fin, if_pos hout]
    have e1 : ((pre.length + (m + 1) : Nat) : Int) = (pre.length : Int) + ((m + 1 : Nat) : Int) := by omega
    rw [e1]
    by_cases h1 : x.1 = 10
    · by_cases h2 : x.2 = 0
      · rw [if_pos h1, if_pos h2, if_pos (by rw [← h1, ← h2])]
        simp
      · rw [if_pos h1, if_neg h2, if_neg (fun e => h2 (by rw [e]))]
    · rw [if_neg h1, if_neg (fun e => h1 (by rw [e]))]
  | y :: r, pre, x, m, out, k, hm, hl, ho, hk => by
    obtain ⟨K, rfl⟩ : ∃ q, k = q + 1 := ⟨k - 1, by simp at hk; omega⟩
    simp only [List.length_cons] at hl ho hk
    have hlen : ((pre ++ (List.replicate m x ++ y :: r)).map ofLk).length = pre.length + m + r.length + 1 := by simp; omega
    have hr : rd_T88 ((pre ++ (List.replicate m x ++ y :: r)).map ofLk) (pre.length : Int) = ofLk x := by
      obtain ⟨q, rfl⟩ : ∃ q, m = q + 1 := ⟨m - 1, by omega⟩
      rw [List.replicate_succ, List.cons_append]
      exact rdLk_mid pre x _ _ rfl
    have hr2 : rd_T88 ((pre ++ (List.replicate m x ++ y :: r)).map ofLk) ((pre.length + m : Nat) : Int) = ofLk y := by
      rw [← List.append_assoc]
      exact rdLk_mid (pre ++ List.replicate m x) y r _ (by simp)
    have ih1 : x = y → spec_l6Spans.l1 K ((pre ++ (List.replicate m x ++ y :: r)).map ofLk) out (pre.length : Int) ((pre.length + m + 1 : Nat) : Int) = some (out ++ goR (pre.length : Int) x (m + 1) r) := by
      intro e
      subst e
      have := specSpans_l1 r pre x (m + 1) out K (by omega) (by omega) (by omega) (by omega)
      rw [List.replicate_succ', List.append_assoc] at this
      exact this
    have ih2 : ∀ o : List Sp, o.length ≤ out.length + 1 → spec_l6Spans.l0 K ((pre ++ (List.replicate m x ++ y :: r)).map ofLk) o ((pre.length + m : Nat) : Int) = some (o ++ goR ((pre.length + m : Nat) : Int) y 1 r) := by
      intro o hlo
      obtain ⟨K, rfl⟩ : ∃ q, K = q + 1 := ⟨K - 1, by omega⟩
      have := specSpans_l1 r (pre ++ List.replicate m x) y 1 o K (by omega) (by simp; omega) (by omega) (by omega)
      have e : (pre ++ List.replicate m x).length = pre.length + m := by simp
      rw [e] at this
      simp only [spec_l6Spans.l0]
      rw [if_pos (by omega), w64_len (by omega) (by omega)]
      have e2 : pre ++ (List.replicate m x ++ y :: r) = pre ++ List.replicate m x ++ (List.replicate 1 y ++ r) := by simp
      have e3 : ((pre.length + m : Nat) : Int) + 1 = ((pre.length + m + 1 : Nat) : Int) := by omega
      rw [e2, e3]
      exact this
    generalize hL : (pre ++ (List.replicate m x ++ y :: r)).map ofLk = L at hlen hr hr2 ih1 ih2 ⊢
    simp only [spec_l6Spans.l1]
    rw [if_pos (by omega), if_pos (by omega), if_pos (by omega), if_pos (by omega), hr, hr2]
    have e1 : ((pre.length + m : Nat) : Int) = (pre.length : Int) + (m : Int) := by omega
    have e4 : wrap64 (((pre.length + m : Nat) : Int) + 1) = ((pre.length + m + 1 : Nat) : Int) := by rw [w64_len (by omega) (by omega)]; omega
    by_cases hy : y = x
    · subst hy
      rw [if_pos (by simp [ofLk]), e4, ih1 rfl]
      conv => rhs; unfold goR
      rw [if_pos rfl]
    · have hne : ¬ ((ofLk y).f0 == (ofLk x).f0 && ((ofLk y).f1 == (ofLk x).f1)) = true := by
        simp only [ofLk, Bool.and_eq_true, beq_iff_eq]
        rintro ⟨h1, h2⟩
        exact hy (Prod.ext h1 h2)
      rw [if_neg hne]
      conv => rhs; unfold goR
      rw [if_neg hy]
      have hout : out.length < 4398046511104 := by omega
      rw [e1] at ih2
      simp only [ofLk, if_pos hout, e1]
      by_cases h1 : x.1 = 10
      · by_cases h2 : x.2 = 0
        · rw [if_pos h1, if_pos h2, if_pos (by rw [← h1, ← h2]), ih2 out (by omega)]
          simp
        · rw [if_pos h1, if_neg h2, if_neg (fun e => h2 (by rw [e])), ih2 _ (by simp), List.append_assoc]
      · rw [if_neg h1, if_neg (fun e => h1 (by rw [e])), ih2 _ (by simp), List.append_assoc]
theorem specSpans (L : List Lk) (hl : L.length ≤ 80) (k : Nat) (hk : 200 ≤ k) : spec_l6Spans.f k (L.map ofLk) = some (plainL L) := by
  obtain ⟨k, rfl⟩ : ∃ q, k = q + 1 := ⟨k - 1, by omega⟩
  unfold spec_l6Spans.f
  cases L with
  | nil => simp [spec_l6Spans.l0, plainL]
  | cons x r =>
    have := specSpans_l1 r [] x 1 [] k (by omega) (by simp at hl ⊢; omega) (by simp at hl ⊢; omega) (by simp at hl; omega)
    simp only [spec_l6Spans.l0]
    rw [if_pos (by simp), w64_len (by omega) (by omega)]
    simpa [plainL] using this

/-! stretches -/
abbrev St := S108
def expand (l : List St) : List Lk := l.flatMap fun x => List.replicate x.f2.toNat (x.f0, x.f1)
def Norm : List St → Prop
  | [] => True
  | [x] => 0 < x.f2
  | x :: y :: r => 0 < x.f2 ∧ (x.f0, x.f1) ≠ (y.f0, y.f1) ∧ Norm (y :: r)
def total (l : List St) : Int := (expand l).length
theorem expand_app (a b : List St) : expand (a ++ b) = expand a ++ expand b := by simp [expand]
theorem expand_one (x : St) : expand [x] = List.replicate x.f2.toNat (x.f0, x.f1) := by simp [expand]
theorem Norm_snoc {y : St} (hy : 0 < y.f2) {x : St} (hne : (x.f0, x.f1) ≠ (y.f0, y.f1)) : ∀ (q : List St), Norm (q ++ [x]) → Norm (q ++ [x] ++ [y])
  | [], h => ⟨h, hne, hy⟩
  | [a], h => ⟨h.1, h.2.1, h.2.2, hne, hy⟩
  | a :: b :: q, h => ⟨h.1, h.2.1, Norm_snoc hy hne (b :: q) h.2.2⟩
theorem Norm_last {x y : St} (hy : 0 < y.f2) (he : (x.f0, x.f1) = (y.f0, y.f1)) : ∀ (q : List St), Norm (q ++ [x]) → Norm (q ++ [y])
  | [], _ => hy
  | [a], h => ⟨h.1, he ▸ h.2.1, hy⟩
  | a :: b :: q, h => ⟨h.1, h.2.1, Norm_last hy he (b :: q) h.2.2⟩
theorem Norm_pos : ∀ (l : List St), Norm l → ∀ x ∈ l, 0 < x.f2
  | [], _, x, hx => by cases hx
  | [a], h, x, hx => by
    rw [List.mem_singleton] at hx
    subst hx
    exact h
  | a :: b :: r, h, x, hx => by
    rcases List.mem_cons.1 hx with rfl | hx
    · exact h.1
    · exact Norm_pos (b :: r) h.2.2 x hx
theorem expand_last_le {q : List St} {x : St} : x.f2 ≤ total (q ++ [x]) := by
  unfold total
  rw [expand_app, expand_one]
  simp
  omega
theorem addS_ok (l : List St) (s m n : Int) (hl : Norm l) (h0 : 0 ≤ n) (h1 : n ≤ 1000000) (h2 : total l ≤ 1000000) : Norm (addS l s m n) ∧ expand (addS l s m n) = expand l ++ List.replicate n.toNat (s, m) := by
  unfold addS
  by_cases hn : n = 0
  · subst hn
    rw [if_pos rfl]
    exact ⟨hl, by simp⟩
  rw [if_neg hn]
  rcases List.eq_nil_or_concat l with rfl | ⟨q, x, hq⟩
  · simp only [List.getLast?_nil]
    exact ⟨by show (0 : Int) < n; omega, by simp [expand]⟩
  · have hq' : l = q ++ [x] := by simpa using hq
    subst hq'
    have e2 : (q ++ [x]).getLast? = some x := by simp
    have e3 : (q ++ [x]).dropLast = q := by simp
    have hx : 0 < x.f2 := Norm_pos _ hl x (by simp)
    have hx2 : x.f2 ≤ 1000000 := by have := expand_last_le (q := q) (x := x); omega
    simp only [e2, e3]
    by_cases h : (x.f0 == s && (x.f1 == m)) = true
    · rw [if_pos h]
      simp only [Bool.and_eq_true, beq_iff_eq] at h
      rw [w64 (by omega) (by omega)]
      refine ⟨Norm_last (x := x) (y := ⟨x.f0, x.f1, x.f2 + n⟩) (by show 0 < x.f2 + n; omega) rfl q hl, ?_⟩
      rw [expand_app, expand_one, expand_app, expand_one, List.append_assoc]
      simp only
      rw [← h.1, ← h.2, List.replicate_append_replicate, show (x.f2 + n).toNat = x.f2.toNat + n.toNat by omega]
    · rw [if_neg h]
      simp only [Bool.and_eq_true, beq_iff_eq] at h
      refine ⟨Norm_snoc (y := ⟨s, m, n⟩) (by show 0 < n; omega) ?_ q hl, ?_⟩
      · intro e
        injection e with e1 e2
        exact h ⟨e1, e2⟩
      · rw [expand_app, expand_one]
theorem total_addS (l : List St) (s m n : Int) (hl : Norm l) (h0 : 0 ≤ n) (h1 : n ≤ 1000000) (h2 : total l ≤ 1000000) : total (addS l s m n) = total l + n := by
  unfold total
  rw [(addS_ok l s m n hl h0 h1 h2).2]
  simp
  omega
/-- how many stretches do not look as all do -/
def cnt (l : List St) : Nat := (l.filter fun x => !(x.f0 == 10 && (x.f1 == 0))).length
theorem cnt_one (x : St) : cnt [x] = if x.f0 = 10 ∧ x.f1 = 0 then 0 else 1 := by
  unfold cnt
  by_cases h1 : x.f0 = 10 <;> by_cases h2 : x.f1 = 0 <;> simp [h1, h2]
theorem cnt_app (a b : List St) : cnt (a ++ b) = cnt a + cnt b := by simp [cnt]
theorem cnt_addS (l : List St) (s m n : Int) : cnt (addS l s m n) ≤ cnt l + (if s = 10 ∧ m = 0 then 0 else 1) := by
  unfold addS
  split
  · omega
  · split
    · unfold cnt
      by_cases h1 : s = 10 <;> by_cases h2 : m = 0 <;> simp [h1, h2]
    · rename_i x hx
      obtain ⟨q, rfl⟩ := List.getLast?_eq_some_iff.1 hx
      split
      · rw [List.dropLast_concat, cnt_app, cnt_app]
        have : cnt [(⟨x.f0, x.f1, wrap64 (x.f2 + n)⟩ : St)] = cnt [x] := by rw [cnt_one, cnt_one]
        omega
      · rw [cnt_app]
        have : cnt [(⟨s, m, n⟩ : St)] = if s = 10 ∧ m = 0 then 0 else 1 := cnt_one _
        omega
theorem cnt_looksGo : ∀ (r : List Sp) (l : List St) (a : Int), cnt (looksGo r l a).1 ≤ cnt l + r.length
  | [], l, a => by simp [looksGo]
  | s :: r, l, a => by
    have h1 := cnt_looksGo r (addS (addS l 10 0 (wrap64 (s.f0 - a))) s.f2 s.f3 (wrap64 (s.f1 - s.f0))) s.f1
    have h2 := cnt_addS (addS l 10 0 (wrap64 (s.f0 - a))) s.f2 s.f3 (wrap64 (s.f1 - s.f0))
    have h3 := cnt_addS l 10 0 (wrap64 (s.f0 - a))
    simp only [and_self, if_true] at h3
    have h4 : (if s.f2 = 10 ∧ s.f3 = 0 then 0 else 1) ≤ 1 := by split <;> omega
    unfold looksGo
    simp only [List.length_cons]
    omega
theorem cnt_looksL (l : List Sp) (n : Int) : cnt (looksL l n) ≤ l.length := by
  have h1 := cnt_looksGo l [] 0
  have h2 := cnt_addS (looksGo l [] 0).1 10 0 (wrap64 (n - (looksGo l [] 0).2))
  simp only [and_self, if_true] at h2
  have h3 : cnt ([] : List St) = 0 := rfl
  unfold looksL
  omega
/-- spans of stretches: those of the letters -/
theorem spansGo_goR : ∀ (l : List St) (x : St) (a : Int), Norm (x :: l) → 0 ≤ a → a + total (x :: l) ≤ 1000000 → spansGo (x :: l) a = goR a (x.f0, x.f1) x.f2.toNat (expand l)
  | [], x, a, h, h0, h1 => by
    have hx : 0 < x.f2 := h
    have hx2 : x.f2 ≤ total [x] := expand_last_le (q := [])
    have e : wrap64 (a + x.f2) = a + x.f2.toNat := by rw [w64 (by omega) (by omega)]; omega
    simp only [spansGo, expand, List.flatMap_nil, goR]
    rw [e]
    by_cases hp : (x.f0 == 10 && (x.f1 == 0)) = true
    · rw [if_pos hp, if_pos (by simpa using hp)]
    · rw [if_neg hp, if_neg (by simpa using hp)]
  | y :: l, x, a, h, h0, h1 => by
    obtain ⟨hx, hne, hn⟩ := h
    have ht : total (x :: y :: l) = x.f2 + total (y :: l) := by
      unfold total
      rw [show x :: y :: l = [x] ++ (y :: l) from rfl, expand_app, expand_one]
      simp
      omega
    have ht2 : 0 ≤ total (y :: l) := by unfold total; omega
    have e : wrap64 (a + x.f2) = a + x.f2.toNat := by rw [w64 (by omega) (by omega)]; omega
    have hy : 0 < y.f2 := Norm_pos _ hn y List.mem_cons_self
    obtain ⟨c, hc⟩ : ∃ c, y.f2.toNat = c + 1 := ⟨y.f2.toNat - 1, by omega⟩
    have ih := spansGo_goR l y (a + x.f2.toNat) hn (by omega) (by omega)
    have ee : expand (y :: l) = (y.f0, y.f1) :: (List.replicate c (y.f0, y.f1) ++ expand l) := by
      rw [show y :: l = [y] ++ l from rfl, expand_app, expand_one, hc]
      rfl
    rw [ee]
    conv => rhs; unfold goR
    rw [if_neg (fun g => hne g.symm), goR_rep, show 1 + c = y.f2.toNat by omega, ← ih]
    conv => lhs; unfold spansGo
    rw [e]
    by_cases hp : (x.f0 == 10 && (x.f1 == 0)) = true
    · rw [if_pos hp, if_pos (by simpa using hp)]
      rfl
    · rw [if_neg hp, if_neg (by simpa using hp)]
      rfl
theorem spansGo_plainL (l : List St) (h : Norm l) (h1 : total l ≤ 1000000) : spansGo l 0 = plainL (expand l) := by
  cases l with
  | nil => rfl
  | cons x l =>
    rw [spansGo_goR l x 0 h (by omega) (by omega)]
    have hx : 0 < x.f2 := Norm_pos _ h x List.mem_cons_self
    obtain ⟨c, hc⟩ : ∃ c, x.f2.toNat = c + 1 := ⟨x.f2.toNat - 1, by omega⟩
    rw [show x :: l = [x] ++ l from rfl, expand_app, expand_one, hc, List.replicate_succ, List.cons_append]
    show _ = goR 0 (x.f0, x.f1) 1 (List.replicate c (x.f0, x.f1) ++ expand l)
    rw [goR_rep, Nat.add_comm 1 c]
theorem len_spansGo : ∀ (l : List St) (a : Int), (spansGo l a).length = cnt l
  | [], a => rfl
  | x :: l, a => by
    unfold spansGo
    rw [show x :: l = [x] ++ l from rfl, cnt_app, ← len_spansGo l (wrap64 (a + x.f2))]
    by_cases hp : (x.f0 == 10 && (x.f1 == 0)) = true
    · rw [if_pos hp]
      have : cnt [x] = 0 := by rw [cnt_one, if_pos (by simpa using hp)]
      rw [this]
      omega
    · rw [if_neg hp]
      have : cnt [x] = 1 := by rw [cnt_one, if_neg (by simpa using hp)]
      rw [this, List.length_cons]
      omega
/-- the stretches of spans that are ok: the looks of all letters -/
theorem looksGo_ok (c : Int) (hc : c ≤ 80) : ∀ (r : List Sp) (l : List St) (a : Int) (L : List Sp), Norm l → chainOk c a r = true → 0 ≤ a → a ≤ c → total l = a → (∀ i : Int, a ≤ i → lookL i L = lookL i r) →
    expand l = looksA L a.toNat → Norm (looksGo r l a).1 ∧ 0 ≤ (looksGo r l a).2 ∧ (looksGo r l a).2 ≤ c ∧ total (looksGo r l a).1 = (looksGo r l a).2 ∧ expand (looksGo r l a).1 = looksA L (looksGo r l a).2.toNat ∧ ∀ i : Int, (looksGo r l a).2 ≤ i → lookL i L = (10, 0)
  | [], l, a, L, hl, _, h0, h1, ht, hL, he => ⟨hl, h0, h1, ht, he, hL⟩
  | s :: r, l, a, L, hl, hr, h0, h1, ht, hL, he => by
    simp only [chainOk, Bool.and_eq_true, decide_eq_true_eq] at hr
    obtain ⟨⟨g1, g2⟩, g3⟩ := hr
    have g4 := g1
    simp only [spOk, Bool.and_eq_true, decide_eq_true_eq] at g4
    have w1 : wrap64 (s.f0 - a) = s.f0 - a := w64 (by omega) (by omega)
    have w2 : wrap64 (s.f1 - s.f0) = s.f1 - s.f0 := w64 (by omega) (by omega)
    obtain ⟨n1, e1⟩ := addS_ok l 10 0 (s.f0 - a) hl (by omega) (by omega) (by omega)
    have t1 := total_addS l 10 0 (s.f0 - a) hl (by omega) (by omega) (by omega)
    obtain ⟨n2, e2⟩ := addS_ok (addS l 10 0 (s.f0 - a)) s.f2 s.f3 (s.f1 - s.f0) n1 (by omega) (by omega) (by omega)
    have t2 := total_addS (addS l 10 0 (s.f0 - a)) s.f2 s.f3 (s.f1 - s.f0) n1 (by omega) (by omega) (by omega)
    unfold looksGo
    rw [w1, w2]
    refine looksGo_ok c hc r _ s.f1 L n2 g3 (by omega) (by omega) (by omega) ?_ ?_
    · intro i hi
      rw [hL i (by omega)]
      conv => lhs; unfold lookL
      rw [if_neg (by omega)]
    · rw [e2, e1, he]
      have k1 : looksA L s.f1.toNat = looksA L a.toNat ++ ((List.range (s.f0 - a).toNat).map fun j : Nat => lookL (a + j) L) ++ ((List.range (s.f1 - s.f0).toNat).map fun j : Nat => lookL (s.f0 + j) L) := by
        unfold looksA
        rw [show s.f1.toNat = a.toNat + ((s.f0 - a).toNat + (s.f1 - s.f0).toNat) by omega, List.range_add, List.map_append, List.range_add, List.map_append, List.map_append, List.append_assoc]
        congr 1
        congr 1
        · rw [List.map_map]
          refine List.map_congr_left fun j _ => ?_
          simp only [Function.comp]
          congr 1
          omega
        · rw [List.map_map, List.map_map]
          refine List.map_congr_left fun j _ => ?_
          simp only [Function.comp]
          congr 1
          omega
      rw [k1]
      congr 1
      · congr 1
        rw [List.eq_replicate_of_mem (l := (List.range (s.f0 - a).toNat).map fun j : Nat => lookL (a + j) L) (a := ((10 : Int), (0 : Int)))]
        · simp
        · intro y hy
          obtain ⟨j, hj, rfl⟩ := List.mem_map.1 hy
          rw [List.mem_range] at hj
          rw [hL _ (by omega)]
          refine lookL_behind c (s :: r) s.f0 _ ?_ (by omega)
          simp only [chainOk, Bool.and_eq_true, decide_eq_true_eq]
          exact ⟨⟨g1, Int.le_refl _⟩, g3⟩
      · rw [List.eq_replicate_of_mem (l := (List.range (s.f1 - s.f0).toNat).map fun j : Nat => lookL (s.f0 + j) L) (a := (s.f2, s.f3))]
        · simp
        · intro y hy
          obtain ⟨j, hj, rfl⟩ := List.mem_map.1 hy
          rw [List.mem_range] at hj
          rw [hL _ (by omega)]
          unfold lookL
          rw [if_pos (by omega)]
theorem looksL_ok (l : List Sp) (c : Int) (h : spansOk l c = true) : Norm (looksL l c) ∧ total (looksL l c) = c ∧ expand (looksL l c) = looksA l c.toNat := by
  simp only [spansOk, Bool.and_eq_true, decide_eq_true_eq] at h
  obtain ⟨h1, ⟨h2, h3⟩, h4⟩ := h
  obtain ⟨n1, a0, a1, t1, e1, b1⟩ := looksGo_ok c h3 l [] 0 l trivial h1 (by omega) h2 rfl (fun _ _ => rfl) rfl
  have w1 : wrap64 (c - (looksGo l [] 0).2) = c - (looksGo l [] 0).2 := w64 (by omega) (by omega)
  unfold looksL
  rw [w1]
  obtain ⟨n2, e2⟩ := addS_ok (looksGo l [] 0).1 10 0 (c - (looksGo l [] 0).2) n1 (by omega) (by omega) (by omega)
  have t2 := total_addS (looksGo l [] 0).1 10 0 (c - (looksGo l [] 0).2) n1 (by omega) (by omega) (by omega)
  refine ⟨n2, by omega, ?_⟩
  rw [e2, e1]
  unfold looksA
  rw [show c.toNat = (looksGo l [] 0).2.toNat + (c - (looksGo l [] 0).2).toNat by omega, List.range_add, List.map_append, List.map_map]
  congr 1
  symm
  rw [List.eq_replicate_of_mem (l := List.map ((fun i : Nat => lookL (i : Int) l) ∘ fun x => (looksGo l [] 0).2.toNat + x) (List.range (c - (looksGo l [] 0).2).toNat)) (a := ((10 : Int), (0 : Int))) ?_]
  · simp
  · intro y hy
    obtain ⟨j, hj, rfl⟩ := List.mem_map.1 hy
    simp only [Function.comp]
    exact b1 _ (by omega)

theorem chainOk_mono (c d : Int) (h : c ≤ d) : ∀ (l : List Sp) (p : Int), chainOk c p l = true → chainOk d p l = true
  | [], _, _ => rfl
  | s :: r, p, hc => by
    simp only [chainOk, spOk, Bool.and_eq_true, decide_eq_true_eq] at hc ⊢
    obtain ⟨⟨h1, h2⟩, h3⟩ := hc
    refine ⟨⟨?_, h2⟩, chainOk_mono c d h r s.f1 h3⟩
    omega
theorem spansOk_mono {l : List Sp} {c : Int} (h : spansOk l c = true) : spansOk l 80 = true := by
  simp only [spansOk, Bool.and_eq_true, decide_eq_true_eq] at h ⊢
  obtain ⟨h1, ⟨h2, h3⟩, h4⟩ := h
  exact ⟨chainOk_mono c 80 h3 l 0 h1, ⟨by omega, by omega⟩, h4⟩
theorem atL_ok {l : List Sp} {c : Int} (h : spansOk l c = true) (i : Int) : (if spansOk l 80 = true then lookL i l else (0, 0)) = lookL i l := if_pos (spansOk_mono h)
theorem spansOk_plainL (L : List Lk) (hL : ∀ y ∈ L, LkOk y) (h80 : L.length ≤ 80) (h12 : (plainL L).length ≤ 12) : spansOk (plainL L) (L.length : Int) = true := by
  simp only [spansOk, Bool.and_eq_true, decide_eq_true_eq]
  exact ⟨chainOk_plainL L hL, ⟨by omega, by omega⟩, h12⟩
theorem looksA_lkok {l : List Sp} {c : Int} (h : spansOk l c = true) (n : Nat) : ∀ y ∈ looksA l n, LkOk y := looksA_ok c l n (spansOk_mem h)
theorem Plain_tail {s : Sp} : ∀ {r : List Sp}, Plain (s :: r) → Plain r
  | [], _ => trivial
  | _ :: _, h => h.2.2
theorem Plain_mid : ∀ (pre : List Sp) (s : Sp) (suf : List Sp), Plain (pre ++ s :: suf) → (s.f2, s.f3) ≠ ((10 : Int), (0 : Int))
  | [], s, [], h => h
  | [], s, t :: r, h => h.1
  | p :: pre, s, suf, h => Plain_mid pre s suf (Plain_tail h)
theorem Plain_adj : ∀ (pre : List Sp) (t s : Sp) (suf : List Sp), Plain (pre ++ t :: s :: suf) → ¬ (t.f1 = s.f0 ∧ t.f2 = s.f2 ∧ t.f3 = s.f3)
  | [], t, s, suf, h => h.2.1
  | p :: pre, t, s, suf, h => Plain_adj pre t s suf (Plain_tail h)

/-! some letters look in another way -/
def setP (L : List Lk) (f t : Nat) (x : Lk) : List Lk := (List.range L.length).map fun i : Nat => if f ≤ i ∧ i < t then x else L.getD i (10, 0)
theorem setP_len (L : List Lk) (f t : Nat) (x : Lk) : (setP L f t x).length = L.length := by simp [setP]
theorem setP_get (L : List Lk) (f t : Nat) (x : Lk) (i : Nat) (h : i < L.length) : (setP L f t x).getD i (10, 0) = if f ≤ i ∧ i < t then x else L.getD i (10, 0) := by
  rw [List.getD_eq_getElem?_getD, List.getElem?_eq_getElem (by rw [setP_len]; exact h)]
  simp [setP]
theorem ext_getD {L M : List Lk} (hl : L.length = M.length) (h : ∀ i, i < L.length → L.getD i (10, 0) = M.getD i (10, 0)) : L = M := by
  apply List.ext_getElem hl
  intro i h1 h2
  have := h i h1
  rw [List.getD_eq_getElem?_getD, List.getD_eq_getElem?_getD, List.getElem?_eq_getElem h1, List.getElem?_eq_getElem h2] at this
  exact this
theorem setP_idem (L : List Lk) (f t : Nat) (x : Lk) : setP (setP L f t x) f t x = setP L f t x := by
  refine ext_getD (by rw [setP_len]) fun i hi => ?_
  rw [setP_len] at hi
  rw [setP_get _ f t x i hi, setP_get L f t x i (by rw [setP_len] at hi; exact hi)]
  split <;> rfl
theorem setP_none (L : List Lk) (f : Nat) (x : Lk) : setP L f f x = L := by
  refine ext_getD (setP_len _ _ _ _) fun i hi => ?_
  rw [setP_len] at hi
  rw [setP_get _ f f x i hi, if_neg (by omega)]
theorem setP_step (L : List Lk) (f i : Nat) (x : Lk) (h : f ≤ i) (hi : i < L.length) : (setP L f i x).set i x = setP L f (i + 1) x := by
  refine ext_getD (by simp [setP_len]) fun j hj => ?_
  simp only [List.length_set, setP_len] at hj
  rw [setP_get L f (i + 1) x j hj]
  by_cases e : i = j
  · subst e
    rw [if_pos (by omega), List.getD_eq_getElem?_getD, List.getElem?_set_self (by rw [setP_len]; exact hi)]
    rfl
  · rw [List.getD_eq_getElem?_getD, List.getElem?_set_ne e, ← List.getD_eq_getElem?_getD, setP_get L f i x j hj]
    by_cases g : f ≤ j ∧ j < i
    · rw [if_pos g, if_pos (by omega)]
    · rw [if_neg g, if_neg (by omega)]
theorem setP_parts (L : List Lk) (f t : Nat) (x : Lk) (h1 : f ≤ t) (h2 : t ≤ L.length) : L.take f ++ List.replicate (t - f) x ++ L.drop t = setP L f t x := by
  refine ext_getD (by simp [setP_len]; omega) fun i hi => ?_
  have hl : i < L.length := by simp at hi; omega
  rw [setP_get L f t x i hl]
  simp only [List.getD_eq_getElem?_getD]
  by_cases g1 : i < f
  · rw [if_neg (by omega), List.append_assoc, List.getElem?_append_left (by simp; omega), List.getElem?_take_of_lt g1]
  · by_cases g2 : i < t
    · rw [if_pos (by omega), List.append_assoc, List.getElem?_append_right (by simp; omega), List.getElem?_append_left (by simp; omega), List.getElem?_replicate_of_lt (by simp; omega)]
      rfl
    · rw [if_neg (by omega), List.getElem?_append_right (by simp; omega), List.getElem?_drop]
      congr 2
      simp
      omega
theorem setP_ok {L : List Lk} (hL : ∀ y ∈ L, LkOk y) (f t : Nat) {x : Lk} (hx : LkOk x) : ∀ y ∈ setP L f t x, LkOk y := by
  intro y hy
  obtain ⟨i, hi, rfl⟩ := List.mem_map.1 hy
  rw [List.mem_range] at hi
  split
  · exact hx
  · rw [List.getD_eq_getElem?_getD, List.getElem?_eq_getElem hi]
    exact hL _ (List.getElem_mem hi)
/-- spans when some letters look in another way -/
def putSp (l : List Sp) (c f t s m : Int) : List Sp × Bool :=
  if spansOk l c = true ∧ spOk ⟨f, t, s, m⟩ c = true then (if 12 < (plainL (setP (looksA l c.toNat) f.toNat t.toNat (s, m))).length then ([], false) else (plainL (setP (looksA l c.toNat) f.toNat t.toNat (s, m)), true)) else ([], false)
/-- the part of the letters that is added -/
theorem partGo_ok (a2 a3 : Int) (h2 : 0 ≤ a2) (h2' : a2 ≤ 1000) (h3 : 0 ≤ a3) (h3' : a3 ≤ 1000) : ∀ (r l : List St) (at_ : Int), Norm l → (∀ x ∈ r, 0 < x.f2) → 0 ≤ at_ → at_ + total r ≤ 1000 → total l + total r ≤ 10000 →
    Norm (partGo r l at_ a2 a3) ∧ expand (partGo r l at_ a2 a3) = expand l ++ ((expand r).take (a3 - at_).toNat).drop (a2 - at_).toNat
  | [], l, at_, hl, _, _, _, _ => ⟨hl, by simp [partGo, expand]⟩
  | x :: r, l, at_, hl, hr, h0, h1, ht => by
    have hx := hr x List.mem_cons_self
    have er : expand (x :: r) = List.replicate x.f2.toNat (x.f0, x.f1) ++ expand r := by
      rw [show x :: r = [x] ++ r from rfl, expand_app, expand_one]
    have et : total (x :: r) = x.f2 + total r := by
      unfold total
      rw [er]
      simp
      omega
    have ht0 : 0 ≤ total r := by unfold total; omega
    have ht1 : 0 ≤ total l := by unfold total; omega
    have w1 : wrap64 (at_ + x.f2) = at_ + x.f2 := w64 (by omega) (by omega)
    have hn0 : 0 ≤ partN at_ x.f2 a2 a3 ∧ partN at_ x.f2 a2 a3 ≤ x.f2 ∧ (partN at_ x.f2 a2 a3).toNat = min (a3 - at_).toNat x.f2.toNat - (a2 - at_).toNat := by
      unfold partN
      rw [w1]
      have w2 : ∀ u v : Int, -100000 ≤ u → u ≤ 100000 → -100000 ≤ v → v ≤ 100000 → wrap64 (u - v) = u - v := fun u v _ _ _ _ => w64 (by omega) (by omega)
      by_cases g1 : a3 ≤ at_ + x.f2
      · by_cases g2 : at_ ≤ a2
        · rw [if_pos g1, if_pos g2, w2 _ _ (by omega) (by omega) (by omega) (by omega)]
          split <;> omega
        · rw [if_pos g1, if_neg g2, w2 _ _ (by omega) (by omega) (by omega) (by omega)]
          split <;> omega
      · by_cases g2 : at_ ≤ a2
        · rw [if_neg g1, if_pos g2, w2 _ _ (by omega) (by omega) (by omega) (by omega)]
          split <;> omega
        · rw [if_neg g1, if_neg g2, w2 _ _ (by omega) (by omega) (by omega) (by omega)]
          split <;> omega
    obtain ⟨p0, p1, p2⟩ := hn0
    obtain ⟨n1, e1⟩ := addS_ok l x.f0 x.f1 (partN at_ x.f2 a2 a3) hl p0 (by omega) (by omega)
    have t1 := total_addS l x.f0 x.f1 (partN at_ x.f2 a2 a3) hl p0 (by omega) (by omega)
    obtain ⟨n2, e2⟩ := partGo_ok a2 a3 h2 h2' h3 h3' r (addS l x.f0 x.f1 (partN at_ x.f2 a2 a3)) (at_ + x.f2) n1 (fun y hy => hr y (List.mem_cons_of_mem _ hy)) (by omega) (by omega) (by omega)
    unfold partGo
    rw [w1]
    refine ⟨n2, ?_⟩
    rw [e2, e1, er, List.append_assoc]
    congr 1
    rw [List.take_append, List.drop_append, List.take_replicate, List.drop_replicate, List.length_replicate, List.length_replicate, p2]
    congr 1
    by_cases g : x.f2.toNat ≤ (a3 - at_).toNat
    · rw [show (a3 - (at_ + x.f2)).toNat = (a3 - at_).toNat - x.f2.toNat by omega, show (a2 - (at_ + x.f2)).toNat = (a2 - at_).toNat - min (a3 - at_).toNat x.f2.toNat by omega]
    · rw [show (a3 - (at_ + x.f2)).toNat = 0 by omega, show (a3 - at_).toNat - x.f2.toNat = 0 by omega]
      simp
theorem putL_ok (l : List Sp) (c f t s m : Int) (h : spansOk l c = true) (hs : spOk ⟨f, t, s, m⟩ c = true) : Norm (putL l c f t s m) ∧ total (putL l c f t s m) ≤ 1000 ∧ expand (putL l c f t s m) = setP (looksA l c.toNat) f.toNat t.toNat (s, m) := by
  have h' := h
  simp only [spansOk, Bool.and_eq_true, decide_eq_true_eq] at h'
  simp only [spOk, Bool.and_eq_true, decide_eq_true_eq] at hs
  obtain ⟨n0, t0, e0⟩ := looksL_ok l c h
  have hp := Norm_pos _ n0
  have z0 : total ([] : List St) = 0 := rfl
  have hlen : (expand (looksL l c)).length = c.toNat := by rw [e0, looksA_len]
  obtain ⟨n1, e1⟩ := partGo_ok 0 f (by omega) (by omega) (by omega) (by omega) (looksL l c) [] 0 trivial hp (by omega) (by omega) (by omega)
  have t1 : total (partGo (looksL l c) [] 0 0 f) ≤ 80 := by
    unfold total
    rw [e1]
    simp [expand, hlen]
    omega
  have w1 : wrap64 (t - f) = t - f := w64 (by omega) (by omega)
  obtain ⟨n2, e2⟩ := addS_ok (partGo (looksL l c) [] 0 0 f) s m (t - f) n1 (by omega) (by omega) (by omega)
  have t2 := total_addS (partGo (looksL l c) [] 0 0 f) s m (t - f) n1 (by omega) (by omega) (by omega)
  obtain ⟨n3, e3⟩ := partGo_ok t c (by omega) (by omega) (by omega) (by omega) (looksL l c) (addS (partGo (looksL l c) [] 0 0 f) s m (t - f)) 0 n2 hp (by omega) (by omega) (by omega)
  have e4 : expand (putL l c f t s m) = setP (looksA l c.toNat) f.toNat t.toNat (s, m) := by
    unfold putL
    rw [w1, e3, e2, e1, e0]
    have x1 : (looksA l c.toNat).take (c - 0).toNat = looksA l c.toNat := List.take_of_length_le (by rw [looksA_len]; omega)
    have x2 : (t - f).toNat = t.toNat - f.toNat := by omega
    rw [x1, x2]
    simp only [Int.sub_zero, Int.sub_self, Int.toNat_zero, List.drop_zero, expand, List.flatMap_nil, List.nil_append]
    exact setP_parts _ _ _ _ (by omega) (by rw [looksA_len]; omega)
  refine ⟨by unfold putL; rw [w1]; exact n3, ?_, e4⟩
  unfold total
  rw [e4, setP_len, looksA_len]
  omega
theorem implSpansPut (l : List Sp) (c f t s m : Int) (hl : l.length ≤ 1048576) (k : Nat) (hk : l.length + 1 ≤ k) : impl_SpansPut.f k l c f t s m = some (putSp l c f t s m) := by
  unfold impl_SpansPut.f putSp
  rw [implSpansOk l c hl k hk]
  simp only [Option.bind_some]
  by_cases h : spansOk l c = true
  · have hq : impl_spanOk.f f t s m c = some (spOk ⟨f, t, s, m⟩ c) := implSpanOk ⟨f, t, s, m⟩ c
    rw [if_pos h, hq]
    simp only [Option.bind_some]
    by_cases hs : spOk ⟨f, t, s, m⟩ c = true
    · have h' := h
      simp only [spansOk, Bool.and_eq_true, decide_eq_true_eq] at h'
      have hs' := hs
      simp only [spOk, Bool.and_eq_true, decide_eq_true_eq] at hs'
      obtain ⟨n0, t0, e0⟩ := looksL_ok l c h
      obtain ⟨n1, t1, e1⟩ := putL_ok l c f t s m h hs
      have hpos : 0 < (looksL l c).length := by
        rcases Nat.eq_zero_or_pos (looksL l c).length with g | g
        · rw [List.eq_nil_of_length_eq_zero g] at t0
          have z0 : total ([] : List St) = 0 := rfl
          omega
        · exact g
      rw [if_pos hs, if_pos ⟨by omega, hpos⟩, if_pos ⟨h, hs⟩]
      unfold putR
      rw [spansGo_plainL _ n1 (by omega), e1]
    · rw [if_neg hs, if_neg (fun g => hs g.2)]
  · rw [if_neg h, if_neg (fun g => h g.1)]
theorem specPut_l0 (L : List Lk) (hL : L.length ≤ 80) (f t : Nat) (s m : Int) (ht : t ≤ L.length) : ∀ (n i k : Nat), i + n = t → f ≤ i → n + 300 ≤ k →
    spec_SpansPut.l0 k ((setP L f i (s, m)).map ofLk) (i : Int) (f : Int) (t : Int) s m = some (if 12 < (plainL (setP L f t (s, m))).length then ([], false) else (plainL (setP L f t (s, m)), true))
  | 0, i, k, hi, hf, hk => by
    obtain ⟨k, rfl⟩ : ∃ q, k = q + 1 := ⟨k - 1, by omega⟩
    obtain rfl : i = t := by omega
    simp only [spec_SpansPut.l0]
    rw [if_neg (by omega), specSpans _ (by rw [setP_len]; exact hL) _ (by omega)]
    simp only [Option.bind_some]
    by_cases g : 12 < (plainL (setP L f i (s, m))).length
    · rw [if_pos (by omega), if_pos g]
    · rw [if_neg (by omega), if_neg g]
  | n + 1, i, k, hi, hf, hk => by
    obtain ⟨k, rfl⟩ : ∃ q, k = q + 1 := ⟨k - 1, by omega⟩
    have ih := specPut_l0 L hL f t s m ht n (i + 1) k (by omega) (by omega) (by omega)
    have e : ((setP L f i (s, m)).map ofLk).set ((i : Int)).toNat (⟨s, m⟩ : SLk) = (setP L f (i + 1) (s, m)).map ofLk := by
      rw [← setP_step L f i (s, m) hf (by omega), List.map_set, Int.toNat_natCast]
      rfl
    have hl : ((setP L f i (s, m)).map ofLk).length = L.length := by rw [List.length_map, setP_len]
    simp only [spec_SpansPut.l0]
    rw [if_pos (by omega), if_pos (by omega), if_pos (by omega), e, w64_len (by omega) (by omega)]
    exact ih
theorem specSpansPut (l : List Sp) (c f t s m : Int) (hw : ∀ s ∈ l, InI s.f0) (hf : InI f) (hl : l.length ≤ 1048576) (k : Nat) (hk : l.length + 700 ≤ k) : spec_SpansPut.f k l c f t s m = some (putSp l c f t s m) := by
  obtain ⟨k, rfl⟩ : ∃ q, k = q + 1 := ⟨k - 1, by omega⟩
  unfold spec_SpansPut.f putSp
  rw [specSpansOk l c hw hl (k + 1) (by omega)]
  simp only [Option.bind_some]
  by_cases h : spansOk l c = true
  · have h' := h
    simp only [spansOk, Bool.and_eq_true, decide_eq_true_eq] at h'
    have hq : spec_l6Ok.f f t s m c = some (spOk ⟨f, t, s, m⟩ c) := specL6Ok ⟨f, t, s, m⟩ c (by omega) (by omega) hf.1 hf.2
    rw [if_pos h, hq]
    simp only [Option.bind_some]
    by_cases hs : spOk ⟨f, t, s, m⟩ c = true
    · have hs' := hs
      simp only [spOk, Bool.and_eq_true, decide_eq_true_eq] at hs'
      rw [hs, if_pos ⟨h, rfl⟩]
      simp only [spec_SpansPut.j0, Bool.not_true, Bool.false_eq_true, if_false]
      rw [specLooks l c h k (by omega)]
      simp only [Option.bind_some]
      have := specPut_l0 (looksA l c.toNat) (by rw [looksA_len]; omega) f.toNat t.toNat s m (by rw [looksA_len]; omega) (t.toNat - f.toNat) f.toNat k (by omega) (Nat.le_refl _) (by omega)
      rw [setP_none] at this
      have e1 : ((f.toNat : Nat) : Int) = f := by omega
      have e2 : ((t.toNat : Nat) : Int) = t := by omega
      rw [e1, e2] at this
      exact this
    · rw [if_neg (fun g => hs g.2)]
      have hs2 : spOk ⟨f, t, s, m⟩ c = false := by simpa using hs
      rw [hs2]
      simp [spec_SpansPut.j0]
  · rw [if_neg h, if_neg (fun g => h g.1)]
    simp [spec_SpansPut.j0]
theorem putSp_len (l : List Sp) (c f t s m : Int) : (putSp l c f t s m).1.length ≤ 12 := by
  unfold putSp
  split
  · split
    · simp
    · simp only
      omega
  · simp

abbrev LSp := S51
theorem rdLSp_mid (pre : List LSp) (x : LSp) (suf : List LSp) : rd_T51 (pre ++ x :: suf) (pre.length : Int) = x := getD_mid pre x suf _
def cvt (x : LSp) : Sp := ⟨x.f0, x.f1, x.f2, x.f3⟩
theorem toSpanS_l0 : ∀ (suf pre : List LSp) (rest : List Sp) (k : Nat), rest.length = suf.length → (pre ++ suf).length ≤ 1048576 → suf.length + 1 ≤ k →
    laws_toSpanS.l0 k (pre ++ suf) (pre.map cvt ++ rest) (pre.length : Int) = some ((pre ++ suf).map cvt)
  | [], pre, rest, k, hr, hl, hk => by
    obtain ⟨k, rfl⟩ : ∃ m, k = m + 1 := ⟨k - 1, by simp at hk; omega⟩
    obtain rfl : rest = [] := List.eq_nil_of_length_eq_zero (by simpa using hr)
    simp only [laws_toSpanS.l0]
    rw [if_neg (len_end pre)]
    simp
  | x :: suf, pre, [], k, hr, hl, hk => by simp at hr
  | x :: suf, pre, y :: rest, k, hr, hl, hk => by
    obtain ⟨k, rfl⟩ : ∃ m, k = m + 1 := ⟨k - 1, by simp at hk; omega⟩
    have hp : (pre.length : Int) ≤ 1048576 := by simp at hl; omega
    have ih := toSpanS_l0 suf (pre ++ [x]) rest k (by simpa using hr) (by simpa using hl) (by simp at hk; omega)
    rw [len_snoc, ← app_cons] at ih
    have e : (pre.map cvt ++ y :: rest).set ((pre.length : Int)).toNat (cvt x) = (pre ++ [x]).map cvt ++ rest := by
      have := set_mid (pre.map cvt) y (cvt x) rest
      rw [List.length_map] at this
      rw [this]
      simp
    simp only [laws_toSpanS.l0, laws_toSpan.f]
    rw [if_pos (len_mid pre x suf), if_pos (by omega), rdLSp_mid]
    simp only [Option.bind_some]
    rw [if_pos (by simp; omega), w64_len (by omega) (by omega), ← ih, ← e]
    rfl
theorem toSpanS_ok (l : List LSp) (hl : l.length ≤ 1048576) (k : Nat) (hk : l.length + 1 ≤ k) : laws_toSpanS.f k l = some (l.map cvt) := by
  unfold laws_toSpanS.f
  rw [if_pos (by omega), if_pos (by omega), Int.toNat_natCast]
  exact toSpanS_l0 l [] (List.replicate l.length zSp) k (by simp) (by simpa using hl) hk

theorem eqSpanS_l0 : ∀ (suf pre : List Sp) (k : Nat), (pre ++ suf).length ≤ 1048576 → suf.length + 1 ≤ k → laws_eqSpanS.l0 k (pre ++ suf) (pre ++ suf) (pre.length : Int) = some true
  | [], pre, k, hl, hk => by
    obtain ⟨k, rfl⟩ : ∃ m, k = m + 1 := ⟨k - 1, by simp at hk; omega⟩
    simp only [laws_eqSpanS.l0]
    rw [if_neg (len_end pre)]
  | x :: suf, pre, k, hl, hk => by
    obtain ⟨k, rfl⟩ : ∃ m, k = m + 1 := ⟨k - 1, by simp at hk; omega⟩
    have hp : (pre.length : Int) ≤ 1048576 := by simp at hl; omega
    have ih := eqSpanS_l0 suf (pre ++ [x]) k (by simpa using hl) (by simp at hk; omega)
    rw [len_snoc, ← app_cons] at ih
    simp only [laws_eqSpanS.l0]
    rw [if_pos (len_mid pre x suf), if_pos (by omega), if_pos (len_mid pre x suf), rdSp_mid]
    simp only [laws_eqSpan.f, if_true, ↓reduceIte, Option.bind_some]
    rw [w64_len (by omega) (by omega), ih]
theorem eqSpanS_ok (l : List Sp) (hl : l.length ≤ 1048576) (k : Nat) (hk : l.length + 1 ≤ k) : laws_eqSpanS.f k l l = some true := by
  unfold laws_eqSpanS.f
  rw [if_pos rfl]
  exact eqSpanS_l0 l [] k (by simpa using hl) hk

/-- the numbers from one on, four a span -/
def marksS : Int → Nat → List Sp
  | _, 0 => []
  | a, n + 1 => ⟨a, a + 1, a + 1 + 1, a + 1 + 1 + 1⟩ :: marksS (a + 1 + 1 + 1 + 1) n
theorem markSpanT_l0 : ∀ (suf pre : List Sp) (a : Int) (k : Nat), 0 ≤ a → a + 4 * suf.length ≤ 4000000000 → (pre ++ suf).length ≤ 4000000 → suf.length + 1 ≤ k → laws_markSpanS.l0 k (pre ++ suf) a (pre.length : Int) = some (a + 4 * suf.length, pre ++ marksS a suf.length)
  | [], pre, a, k, h0, h1, hl, hk => by
    obtain ⟨k, rfl⟩ : ∃ m, k = m + 1 := ⟨k - 1, by simp at hk; omega⟩
    simp only [laws_markSpanS.l0]
    rw [if_neg (len_end pre)]
    simp [marksS]
  | x :: suf, pre, a, k, h0, h1, hl, hk => by
    obtain ⟨k, rfl⟩ : ∃ m, k = m + 1 := ⟨k - 1, by simp at hk; omega⟩
    have hp : (pre.length : Int) ≤ 4000000 := by simp at hl; omega
    simp only [List.length_cons] at h1
    have ih := markSpanT_l0 suf (pre ++ [⟨a, a + 1, a + 1 + 1, a + 1 + 1 + 1⟩]) (a + 1 + 1 + 1 + 1) k (by omega) (by omega) (by simpa using hl) (by simp at hk; omega)
    rw [len_snoc, ← app_cons] at ih
    simp only [laws_markSpanS.l0]
    rw [if_pos (len_mid pre x suf), if_pos (by omega), rdSp_mid, set_mid]
    simp only [Option.bind_some]
    rw [rdSp_mid, set_mid]
    rw [rdSp_mid, set_mid]
    rw [rdSp_mid, set_mid, w64_len (n := a) (by omega) (by omega), w64_len (n := a + 1) (by omega) (by omega), w64_len (n := a + 1 + 1) (by omega) (by omega), w64_len (n := a + 1 + 1 + 1) (by omega) (by omega), w64_len (by omega) (by omega), ih]
    simp only [List.length_cons, Option.some.injEq, Prod.mk.injEq, marksS]
    exact ⟨by omega, by simp⟩
theorem markSpanT_ok (l : List Sp) (a : Int) (h0 : 0 ≤ a) (h1 : a ≤ 3000000) (hl : l.length ≤ 1048576) (k : Nat) (hk : l.length + 1 ≤ k) : laws_markSpanS.f k l a = some (a + 4 * l.length, marksS a l.length) := by
  unfold laws_markSpanS.f
  exact markSpanT_l0 l [] a k h0 (by omega) (by simp; omega) hk
theorem heldSpanS_l0 : ∀ (n : Nat) (pre : List Sp) (a : Int) (k : Nat), 0 ≤ a → a + 4 * n ≤ 4000000000 → pre.length + n ≤ 4000000 → n + 1 ≤ k → laws_heldSpanS.l0 k (pre ++ marksS a n) a (pre.length : Int) = some (a + 4 * n)
  | 0, pre, a, k, h0, h1, hl, hk => by
    obtain ⟨k, rfl⟩ : ∃ m, k = m + 1 := ⟨k - 1, by omega⟩
    show laws_heldSpanS.l0 (k + 1) (pre ++ []) a (pre.length : Int) = some (a + 4 * (0 : Nat))
    simp only [laws_heldSpanS.l0]
    rw [if_neg (len_end pre)]
    simp
  | n + 1, pre, a, k, h0, h1, hl, hk => by
    obtain ⟨k, rfl⟩ : ∃ m, k = m + 1 := ⟨k - 1, by omega⟩
    show laws_heldSpanS.l0 (k + 1) (pre ++ ⟨a, a + 1, a + 1 + 1, a + 1 + 1 + 1⟩ :: marksS (a + 1 + 1 + 1 + 1) n) a (pre.length : Int) = some (a + 4 * (n + 1 : Nat))
    have e := heldSpanS_l0 n (pre ++ [⟨a, a + 1, a + 1 + 1, a + 1 + 1 + 1⟩]) (a + 1 + 1 + 1 + 1) k (by omega) (by omega) (by simp; omega) (by omega)
    rw [len_snoc, ← app_cons] at e
    simp only [laws_heldSpanS.l0]
    rw [if_pos (len_mid pre _ _), if_pos (by omega), rdSp_mid]
    simp only
    rw [w64_len (n := a) (by omega) (by omega), w64_len (n := a + 1) (by omega) (by omega), w64_len (n := a + 1 + 1) (by omega) (by omega), w64_len (n := a + 1 + 1 + 1) (by omega) (by omega), w64_len (by omega) (by omega), if_pos trivial, if_pos rfl, if_pos rfl, if_pos rfl, e]
    congr 1
    omega
theorem heldSpanS_ok (n : Nat) (a : Int) (h0 : 0 ≤ a) (h1 : a ≤ 3000000000) (hl : n ≤ 200000) (k : Nat) (hk : n + 1 ≤ k) : laws_heldSpanS.f k (marksS a n) a = some (a + 4 * n) := by
  unfold laws_heldSpanS.f
  exact heldSpanS_l0 n [] a k h0 (by omega) (by simp; omega) hk

theorem FnExactSpansPut : laws_FnExactSpansPut.Pure := by
  intro s c f t z m _ hsz hws _ hf _ _ _
  unfold laws_FnExactSpansPut.f laws_szSpanS.f
  by_cases hb : s.length ≤ 1048576
  · refine ⟨s.length + 1003, ?_⟩
    generalize hK : s.length + 1000 = K
    rw [show s.length + 1003 = K + 1 + 1 + 1 by omega]
    have hsp : ∀ x ∈ s.map cvt, InI x.f0 := by
      intro x hx
      obtain ⟨y, hy, rfl⟩ := List.mem_map.1 hx
      exact in_i64 (hws y hy).1
    have hsl : (s.map cvt).length ≤ 1048576 := by simpa using hb
    have hsl' : (s.map cvt).length = s.length := by simp
    have hT := fun k (hk : K ≤ k) => toSpanS_ok s hb k (by omega)
    have hI := fun k (hk : K ≤ k) => implSpansPut (s.map cvt) c f t z m hsl k (by omega)
    have hS := fun k (hk : K ≤ k) => specSpansPut (s.map cvt) c f t z m hsp (in_i64 hf) hsl k (by omega)
    have hn := putSp_len (s.map cvt) c f t z m
    generalize hp : putSp (s.map cvt) c f t z m = p at hI hS hn
    obtain ⟨g, ok⟩ := p
    simp only at hn
    have hE := fun k (hk : K ≤ k) => eqSpanS_ok g (by omega) k (by omega)
    have hE2 := fun k (hk : K ≤ k) => eqSpanS_ok (s.map cvt) hsl k (by omega)
    have hM := fun k (hk : K ≤ k) => markSpanT_ok (s.map cvt) 1 (by omega) (by omega) hsl k (by omega)
    have hM2 := fun k (hk : K ≤ k) => markSpanT_ok g 1 (by omega) (by omega) (by omega) k (by omega)
    have hH := fun k (hk : K ≤ k) => heldSpanS_ok g.length 1 (by omega) (by omega) (by omega) k (by omega)
    rw [w64 (by omega) (by omega), if_neg (by omega)]
    simp only [Option.bind_some]
    rw [if_neg (by omega), hT _ (by omega)]
    simp only [Option.bind_some, laws_toSpan.f]
    rw [hS _ (by omega)]
    simp only [Option.bind_some]
    rw [hI _ (by omega)]
    simp only [Option.bind_some]
    rw [hE _ (by omega)]
    simp only [Option.bind_some, if_true, bne_self_eq_false]
    simp only [laws_FnExactSpansPut.j0, Bool.false_eq_true, if_false]
    rw [hT _ (by omega)]
    simp only [Option.bind_some]
    rw [hE2 _ (by omega)]
    simp only [Option.bind_some, if_true]
    rw [hM _ (by omega)]
    simp only [Option.bind_some]
    rw [if_neg (by omega), hE _ (by omega)]
    simp only [Option.bind_some, if_true, bne_self_eq_false]
    simp only [laws_FnExactSpansPut.j1, Bool.false_eq_true, if_false]
    rw [hM2 _ (by omega)]
    simp only [Option.bind_some]
    rw [hH _ (by omega)]
    simp only [Option.bind_some]
    rw [if_neg (by omega), if_pos trivial, hT _ (by omega)]
    simp only [Option.bind_some, laws_toSpan.f]
    rw [hI _ (by omega)]
    simp only [Option.bind_some]
    rw [hE _ (by omega)]
    simp only [Option.bind_some, if_true, bne_self_eq_false]
    simp only [laws_FnExactSpansPut.j2, Bool.false_eq_true, if_false]
    rw [hH _ (by omega)]
    simp only [Option.bind_some]
    rw [if_neg (by omega)]
    simp
  · refine ⟨0, ?_⟩
    by_cases hbig : (s.length : Int) ≤ 9000000000000000000
    · rw [w64 (by omega) (by omega), if_pos (by omega)]
      simp
    · exfalso
      omega

end Go.Proofs.Ytkapjhlcmicpnaa.Pure
