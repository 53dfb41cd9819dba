/- The program's OrderBack answers as the reference's, for all levels (at most 2^20 of them: longer lists the law itself lets by), writes into no argument, and its answer is its own: the law FnExactOrderBack answers true; no condition. -/
import Derived.Test.YtpdkddhadgeheaaPFnExactOrderBackx5
namespace Go.Proofs.Ytpdkddhadgeheaa.Pure
open Go.RowKit Go.Proofs.Ytpdkddhadgeheaa.PFnExactOrderBack Go.Proofs.YtpdkddhadgeheaaW.PrintWords Go.Proofs.YtpdkddhadgeheaaW.PrintLast Go.Proofs.YtpdkddhadgeheaaW.PrintMore
set_option linter.unusedVariables false
set_option linter.unusedSimpArgs false

/-! small lemmas on whole numbers, lists and rounds -/
theorem w64 {x : Int} (h : -9223372036854775808 ≤ x) (h' : x ≤ 9223372036854775807) : wrap64 x = x := by
  unfold wrap64
  omega
theorem in_i64 {x : Int} (h : (Lit.int .i64 x).wf = true) : -9223372036854775808 ≤ x ∧ x ≤ 9223372036854775807 := by
  simpa [Lit.wf, IntKind.min, IntKind.max, IntKind.bits, IntKind.signed] using h
theorem in_u8 {x : Int} (h : (Lit.int .u8 x).wf = true) : 0 ≤ x ∧ x ≤ 255 := by
  simpa [Lit.wf, IntKind.min, IntKind.max, IntKind.bits, IntKind.signed] using h
theorem rd_nat (l : List Int) (i : Nat) : rd l (i : Int) = l.getD i 0 := by
  unfold rd
  rw [Int.toNat_natCast]

/-! lists, place by place: what lies ahead of a place, the place, what lies behind -/
theorem getD_mid {α : Type} (pre : List α) (x : α) (suf : List α) (d : α) : (pre ++ x :: suf).getD ((pre.length : Int)).toNat d = x := by
  rw [Int.toNat_natCast, List.getD_eq_getElem?_getD]
  simp
theorem set_mid {α : Type} (pre : List α) (x y : α) (suf : List α) : (pre ++ x :: suf).set ((pre.length : Int)).toNat y = pre ++ y :: suf := by
  rw [Int.toNat_natCast]
  simp
theorem rd_mid (pre : List Int) (x : Int) (suf : List Int) : rd (pre ++ x :: suf) (pre.length : Int) = x := getD_mid pre x suf 0
theorem len_mid {α : Type} (pre : List α) (x : α) (suf : List α) : (pre.length : Int) < ((pre ++ x :: suf).length : Int) := by
  simp only [List.length_append, List.length_cons]
  omega
theorem len_end {α : Type} (pre : List α) : ¬ (pre.length : Int) < ((pre ++ []).length : Int) := by simp
theorem len_snoc {α : Type} (pre : List α) (x : α) : ((pre ++ [x]).length : Int) = (pre.length : Int) + 1 := by simp
theorem app_cons {α : Type} (pre : List α) (x : α) (suf : List α) : pre ++ x :: suf = (pre ++ [x]) ++ suf := by simp
theorem w64_len {n : Int} (h0 : 0 ≤ n) (h : n ≤ 9000000000000000000) : wrap64 (n + 1) = n + 1 := w64 (by omega) (by omega)

theorem specIn (a b c : Int) : spec_l1In.f a b c = some (decide (b ≤ a ∧ a ≤ c)) := by
  unfold spec_l1In.f
  by_cases h1 : b ≤ a <;> by_cases h2 : a ≤ c <;> simp [h1, h2]

/-- a list of levels that may be ordered -/
def okL (l : List Int) : Bool := decide ((l.length : Int) ≤ 80) && l.all fun x => decide (-1 ≤ x ∧ x ≤ 22)
theorem implLevelsOk (l : List Int) : impl_levelsOk.f l = some (okL l) := by
  unfold impl_levelsOk.f okL
  congr 2
  induction l with
  | nil => rfl
  | cons x r ih =>
    simp only [List.any_cons, List.all_cons, Bool.not_or, ih]
    congr 1
    unfold noLv
    by_cases h1 : x < -1 <;> by_cases h2 : 22 < x <;> simp [h1, h2] <;> omega
theorem specL4Ok_l0 : ∀ (suf pre : List Int) (k : Nat), (pre ++ suf).length ≤ 1048576 → suf.length + 1 ≤ k →
    spec_l4Ok.l0 k (pre ++ suf) (pre.length : Int) = some (decide (((pre ++ suf).length : Int) ≤ 80) && suf.all fun x => decide (-1 ≤ x ∧ x ≤ 22))
  | [], pre, k, hl, hk => by
    obtain ⟨k, rfl⟩ : ∃ m, k = m + 1 := ⟨k - 1, by simp at hk; omega⟩
    simp only [spec_l4Ok.l0]
    rw [if_neg (len_end pre)]
    simp
  | x :: suf, pre, k, hl, hk => by
    obtain ⟨k, rfl⟩ : ∃ m, k = m + 1 := ⟨k - 1, by simp at hk; omega⟩
    have hp : (pre.length : Int) ≤ 1048576 := by simp at hl; omega
    have ih := specL4Ok_l0 suf (pre ++ [x]) k (by simpa using hl) (by simp at hk; omega)
    rw [len_snoc, ← app_cons] at ih
    simp only [spec_l4Ok.l0]
    rw [if_pos (len_mid pre x suf), if_pos (by omega), rd_mid, specIn, w64_len (by omega) (by omega), ih]
    simp only [Option.bind_some, List.all_cons]
    cases decide (-1 ≤ x ∧ x ≤ 22) <;> simp
theorem specL4Ok (l : List Int) (hl : l.length ≤ 1048576) (k : Nat) (hk : l.length + 1 ≤ k) : spec_l4Ok.f k l = some (okL l) := specL4Ok_l0 l [] k (by simpa using hl) hk
theorem okL_len {l : List Int} (h : okL l = true) : l.length ≤ 80 := by
  unfold okL at h
  simp only [Bool.and_eq_true, decide_eq_true_eq] at h
  omega
theorem okL_all {l : List Int} (h : okL l = true) : ∀ x ∈ l, -1 ≤ x ∧ x ≤ 22 := by
  unfold okL at h
  simp only [Bool.and_eq_true, List.all_eq_true, decide_eq_true_eq] at h
  exact h.2

theorem implOrder {l : List Int} (h : okL l = true) : impl_order.f l = some (orderL l) := by
  unfold impl_order.f
  rw [if_pos]
  refine ⟨by have := okL_len h; omega, ?_⟩
  rw [List.all_eq_true]
  intro x hx
  have := okL_all h x hx
  simp only [decide_eq_true_eq]
  omega
theorem turnGo_seg (p : Int → Bool) : ∀ (seg rest acc : List Int), (∀ x ∈ seg, p x = true) → turnGo p acc (seg ++ rest) = turnGo p (seg.reverse ++ acc) rest
  | [], rest, acc, _ => rfl
  | x :: seg, rest, acc, h => by
    simp only [List.cons_append, turnGo]
    rw [if_pos (h x List.mem_cons_self), turnGo_seg p seg rest (x :: acc) (fun y hy => h y (List.mem_cons_of_mem _ hy))]
    simp
theorem turnL_nil (p : Int → Bool) : turnL p [] = [] := rfl
theorem turnL_cons (p : Int → Bool) (x : Int) (r : List Int) (h : p x = false) : turnL p (x :: r) = x :: turnL p r := by
  unfold turnL
  simp [turnGo, h]
def Stops (p : Int → Bool) (r : List Int) : Prop := r = [] ∨ ∃ x s, r = x :: s ∧ p x = false
theorem turnL_seg (p : Int → Bool) (seg rest : List Int) (h : ∀ x ∈ seg, p x = true) (hr : Stops p rest) : turnL p (seg ++ rest) = seg.reverse ++ turnL p rest := by
  unfold turnL
  rw [turnGo_seg p seg rest [] h, List.append_nil]
  rcases hr with rfl | ⟨x, s, rfl, hx⟩
  · simp [turnGo]
  · simp [turnGo, hx]
theorem split_seg (p : Int → Bool) : ∀ l : List Int, ∃ seg rest, l = seg ++ rest ∧ (∀ x ∈ seg, p x = true) ∧ Stops p rest
  | [] => ⟨[], [], rfl, by simp, .inl rfl⟩
  | x :: l => by
    cases hp : p x with
    | false => exact ⟨[], x :: l, rfl, by simp, .inr ⟨x, l, rfl, hp⟩⟩
    | true =>
      obtain ⟨seg, rest, e, h1, h2⟩ := split_seg p l
      refine ⟨x :: seg, rest, by rw [e]; rfl, fun y hy => ?_, h2⟩
      rcases List.mem_cons.1 hy with rfl | hy
      · exact hp
      · exact h1 y hy
section
variable (x1 : List Int) (lv : Int)
abbrev pT : Int → Bool := fun at_ => decide (lv ≤ rd x1 at_)
theorem specTurn_l1 (s : Int) (out r : List Int) (B : Nat) : ∀ (seg pre rest : List Int), (∀ x ∈ seg, pT x1 lv x = true) → Stops (pT x1 lv) rest → (∀ x ∈ pre ++ (seg ++ rest), 0 ≤ x ∧ x < (x1.length : Int)) → (pre ++ (seg ++ rest)).length ≤ 1048576 →
    (∀ k', B ≤ k' → spec_l4Turn.j2 k' (pre ++ (seg ++ rest)) x1 lv out s ((pre ++ seg).length : Int) = some r) → ∀ k, B + seg.length + 1 ≤ k → spec_l4Turn.l1 k (pre ++ (seg ++ rest)) x1 lv out s (pre.length : Int) = some r
  | [], pre, rest, _, hs, hx, hl, hj, k, hk => by
    obtain ⟨k, rfl⟩ : ∃ m, k = m + 1 := ⟨k - 1, by simp at hk; omega⟩
    simp only [spec_l4Turn.l1]
    simp only [List.nil_append, List.append_nil] at hj hx hl ⊢
    rcases hs with rfl | ⟨x, q, rfl, hq⟩
    · rw [if_neg (len_end pre)]
      exact hj k (by simp at hk; omega)
    · have h0 := hx x (by simp)
      simp only [pT, decide_eq_false_iff_not] at hq
      rw [if_pos (len_mid pre x q), if_pos (by omega), rd_mid, if_pos h0.1, if_pos h0.2, if_neg (by omega)]
      exact hj k (by simp at hk; omega)
  | x :: seg, pre, rest, hp, hs, hx, hl, hj, k, hk => by
    obtain ⟨k, rfl⟩ : ∃ m, k = m + 1 := ⟨k - 1, by simp at hk; omega⟩
    have hpl : (pre.length : Int) ≤ 1048576 := by simp at hl; omega
    have e : pre ++ (x :: seg ++ rest) = (pre ++ [x]) ++ (seg ++ rest) := by simp
    have e2 : pre ++ x :: seg = (pre ++ [x]) ++ seg := by simp
    have h0 := hx x (by simp)
    have h1 := hp x List.mem_cons_self
    simp only [pT, decide_eq_true_eq] at h1
    have ih := specTurn_l1 s out r B seg (pre ++ [x]) rest (fun y hy => hp y (List.mem_cons_of_mem _ hy)) hs (by rw [← e]; exact hx) (by rw [← e]; exact hl) (by rw [← e, ← e2]; exact hj) k (by simp at hk; omega)
    rw [← e, len_snoc] at ih
    simp only [spec_l4Turn.l1]
    rw [List.cons_append, if_pos (len_mid pre x _), if_pos (by omega), rd_mid, if_pos h0.1, if_pos h0.2, if_pos (by omega), w64_len (by omega) (by omega)]
    exact ih
theorem specTurn_l2 (r : List Int) (B : Nat) (e : Int) : ∀ (ys pre rest out : List Int), (pre ++ (ys.reverse ++ rest)).length ≤ 1048576 → out.length + ys.length ≤ 1048576 →
    (∀ k', B ≤ k' → spec_l4Turn.l2 k' (pre ++ (ys.reverse ++ rest)) x1 lv (out ++ ys) (pre.length : Int) e ((pre.length : Int) - 1) = some r) → ∀ k, B + ys.length ≤ k → spec_l4Turn.l2 k (pre ++ (ys.reverse ++ rest)) x1 lv out (pre.length : Int) e ((pre.length : Int) + ys.length - 1) = some r
  | [], pre, rest, out, hl, ho, hj, k, hk => by
    have := hj k (by simpa using hk)
    simpa using this
  | y :: ys, pre, rest, out, hl, ho, hj, k, hk => by
    obtain ⟨k, rfl⟩ : ∃ m, k = m + 1 := ⟨k - 1, by simp at hk; omega⟩
    have hpl : (pre.length : Int) + ys.length + 1 ≤ 1048576 := by simp at hl; omega
    have ee : pre ++ ((y :: ys).reverse ++ rest) = pre ++ (ys.reverse ++ (y :: rest)) := by simp
    rw [ee] at hl hj ⊢
    have ih := specTurn_l2 r B e ys pre (y :: rest) (out ++ [y]) hl (by simp at ho ⊢; omega) (by simpa using hj) k (by simp at hk; omega)
    have e1 : (pre.length : Int) + ((y :: ys).length : Int) - 1 = ((pre ++ ys.reverse).length : Int) := by simp; omega
    have e2 : pre ++ (ys.reverse ++ y :: rest) = (pre ++ ys.reverse) ++ y :: rest := by simp
    simp only [spec_l4Turn.l2]
    rw [e1, if_pos (by simp; omega), if_pos (by omega), if_pos (by rw [e2]; exact len_mid _ y rest), if_pos (by simp at ho; omega)]
    have e3 : rd (pre ++ (ys.reverse ++ y :: rest)) ((pre ++ ys.reverse).length : Int) = y := by rw [e2]; exact rd_mid _ y rest
    rw [e3, w64 (by simp; omega) (by simp; omega)]
    have e4 : ((pre ++ ys.reverse).length : Int) - 1 = (pre.length : Int) + ys.length - 1 := by simp
    rw [e4]
    exact ih
theorem specTurn_l0 : ∀ (n : Nat) (suf pre out : List Int), suf.length ≤ n → (∀ x ∈ pre ++ suf, 0 ≤ x ∧ x < (x1.length : Int)) → (pre ++ suf).length ≤ 1048576 → out.length = pre.length → ∀ k, 6 * suf.length + 1 ≤ k →
    spec_l4Turn.l0 k (pre ++ suf) x1 lv out (pre.length : Int) = some (out ++ turnL (pT x1 lv) suf)
  | 0, suf, pre, out, hn, hx, hl, ho, k, hk => by
    obtain rfl : suf = [] := List.eq_nil_of_length_eq_zero (by omega)
    obtain ⟨k, rfl⟩ : ∃ m, k = m + 1 := ⟨k - 1, by simp at hk; omega⟩
    simp only [spec_l4Turn.l0]
    rw [if_neg (len_end pre), turnL_nil]
    simp
  | n + 1, suf, pre, out, hn, hx, hl, ho, k, hk => by
    obtain ⟨k, rfl⟩ : ∃ m, k = m + 1 := ⟨k - 1, by omega⟩
    cases suf with
    | nil =>
      simp only [spec_l4Turn.l0]
      rw [if_neg (len_end pre), turnL_nil]
      simp
    | cons x s0 =>
      obtain ⟨seg, rest, e, h1, h2⟩ := split_seg (pT x1 lv) (x :: s0)
      simp only [spec_l4Turn.l0]
      rw [if_pos (len_mid pre x s0)]
      rw [e] at hx hl hn hk ⊢
      have hpl : (pre.length : Int) ≤ 1048576 := by simp at hl; omega
      have hpl2 : pre.length + (seg.length + rest.length) ≤ 1048576 := by simpa using hl
      cases seg with
      | nil =>
        rcases h2 with rfl | ⟨y, q, rfl, hq⟩
        · simp at e
        refine specTurn_l1 x1 lv (pre.length : Int) out _ (6 * q.length + 3) [] pre (y :: q) h1 (.inr ⟨y, q, rfl, hq⟩) hx hl ?_ k (by simp at hk ⊢; omega)
        intro k1 hk1
        obtain ⟨k1, rfl⟩ : ∃ m, k1 = m + 2 := ⟨k1 - 2, by omega⟩
        simp only [spec_l4Turn.j2, spec_l4Turn.l2, List.append_nil, List.nil_append]
        have hpl3 : pre.length + (q.length + 1) ≤ 1048576 := by simpa using hl
        rw [w64 (by omega) (by omega), if_neg (by omega), if_pos trivial, if_pos (by omega), if_pos (len_mid pre y q), if_pos (by omega), rd_mid, w64_len (by omega) (by omega), ← len_snoc pre y, app_cons pre y q]
        have ih := specTurn_l0 n q (pre ++ [y]) (out ++ [y]) (by simp at hn; omega) (by simpa using hx) (by simpa using hl) (by simp [ho]) k1 (by omega)
        rw [ih, turnL_cons _ _ _ hq]
        simp
      | cons z seg =>
        refine specTurn_l1 x1 lv (pre.length : Int) out _ (seg.length + 1 + 6 * rest.length + 3) (z :: seg) pre rest h1 h2 hx hl ?_ k (by simp at hk ⊢; omega)
        intro k1 hk1
        obtain ⟨k1, rfl⟩ : ∃ m, k1 = m + 1 := ⟨k1 - 1, by omega⟩
        simp only [spec_l4Turn.j2]
        have e5 : z :: seg = (z :: seg).reverse.reverse := by simp
        have e6 : ((pre ++ z :: seg).length : Int) = (pre.length : Int) + ((z :: seg).reverse.length : Int) := by simp
        have e7 : wrap64 (((pre ++ z :: seg).length : Int) - 1) = (pre.length : Int) + ((z :: seg).reverse.length : Int) - 1 := by
          rw [e6, w64 (by simp; omega) (by simp at hpl2 ⊢; omega)]
        rw [e7]
        have hl2 := specTurn_l2 x1 lv (out ++ turnL (pT x1 lv) (z :: seg ++ rest)) (6 * rest.length + 2) ((pre ++ z :: seg).length : Int) (z :: seg).reverse pre rest out
        rw [List.reverse_reverse] at hl2
        refine hl2 hl (by simp at hpl2 ⊢; omega) ?_ k1 (by simp; omega)
        intro k2 hk2
        obtain ⟨k2, rfl⟩ : ∃ m, k2 = m + 1 := ⟨k2 - 1, by omega⟩
        simp only [spec_l4Turn.l2]
        rw [if_neg (by omega), if_neg (by simp; omega)]
        have e8 : pre ++ (z :: seg ++ rest) = (pre ++ z :: seg) ++ rest := by simp
        have ih := specTurn_l0 n rest (pre ++ z :: seg) (out ++ (z :: seg).reverse) (by simp at hn; omega) (by rw [← e8]; exact hx) (by rw [← e8]; exact hl) (by simp [ho]) k2 (by omega)
        rw [e8, ih, turnL_seg _ (z :: seg) rest h1 h2]
        simp
end
theorem specTurn (x1 xs : List Int) (lv : Int) (hx : ∀ x ∈ xs, 0 ≤ x ∧ x < (x1.length : Int)) (hl : xs.length ≤ 1048576) (k : Nat) (hk : 6 * xs.length + 1 ≤ k) : spec_l4Turn.f k xs x1 lv = some (turnL (fun at_ => decide (lv ≤ rd x1 at_)) xs) := by
  unfold spec_l4Turn.f
  exact specTurn_l0 x1 lv xs.length xs [] [] (Nat.le_refl _) (by simpa using hx) (by simpa using hl) rfl k hk
theorem turnL_len (p : Int → Bool) (xs : List Int) : (turnL p xs).length = xs.length := by
  unfold turnL
  rw [turnL_length]
  simp
theorem specOrder_l1 (l : List Int) : ∀ (n : Nat) (xs : List Int) (k : Nat), n ≤ 1000 → (∀ x ∈ xs, 0 ≤ x ∧ x < (l.length : Int)) → xs.length ≤ 1048576 → n + 6 * xs.length + 2 ≤ k → spec_l4Order.l1 k l xs (n : Int) = some (orderGo l n xs)
  | 0, xs, k, hn, hx, hl, hk => by
    obtain ⟨k, rfl⟩ : ∃ m, k = m + 1 := ⟨k - 1, by omega⟩
    simp [spec_l4Order.l1, orderGo]
  | n + 1, xs, k, hn, hx, hl, hk => by
    obtain ⟨k, rfl⟩ : ∃ m, k = m + 1 := ⟨k - 1, by omega⟩
    simp only [spec_l4Order.l1, orderGo]
    rw [if_pos (by omega), specTurn l xs _ hx hl k (by omega)]
    simp only [Option.bind_some]
    have e : wrap64 (((n + 1 : Nat) : Int) - 1) = (n : Int) := by rw [w64 (by omega) (by omega)]; omega
    rw [e, specOrder_l1 l n _ k (by omega) (fun x h => hx x (turnL_mem _ xs x h)) (by rw [turnL_len]; exact hl) (by rw [turnL_len]; omega)]
    rfl
theorem specOrder_l0 : ∀ (suf pre out : List Int) (m : Int) (k : Nat), 0 ≤ m → m ≤ 22 → (∀ x ∈ suf, -1 ≤ x ∧ x ≤ 22) → (∀ x ∈ out, 0 ≤ x ∧ x < (pre.length : Int)) → (pre ++ suf).length ≤ 80 → out.length ≤ pre.length → suf.length + 600 ≤ k →
    spec_l4Order.l0 k (pre ++ suf) out m (pre.length : Int) = some (orderGo (pre ++ suf) (most m suf).toNat (out ++ vis suf (pre.length : Int)))
  | [], pre, out, m, k, h0, h1, hs, ho, hl, hol, hk => by
    obtain ⟨k, rfl⟩ : ∃ j, k = j + 1 := ⟨k - 1, by simp at hk; omega⟩
    simp only [spec_l4Order.l0, most, vis]
    rw [if_neg (len_end pre)]
    have e : m = (m.toNat : Int) := by omega
    have hl' : pre.length ≤ 80 := by simpa using hl
    have := specOrder_l1 (pre ++ []) m.toNat out k (by omega) (by simpa using ho) (by omega) (by simp at hk; omega)
    rw [← e] at this
    rw [this]
    simp
  | x :: suf, pre, out, m, k, h0, h1, hs, ho, hl, hol, hk => by
    obtain ⟨k, rfl⟩ : ∃ j, k = j + 1 := ⟨k - 1, by simp at hk; omega⟩
    have hp : (pre.length : Int) ≤ 80 := by simp at hl; omega
    have hx := hs x List.mem_cons_self
    simp only [spec_l4Order.l0, most, vis]
    rw [if_pos (len_mid pre x suf), if_pos (by omega), rd_mid, w64_len (by omega) (by omega)]
    have hw : ∀ (q : List Int), (∀ y ∈ q, 0 ≤ y ∧ y < (pre.length : Int)) → ∀ y ∈ q, 0 ≤ y ∧ y < ((pre ++ [x]).length : Int) := by
      intro q hq y hy
      have := hq y hy
      simp
      omega
    have hne : ∀ y ∈ out ++ [(pre.length : Int)], 0 ≤ y ∧ y < ((pre ++ [x]).length : Int) := by
      intro y hy
      rcases List.mem_append.1 hy with hy | hy
      · exact hw out ho y hy
      · simp at hy
        subst hy
        constructor <;> simp <;> omega
    have ihA := fun m' h0' h1' => specOrder_l0 suf (pre ++ [x]) (out ++ [(pre.length : Int)]) m' k h0' h1' (fun y hy => hs y (List.mem_cons_of_mem _ hy)) hne (by simpa using hl) (by simp; omega) (by simp at hk; omega)
    have ihB := fun m' h0' h1' => specOrder_l0 suf (pre ++ [x]) out m' k h0' h1' (fun y hy => hs y (List.mem_cons_of_mem _ hy)) (hw out ho) (by simpa using hl) (by simp; omega) (by simp at hk; omega)
    simp only [len_snoc, ← app_cons] at ihA ihB
    by_cases hz : x = -1
    · subst hz
      rw [if_neg (by omega), if_neg (by omega), ihB m h0 h1]
      simp
    · rw [if_pos (by omega), if_pos (by omega), if_neg hz, if_neg hz]
      simp only [Option.bind_some]
      by_cases hm : m < x
      · rw [if_pos (by omega), if_pos hm, ihA x (by omega) hx.2]
        try simp
      · rw [if_neg (by omega), if_neg hm, ihA m h0 h1]
        try simp
theorem specOrder {l : List Int} (h : okL l = true) (k : Nat) (hk : 700 ≤ k) : spec_l4Order.f k l = some (orderL l) := by
  unfold spec_l4Order.f orderL
  have := okL_len h
  exact specOrder_l0 l [] [] 0 k (by omega) (by omega) (okL_all h) (by simp) (by simpa using this) (Nat.le_refl _) (by omega)
theorem vis_len : ∀ (l : List Int) (i : Int), (vis l i).length ≤ l.length
  | [], _ => Nat.le_refl _
  | x :: xs, i => by
    unfold vis
    have := vis_len xs (i + 1)
    split <;> simp <;> omega
theorem orderGo_len (l : List Int) : ∀ (n : Nat) (xs : List Int), (orderGo l n xs).length = xs.length
  | 0, xs => rfl
  | n + 1, xs => by
    simp only [orderGo]
    rw [orderGo_len l n, turnL_len]
theorem orderL_len {l : List Int} (h : okL l = true) : (orderL l).length ≤ 80 := by
  unfold orderL
  rw [orderGo_len]
  have := vis_len l 0
  have := okL_len h
  omega

def putGo : List Int → Int → List Int → List Int
  | b, _, [] => b
  | b, i, x :: xs => putGo (b.set x.toNat i) (i + 1) xs
def backL (l : List Int) : List Int := putGo (List.replicate l.length (-1)) 0 (orderL l)
theorem putGo_length : ∀ (xs b : List Int) (i : Int), (putGo b i xs).length = b.length
  | [], b, i => rfl
  | x :: xs, b, i => by
    simp only [putGo]
    rw [putGo_length xs]
    simp
theorem orderGo_mem (l : List Int) : ∀ (n : Nat) (xs : List Int), ∀ x ∈ orderGo l n xs, x ∈ xs
  | 0, xs, x, h => h
  | n + 1, xs, x, h => turnL_mem _ xs x (orderGo_mem l n _ x h)
theorem orderL_mem (l : List Int) : ∀ x ∈ orderL l, 0 ≤ x ∧ x < (l.length : Int) := by
  intro x h
  have := vis_mem l 0 x (orderGo_mem l _ _ x h)
  omega
theorem implFill_l0 (a : Int) : ∀ (suf pre : List Int) (n : Int) (k : Nat), n = ((pre ++ suf).length : Int) → (pre ++ suf).length ≤ 1048576 → suf.length + 1 ≤ k → impl_fill.l0 k (pre ++ suf) a n (pre.length : Int) = some (pre ++ List.replicate suf.length a)
  | [], pre, n, k, hn, hl, hk => by
    obtain ⟨k, rfl⟩ : ∃ m, k = m + 1 := ⟨k - 1, by simp at hk; omega⟩
    simp only [impl_fill.l0]
    rw [hn, if_neg (len_end pre)]
    simp
  | x :: suf, pre, n, k, hn, hl, hk => by
    obtain ⟨k, rfl⟩ : ∃ m, k = m + 1 := ⟨k - 1, by simp at hk; omega⟩
    have hp : (pre.length : Int) ≤ 1048576 := by simp at hl; omega
    simp only [impl_fill.l0]
    rw [hn, if_pos (len_mid pre x suf), if_pos (by omega), if_pos (len_mid pre x suf), set_mid, w64_len (by omega) (by omega), ← len_snoc pre a, app_cons pre a suf, implFill_l0 a suf (pre ++ [a]) _ k (by simp) (by simpa using hl) (by simp at hk; omega)]
    simp [List.replicate_succ]
theorem implFill (a : Int) (l : List Int) (hl : l.length ≤ 1048576) (k : Nat) (hk : l.length + 1 ≤ k) : impl_fill.f k l a = some (List.replicate l.length a) := implFill_l0 a l [] _ k rfl (by simpa using hl) hk
theorem implBack_l0 : ∀ (suf pre b : List Int) (k : Nat), (∀ x ∈ suf, 0 ≤ x ∧ x < (b.length : Int)) → (pre ++ suf).length ≤ 1048576 → suf.length + 1 ≤ k →
    impl_OrderBack.l0 k b (pre ++ suf) ((pre ++ suf).length : Int) (pre.length : Int) = some (putGo b (pre.length : Int) suf)
  | [], pre, b, k, hx, hl, hk => by
    obtain ⟨k, rfl⟩ : ∃ m, k = m + 1 := ⟨k - 1, by simp at hk; omega⟩
    simp only [impl_OrderBack.l0, putGo]
    rw [if_neg (len_end pre)]
  | x :: suf, pre, b, k, hx, hl, hk => by
    obtain ⟨k, rfl⟩ : ∃ m, k = m + 1 := ⟨k - 1, by simp at hk; omega⟩
    have hp : (pre.length : Int) ≤ 1048576 := by simp at hl; omega
    have h0 := hx x List.mem_cons_self
    have ih := implBack_l0 suf (pre ++ [x]) (b.set x.toNat (pre.length : Int)) k (by simpa using fun y hy => hx y (List.mem_cons_of_mem _ hy)) (by simpa using hl) (by simp at hk; omega)
    rw [len_snoc, ← app_cons] at ih
    simp only [impl_OrderBack.l0, putGo]
    rw [if_pos (len_mid pre x suf), if_pos (by omega), if_pos (len_mid pre x suf), rd_mid, if_pos h0.1, if_pos h0.2, w64_len (by omega) (by omega), ih]
theorem specBack_l1 : ∀ (suf pre b : List Int) (k : Nat), (∀ x ∈ suf, 0 ≤ x ∧ x < (b.length : Int)) → (pre ++ suf).length ≤ 1048576 → suf.length + 1 ≤ k →
    spec_OrderBack.l1 k b (pre ++ suf) (pre.length : Int) = some (putGo b (pre.length : Int) suf)
  | [], pre, b, k, hx, hl, hk => by
    obtain ⟨k, rfl⟩ : ∃ m, k = m + 1 := ⟨k - 1, by simp at hk; omega⟩
    simp only [spec_OrderBack.l1, putGo]
    rw [if_neg (len_end pre)]
  | x :: suf, pre, b, k, hx, hl, hk => by
    obtain ⟨k, rfl⟩ : ∃ m, k = m + 1 := ⟨k - 1, by simp at hk; omega⟩
    have hp : (pre.length : Int) ≤ 1048576 := by simp at hl; omega
    have h0 := hx x List.mem_cons_self
    have ih := specBack_l1 suf (pre ++ [x]) (b.set x.toNat (pre.length : Int)) k (by simpa using fun y hy => hx y (List.mem_cons_of_mem _ hy)) (by simpa using hl) (by simp at hk; omega)
    rw [len_snoc, ← app_cons] at ih
    simp only [spec_OrderBack.l1, putGo]
    rw [if_pos (len_mid pre x suf), if_pos (by omega), rd_mid, if_pos h0.1, if_pos h0.2, w64_len (by omega) (by omega), ih]
theorem specBack_l0 (r : List Int) (B : Nat) : ∀ (suf pre b : List Int) (k : Nat), (pre ++ suf).length ≤ 1048576 → b.length = pre.length → (∀ k', B ≤ k' → ((spec_l4Order.f k' (pre ++ suf)).bind fun t => spec_OrderBack.l1 k' (b ++ List.replicate suf.length (-1)) t 0) = some r) → B + suf.length + 1 ≤ k →
    spec_OrderBack.l0 k (pre ++ suf) b (pre.length : Int) = some r
  | [], pre, b, k, hl, hb, hr, hk => by
    obtain ⟨k, rfl⟩ : ∃ m, k = m + 1 := ⟨k - 1, by simp at hk; omega⟩
    simp only [spec_OrderBack.l0]
    rw [if_neg (len_end pre)]
    have := hr k (by simp at hk; omega)
    simpa using this
  | x :: suf, pre, b, k, hl, hb, hr, hk => by
    obtain ⟨k, rfl⟩ : ∃ m, k = m + 1 := ⟨k - 1, by simp at hk; omega⟩
    have hp : (pre.length : Int) ≤ 1048576 := by simp at hl; omega
    have ih := specBack_l0 r B suf (pre ++ [x]) (b ++ [-1]) k (by simpa using hl) (by simp [hb]) (by simpa [List.replicate_succ] using hr) (by simp at hk; omega)
    rw [len_snoc, ← app_cons] at ih
    simp only [spec_OrderBack.l0]
    rw [if_pos (len_mid pre x suf), if_pos (by omega), w64_len (by omega) (by omega), ih]
def orderBack (l : List Int) : List Int := if okL l = true then backL l else []
theorem implOrderBack (l : List Int) (hl : l.length ≤ 1048576) (k : Nat) (hk : l.length + 200 ≤ k) : impl_OrderBack.f k l = some (orderBack l) := by
  unfold impl_OrderBack.f orderBack
  rw [implLevelsOk]
  simp only [Option.bind_some]
  by_cases h : okL l = true
  · have hlen := orderL_len h
    rw [if_pos h, if_pos h, if_pos (by omega), Int.toNat_natCast, if_pos (by omega), implFill _ _ (by simpa using hl) _ (by simp; omega), implOrder h]
    simp only [Option.bind_some, List.length_replicate]
    exact implBack_l0 (orderL l) [] _ k (by simpa using orderL_mem l) (by simp; omega) (by omega)
  · rw [if_neg h, if_neg h]
theorem specOrderBack (l : List Int) (hl : l.length ≤ 1048576) (k : Nat) (hk : l.length + 1000 ≤ k) : spec_OrderBack.f k l = some (orderBack l) := by
  unfold spec_OrderBack.f orderBack
  simp only [Option.bind_some]
  rw [specL4Ok l hl k (by omega)]
  simp only [Option.bind_some]
  by_cases h : okL l = true
  · have hlen := orderL_len h
    rw [if_pos h, if_pos h]
    refine specBack_l0 _ 800 l [] [] k (by simpa using hl) rfl (fun k' hk' => ?_) (by omega)
    rw [List.nil_append, specOrder h k' (by omega)]
    simp only [Option.bind_some, List.nil_append]
    exact specBack_l1 (orderL l) [] _ k' (by simpa using orderL_mem l) (by simp; omega) (by omega)
  · rw [if_neg h, if_neg h]
theorem orderBack_len (l : List Int) : (orderBack l).length ≤ 80 := by
  unfold orderBack
  split
  · rename_i h
    unfold backL
    rw [putGo_length]
    simpa using okL_len h
  · simp

theorem toIntS_l0 : ∀ (suf pre rest : List Int) (k : Nat), rest.length = suf.length → (pre ++ suf).length ≤ 1048576 → suf.length + 1 ≤ k → laws_toIntS.l0 k (pre ++ suf) (pre ++ rest) (pre.length : Int) = some (pre ++ suf)
  | [], pre, rest, k, hr, hl, hk => by
    obtain ⟨k, rfl⟩ : ∃ m, k = m + 1 := ⟨k - 1, by simp at hk; omega⟩
    obtain rfl : rest = [] := List.eq_nil_of_length_eq_zero (by simpa using hr)
    simp only [laws_toIntS.l0]
    rw [if_neg (len_end pre)]
  | x :: suf, pre, [], k, hr, hl, hk => by simp at hr
  | x :: suf, pre, y :: rest, k, hr, hl, hk => by
    obtain ⟨k, rfl⟩ : ∃ m, k = m + 1 := ⟨k - 1, by simp at hk; omega⟩
    simp only [laws_toIntS.l0]
    have hp : (pre.length : Int) ≤ 1048576 := by simp at hl; omega
    rw [if_pos (len_mid pre x suf), if_pos (by omega), if_pos (len_mid pre y rest), rd_mid, set_mid, w64_len (by omega) (by omega), ← len_snoc pre x, app_cons pre x suf, app_cons pre x rest]
    exact toIntS_l0 suf (pre ++ [x]) rest k (by simpa using hr) (by simpa using hl) (by simp at hk; omega)
theorem toIntS_ok (l : List Int) (hl : l.length ≤ 1048576) (k : Nat) (hk : l.length + 1 ≤ k) : laws_toIntS.f k l = some l := by
  unfold laws_toIntS.f
  rw [if_pos (by omega), if_pos (by omega), Int.toNat_natCast]
  exact toIntS_l0 l [] (List.replicate l.length 0) k (by simp) (by simpa using hl) hk

theorem eqIntS_l0 : ∀ (suf pre : List Int) (k : Nat), (pre ++ suf).length ≤ 4000000 → suf.length + 1 ≤ k → laws_eqIntS.l0 k (pre ++ suf) (pre ++ suf) (pre.length : Int) = some true
  | [], pre, k, hl, hk => by
    obtain ⟨k, rfl⟩ : ∃ m, k = m + 1 := ⟨k - 1, by simp at hk; omega⟩
    simp only [laws_eqIntS.l0]
    rw [if_neg (len_end pre)]
  | x :: suf, pre, k, hl, hk => by
    obtain ⟨k, rfl⟩ : ∃ m, k = m + 1 := ⟨k - 1, by simp at hk; omega⟩
    simp only [laws_eqIntS.l0]
    have hp : (pre.length : Int) ≤ 4000000 := by simp at hl; omega
    rw [if_pos (len_mid pre x suf), if_pos (by omega), if_pos (len_mid pre x suf), if_pos trivial, w64_len (by omega) (by omega), ← len_snoc pre x, app_cons pre x suf]
    exact eqIntS_l0 suf (pre ++ [x]) k (by simpa using hl) (by simp at hk; omega)
theorem eqIntS_ok (l : List Int) (hl : l.length ≤ 4000000) (k : Nat) (hk : l.length + 1 ≤ k) : laws_eqIntS.f k l l = some true := by
  unfold laws_eqIntS.f
  rw [if_pos rfl]
  exact eqIntS_l0 l [] k (by simpa using hl) hk

/-- the numbers from one on, so many -/
def marks : Int → Nat → List Int
  | _, 0 => []
  | a, n + 1 => a :: marks (a + 1) n
theorem marks_length : ∀ (n : Nat) (a : Int), (marks a n).length = n
  | 0, _ => rfl
  | n + 1, a => by simp [marks, marks_length n]
theorem markIntS_l0 : ∀ (suf pre : List Int) (a : Int) (k : Nat), 0 ≤ a → a + suf.length ≤ 4000000000 → (pre ++ suf).length ≤ 4000000 → suf.length + 1 ≤ k → laws_markIntS.l0 k (pre ++ suf) a (pre.length : Int) = some (a + suf.length, pre ++ marks a suf.length)
  | [], pre, a, k, h0, h1, hl, hk => by
    obtain ⟨k, rfl⟩ : ∃ m, k = m + 1 := ⟨k - 1, by simp at hk; omega⟩
    simp only [laws_markIntS.l0]
    rw [if_neg (len_end pre)]
    simp [marks]
  | x :: suf, pre, a, k, h0, h1, hl, hk => by
    obtain ⟨k, rfl⟩ : ∃ m, k = m + 1 := ⟨k - 1, by simp at hk; omega⟩
    have hp : (pre.length : Int) ≤ 4000000 := by simp at hl; omega
    simp only [List.length_cons] at h1
    simp only [laws_markIntS.l0]
    rw [if_pos (len_mid pre x suf), if_pos (by omega), set_mid, w64_len (by omega) (by omega), w64_len (by omega) (by omega), ← len_snoc pre a, app_cons pre a suf, markIntS_l0 suf (pre ++ [a]) (a + 1) k (by omega) (by omega) (by simpa using hl) (by simp at hk; omega)]
    simp only [List.length_cons, Option.some.injEq, Prod.mk.injEq, marks]
    exact ⟨by omega, by simp⟩
theorem markIntS_ok (l : List Int) (a : Int) (h0 : 0 ≤ a) (h1 : a ≤ 3000000000) (hl : l.length ≤ 4000000) (k : Nat) (hk : l.length + 1 ≤ k) : laws_markIntS.f k l a = some (a + l.length, marks a l.length) := by
  unfold laws_markIntS.f
  exact markIntS_l0 l [] a k h0 (by omega) (by simpa using hl) hk

theorem heldIntS_l0 : ∀ (n : Nat) (pre : List Int) (a : Int) (k : Nat), 0 ≤ a → a + n ≤ 4000000000 → pre.length + n ≤ 4000000 → n + 1 ≤ k → laws_heldIntS.l0 k (pre ++ marks a n) a (pre.length : Int) = some (a + n)
  | 0, pre, a, k, h0, h1, hl, hk => by
    obtain ⟨k, rfl⟩ : ∃ m, k = m + 1 := ⟨k - 1, by omega⟩
    show laws_heldIntS.l0 (k + 1) (pre ++ []) a (pre.length : Int) = some (a + (0 : Nat))
    simp only [laws_heldIntS.l0]
    rw [if_neg (len_end pre)]
    simp
  | n + 1, pre, a, k, h0, h1, hl, hk => by
    obtain ⟨k, rfl⟩ : ∃ m, k = m + 1 := ⟨k - 1, by omega⟩
    show laws_heldIntS.l0 (k + 1) (pre ++ a :: marks (a + 1) n) a (pre.length : Int) = some (a + (n + 1 : Nat))
    simp only [laws_heldIntS.l0]
    have e := heldIntS_l0 n (pre ++ [a]) (a + 1) k (by omega) (by omega) (by simp; omega) (by omega)
    rw [if_pos (len_mid pre a _), if_pos (by omega), rd_mid, if_pos rfl, w64_len (by omega) (by omega), w64_len (by omega) (by omega), ← len_snoc pre a, app_cons pre a _, e]
    congr 1
    omega
theorem heldIntS_ok (n : Nat) (a : Int) (h0 : 0 ≤ a) (h1 : a ≤ 3000000000) (hl : n ≤ 4000000) (k : Nat) (hk : n + 1 ≤ k) : laws_heldIntS.f k (marks a n) a = some (a + n) := by
  unfold laws_heldIntS.f
  exact heldIntS_l0 n [] a k h0 (by omega) (by simpa using hl) hk

theorem FnExactOrderBack : laws_FnExactOrderBack.Pure := by
  intro l _ _ hw
  unfold laws_FnExactOrderBack.f
  by_cases hb : l.length ≤ 1048576
  · refine ⟨l.length + 1000, ?_⟩
    rw [if_neg (by omega), toIntS_ok l hb _ (by omega)]
    have hol := orderBack_len l
    simp only [Option.bind_some]
    rw [specOrderBack l hb _ (by omega), implOrderBack _ hb _ (by omega)]
    simp only [Option.bind_some]
    rw [eqIntS_ok (orderBack l) (by omega) _ (by omega)]
    simp only [Option.bind_some, if_true]
    rw [eqIntS_ok l (by omega) _ (by omega), markIntS_ok l 1 (by omega) (by omega) (by omega) _ (by omega)]
    simp only [Option.bind_some, if_true]
    rw [if_neg (by omega), show l.length + 1000 = (l.length + 999) + 1 from rfl]
    simp only [laws_FnExactOrderBack.j0, Bool.not_true, Bool.false_eq_true, if_false]
    rw [markIntS_ok (orderBack l) 1 (by omega) (by omega) (by omega) _ (by omega)]
    simp only [Option.bind_some]
    rw [heldIntS_ok _ 1 (by omega) (by omega) (by omega) _ (by omega)]
    simp only [Option.bind_some, if_true]
    rw [if_neg (by omega), toIntS_ok l hb _ (by omega)]
    simp only [Option.bind_some]
    rw [implOrderBack _ hb _ (by omega)]
    simp only [Option.bind_some]
    rw [eqIntS_ok (orderBack l) (by omega) _ (by omega)]
    simp
    omega
  · refine ⟨0, ?_⟩
    rw [if_pos (by omega)]

end Go.Proofs.Ytpdkddhadgeheaa.Pure
