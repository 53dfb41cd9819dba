/- Of every drawn list of levels: OrderOf is the reference's, with every level one higher the order is the other way round, with every level two higher it is the same: the law FnOrderUp answers true; no condition. -/
import Derived.Test.YtpdkddhadgeheaaPFnOrderUpx5
namespace Go.Proofs.Ytpdkddhadgeheaa.Pure
open Go.RowKit Go.Proofs.Ytpdkddhadgeheaa.PFnOrderUp Go.Proofs.YtpdkddhadgeheaaW.PrintWords Go.Proofs.YtpdkddhadgeheaaW.PrintLast Go.Proofs.YtpdkddhadgeheaaW.PrintMore
set_option linter.unusedVariables false
set_option linter.unusedSimpArgs false

/-! small lemmas on whole numbers, lists and rounds -/
theorem w64 {x : Int} (h : -9223372036854775808 ≤ x) (h' : x ≤ 9223372036854775807) : wrap64 x = x := by
  unfold wrap64
  omega
theorem in_i64 {x : Int} (h : (Lit.int .i64 x).wf = true) : -9223372036854775808 ≤ x ∧ x ≤ 9223372036854775807 := by
  simpa [Lit.wf, IntKind.min, IntKind.max, IntKind.bits, IntKind.signed] using h
theorem in_u8 {x : Int} (h : (Lit.int .u8 x).wf = true) : 0 ≤ x ∧ x ≤ 255 := by
  simpa [Lit.wf, IntKind.min, IntKind.max, IntKind.bits, IntKind.signed] using h
theorem rd_nat (l : List Int) (i : Nat) : rd l (i : Int) = l.getD i 0 := by
  unfold rd
  rw [Int.toNat_natCast]

/-! lists, place by place: what lies ahead of a place, the place, what lies behind -/
theorem getD_mid {α : Type} (pre : List α) (x : α) (suf : List α) (d : α) : (pre ++ x :: suf).getD ((pre.length : Int)).toNat d = x := by
  rw [Int.toNat_natCast, List.getD_eq_getElem?_getD]
  simp
theorem set_mid {α : Type} (pre : List α) (x y : α) (suf : List α) : (pre ++ x :: suf).set ((pre.length : Int)).toNat y = pre ++ y :: suf := by
  rw [Int.toNat_natCast]
  simp
theorem rd_mid (pre : List Int) (x : Int) (suf : List Int) : rd (pre ++ x :: suf) (pre.length : Int) = x := getD_mid pre x suf 0
theorem len_mid {α : Type} (pre : List α) (x : α) (suf : List α) : (pre.length : Int) < ((pre ++ x :: suf).length : Int) := by
  simp only [List.length_append, List.length_cons]
  omega
theorem len_end {α : Type} (pre : List α) : ¬ (pre.length : Int) < ((pre ++ []).length : Int) := by simp
theorem len_snoc {α : Type} (pre : List α) (x : α) : ((pre ++ [x]).length : Int) = (pre.length : Int) + 1 := by simp
theorem app_cons {α : Type} (pre : List α) (x : α) (suf : List α) : pre ++ x :: suf = (pre ++ [x]) ++ suf := by simp
theorem w64_len {n : Int} (h0 : 0 ≤ n) (h : n ≤ 9000000000000000000) : wrap64 (n + 1) = n + 1 := w64 (by omega) (by omega)

theorem specIn (a b c : Int) : spec_l1In.f a b c = some (decide (b ≤ a ∧ a ≤ c)) := by
  unfold spec_l1In.f
  by_cases h1 : b ≤ a <;> by_cases h2 : a ≤ c <;> simp [h1, h2]

/-- a list of levels that may be ordered -/
def okL (l : List Int) : Bool := decide ((l.length : Int) ≤ 80) && l.all fun x => decide (-1 ≤ x ∧ x ≤ 22)
theorem implLevelsOk (l : List Int) : impl_levelsOk.f l = some (okL l) := by
  unfold impl_levelsOk.f okL
  congr 2
  induction l with
  | nil => rfl
  | cons x r ih =>
    simp only [List.any_cons, List.all_cons, Bool.not_or, ih]
    congr 1
    unfold noLv
    by_cases h1 : x < -1 <;> by_cases h2 : 22 < x <;> simp [h1, h2] <;> omega
theorem specL4Ok_l0 : ∀ (suf pre : List Int) (k : Nat), (pre ++ suf).length ≤ 1048576 → suf.length + 1 ≤ k →
    spec_l4Ok.l0 k (pre ++ suf) (pre.length : Int) = some (decide (((pre ++ suf).length : Int) ≤ 80) && suf.all fun x => decide (-1 ≤ x ∧ x ≤ 22))
  | [], pre, k, hl, hk => by
    obtain ⟨k, rfl⟩ : ∃ m, k = m + 1 := ⟨k - 1, by simp at hk; omega⟩
    simp only [spec_l4Ok.l0]
    rw [if_neg (len_end pre)]
    simp
  | x :: suf, pre, k, hl, hk => by
    obtain ⟨k, rfl⟩ : ∃ m, k = m + 1 := ⟨k - 1, by simp at hk; omega⟩
    have hp : (pre.length : Int) ≤ 1048576 := by simp at hl; omega
    have ih := specL4Ok_l0 suf (pre ++ [x]) k (by simpa using hl) (by simp at hk; omega)
    rw [len_snoc, ← app_cons] at ih
    simp only [spec_l4Ok.l0]
    rw [if_pos (len_mid pre x suf), if_pos (by omega), rd_mid, specIn, w64_len (by omega) (by omega), ih]
    simp only [Option.bind_some, List.all_cons]
    cases decide (-1 ≤ x ∧ x ≤ 22) <;> simp
theorem specL4Ok (l : List Int) (hl : l.length ≤ 1048576) (k : Nat) (hk : l.length + 1 ≤ k) : spec_l4Ok.f k l = some (okL l) := specL4Ok_l0 l [] k (by simpa using hl) hk
theorem okL_len {l : List Int} (h : okL l = true) : l.length ≤ 80 := by
  unfold okL at h
  simp only [Bool.and_eq_true, decide_eq_true_eq] at h
  omega
theorem okL_all {l : List Int} (h : okL l = true) : ∀ x ∈ l, -1 ≤ x ∧ x ≤ 22 := by
  unfold okL at h
  simp only [Bool.and_eq_true, List.all_eq_true, decide_eq_true_eq] at h
  exact h.2

theorem implOrder {l : List Int} (h : okL l = true) : impl_order.f l = some (orderL l) := by
  unfold impl_order.f
  rw [if_pos]
  refine ⟨by have := okL_len h; omega, ?_⟩
  rw [List.all_eq_true]
  intro x hx
  have := okL_all h x hx
  simp only [decide_eq_true_eq]
  omega
theorem turnGo_seg (p : Int → Bool) : ∀ (seg rest acc : List Int), (∀ x ∈ seg, p x = true) → turnGo p acc (seg ++ rest) = turnGo p (seg.reverse ++ acc) rest
  | [], rest, acc, _ => rfl
  | x :: seg, rest, acc, h => by
    simp only [List.cons_append, turnGo]
    rw [if_pos (h x List.mem_cons_self), turnGo_seg p seg rest (x :: acc) (fun y hy => h y (List.mem_cons_of_mem _ hy))]
    simp
theorem turnL_nil (p : Int → Bool) : turnL p [] = [] := rfl
theorem turnL_cons (p : Int → Bool) (x : Int) (r : List Int) (h : p x = false) : turnL p (x :: r) = x :: turnL p r := by
  unfold turnL
  simp [turnGo, h]
def Stops (p : Int → Bool) (r : List Int) : Prop := r = [] ∨ ∃ x s, r = x :: s ∧ p x = false
theorem turnL_seg (p : Int → Bool) (seg rest : List Int) (h : ∀ x ∈ seg, p x = true) (hr : Stops p rest) : turnL p (seg ++ rest) = seg.reverse ++ turnL p rest := by
  unfold turnL
  rw [turnGo_seg p seg rest [] h, List.append_nil]
  rcases hr with rfl | ⟨x, s, rfl, hx⟩
  · simp [turnGo]
  · simp [turnGo, hx]
theorem split_seg (p : Int → Bool) : ∀ l : List Int, ∃ seg rest, l = seg ++ rest ∧ (∀ x ∈ seg, p x = true) ∧ Stops p rest
  | [] => ⟨[], [], rfl, by simp, .inl rfl⟩
  | x :: l => by
    cases hp : p x with
    | false => exact ⟨[], x :: l, rfl, by simp, .inr ⟨x, l, rfl, hp⟩⟩
    | true =>
      obtain ⟨seg, rest, e, h1, h2⟩ := split_seg p l
      refine ⟨x :: seg, rest, by rw [e]; rfl, fun y hy => ?_, h2⟩
      rcases List.mem_cons.1 hy with rfl | hy
      · exact hp
      · exact h1 y hy
section
variable (x1 : List Int) (lv : Int)
abbrev pT : Int → Bool := fun at_ => decide (lv ≤ rd x1 at_)
theorem specTurn_l1 (s : Int) (out r : List Int) (B : Nat) : ∀ (seg pre rest : List Int), (∀ x ∈ seg, pT x1 lv x = true) → Stops (pT x1 lv) rest → (∀ x ∈ pre ++ (seg ++ rest), 0 ≤ x ∧ x < (x1.length : Int)) → (pre ++ (seg ++ rest)).length ≤ 1048576 →
    (∀ k', B ≤ k' → spec_l4Turn.j2 k' (pre ++ (seg ++ rest)) x1 lv out s ((pre ++ seg).length : Int) = some r) → ∀ k, B + seg.length + 1 ≤ k → spec_l4Turn.l1 k (pre ++ (seg ++ rest)) x1 lv out s (pre.length : Int) = some r
  | [], pre, rest, _, hs, hx, hl, hj, k, hk => by
    obtain ⟨k, rfl⟩ : ∃ m, k = m + 1 := ⟨k - 1, by simp at hk; omega⟩
    simp only [spec_l4Turn.l1]
    simp only [List.nil_append, List.append_nil] at hj hx hl ⊢
    rcases hs with rfl | ⟨x, q, rfl, hq⟩
    · rw [if_neg (len_end pre)]
      exact hj k (by simp at hk; omega)
    · have h0 := hx x (by simp)
      simp only [pT, decide_eq_false_iff_not] at hq
      rw [if_pos (len_mid pre x q), if_pos (by omega), rd_mid, if_pos h0.1, if_pos h0.2, if_neg (by omega)]
      exact hj k (by simp at hk; omega)
  | x :: seg, pre, rest, hp, hs, hx, hl, hj, k, hk => by
    obtain ⟨k, rfl⟩ : ∃ m, k = m + 1 := ⟨k - 1, by simp at hk; omega⟩
    have hpl : (pre.length : Int) ≤ 1048576 := by simp at hl; omega
    have e : pre ++ (x :: seg ++ rest) = (pre ++ [x]) ++ (seg ++ rest) := by simp
    have e2 : pre ++ x :: seg = (pre ++ [x]) ++ seg := by simp
    have h0 := hx x (by simp)
    have h1 := hp x List.mem_cons_self
    simp only [pT, decide_eq_true_eq] at h1
    have ih := specTurn_l1 s out r B seg (pre ++ [x]) rest (fun y hy => hp y (List.mem_cons_of_mem _ hy)) hs (by rw [← e]; exact hx) (by rw [← e]; exact hl) (by rw [← e, ← e2]; exact hj) k (by simp at hk; omega)
    rw [← e, len_snoc] at ih
    simp only [spec_l4Turn.l1]
    rw [List.cons_append, if_pos (len_mid pre x _), if_pos (by omega), rd_mid, if_pos h0.1, if_pos h0.2, if_pos (by omega), w64_len (by omega) (by omega)]
    exact ih
theorem specTurn_l2 (r : List Int) (B : Nat) (e : Int) : ∀ (ys pre rest out : List Int), (pre ++ (ys.reverse ++ rest)).length ≤ 1048576 → out.length + ys.length ≤ 1048576 →
    (∀ k', B ≤ k' → spec_l4Turn.l2 k' (pre ++ (ys.reverse ++ rest)) x1 lv (out ++ ys) (pre.length : Int) e ((pre.length : Int) - 1) = some r) → ∀ k, B + ys.length ≤ k → spec_l4Turn.l2 k (pre ++ (ys.reverse ++ rest)) x1 lv out (pre.length : Int) e ((pre.length : Int) + ys.length - 1) = some r
  | [], pre, rest, out, hl, ho, hj, k, hk => by
    have := hj k (by simpa using hk)
    simpa using this
  | y :: ys, pre, rest, out, hl, ho, hj, k, hk => by
    obtain ⟨k, rfl⟩ : ∃ m, k = m + 1 := ⟨k - 1, by simp at hk; omega⟩
    have hpl : (pre.length : Int) + ys.length + 1 ≤ 1048576 := by simp at hl; omega
    have ee : pre ++ ((y :: ys).reverse ++ rest) = pre ++ (ys.reverse ++ (y :: rest)) := by simp
    rw [ee] at hl hj ⊢
    have ih := specTurn_l2 r B e ys pre (y :: rest) (out ++ [y]) hl (by simp at ho ⊢; omega) (by simpa using hj) k (by simp at hk; omega)
    have e1 : (pre.length : Int) + ((y :: ys).length : Int) - 1 = ((pre ++ ys.reverse).length : Int) := by simp; omega
    have e2 : pre ++ (ys.reverse ++ y :: rest) = (pre ++ ys.reverse) ++ y :: rest := by simp
    simp only [spec_l4Turn.l2]
    rw [e1, if_pos (by simp; omega), if_pos (by omega), if_pos (by rw [e2]; exact len_mid _ y rest), if_pos (by simp at ho; omega)]
    have e3 : rd (pre ++ (ys.reverse ++ y :: rest)) ((pre ++ ys.reverse).length : Int) = y := by rw [e2]; exact rd_mid _ y rest
    rw [e3, w64 (by simp; omega) (by simp; omega)]
    have e4 : ((pre ++ ys.reverse).length : Int) - 1 = (pre.length : Int) + ys.length - 1 := by simp
    rw [e4]
    exact ih
theorem specTurn_l0 : ∀ (n : Nat) (suf pre out : List Int), suf.length ≤ n → (∀ x ∈ pre ++ suf, 0 ≤ x ∧ x < (x1.length : Int)) → (pre ++ suf).length ≤ 1048576 → out.length = pre.length → ∀ k, 6 * suf.length + 1 ≤ k →
    spec_l4Turn.l0 k (pre ++ suf) x1 lv out (pre.length : Int) = some (out ++ turnL (pT x1 lv) suf)
  | 0, suf, pre, out, hn, hx, hl, ho, k, hk => by
    obtain rfl : suf = [] := List.eq_nil_of_length_eq_zero (by omega)
    obtain ⟨k, rfl⟩ : ∃ m, k = m + 1 := ⟨k - 1, by simp at hk; omega⟩
    simp only [spec_l4Turn.l0]
    rw [if_neg (len_end pre), turnL_nil]
    simp
  | n + 1, suf, pre, out, hn, hx, hl, ho, k, hk => by
    obtain ⟨k, rfl⟩ : ∃ m, k = m + 1 := ⟨k - 1, by omega⟩
    cases suf with
    | nil =>
      simp only [spec_l4Turn.l0]
      rw [if_neg (len_end pre), turnL_nil]
      simp
    | cons x s0 =>
      obtain ⟨seg, rest, e, h1, h2⟩ := split_seg (pT x1 lv) (x :: s0)
      simp only [spec_l4Turn.l0]
      rw [if_pos (len_mid pre x s0)]
      rw [e] at hx hl hn hk ⊢
      have hpl : (pre.length : Int) ≤ 1048576 := by simp at hl; omega
      have hpl2 : pre.length + (seg.length + rest.length) ≤ 1048576 := by simpa using hl
      cases seg with
      | nil =>
        rcases h2 with rfl | ⟨y, q, rfl, hq⟩
        · simp at e
        refine specTurn_l1 x1 lv (pre.length : Int) out _ (6 * q.length + 3) [] pre (y :: q) h1 (.inr ⟨y, q, rfl, hq⟩) hx hl ?_ k (by simp at hk ⊢; omega)
        intro k1 hk1
        obtain ⟨k1, rfl⟩ : ∃ m, k1 = m + 2 := ⟨k1 - 2, by omega⟩
        simp only [spec_l4Turn.j2, spec_l4Turn.l2, List.append_nil, List.nil_append]
        have hpl3 : pre.length + (q.length + 1) ≤ 1048576 := by simpa using hl
        rw [w64 (by omega) (by omega), if_neg (by omega), if_pos trivial, if_pos (by omega), if_pos (len_mid pre y q), if_pos (by omega), rd_mid, w64_len (by omega) (by omega), ← len_snoc pre y, app_cons pre y q]
        have ih := specTurn_l0 n q (pre ++ [y]) (out ++ [y]) (by simp at hn; omega) (by simpa using hx) (by simpa using hl) (by simp [ho]) k1 (by omega)
        rw [ih, turnL_cons _ _ _ hq]
        simp
      | cons z seg =>
        refine specTurn_l1 x1 lv (pre.length : Int) out _ (seg.length + 1 + 6 * rest.length + 3) (z :: seg) pre rest h1 h2 hx hl ?_ k (by simp at hk ⊢; omega)
        intro k1 hk1
        obtain ⟨k1, rfl⟩ : ∃ m, k1 = m + 1 := ⟨k1 - 1, by omega⟩
        simp only [spec_l4Turn.j2]
        have e5 : z :: seg = (z :: seg).reverse.reverse := by simp
        have e6 : ((pre ++ z :: seg).length : Int) = (pre.length : Int) + ((z :: seg).reverse.length : Int) := by simp
        have e7 : wrap64 (((pre ++ z :: seg).length : Int) - 1) = (pre.length : Int) + ((z :: seg).reverse.length : Int) - 1 := by
          rw [e6, w64 (by simp; omega) (by simp at hpl2 ⊢; omega)]
        rw [e7]
        have hl2 := specTurn_l2 x1 lv (out ++ turnL (pT x1 lv) (z :: seg ++ rest)) (6 * rest.length + 2) ((pre ++ z :: seg).length : Int) (z :: seg).reverse pre rest out
        rw [List.reverse_reverse] at hl2
        refine hl2 hl (by simp at hpl2 ⊢; omega) ?_ k1 (by simp; omega)
        intro k2 hk2
        obtain ⟨k2, rfl⟩ : ∃ m, k2 = m + 1 := ⟨k2 - 1, by omega⟩
        simp only [spec_l4Turn.l2]
        rw [if_neg (by omega), if_neg (by simp; omega)]
        have e8 : pre ++ (z :: seg ++ rest) = (pre ++ z :: seg) ++ rest := by simp
        have ih := specTurn_l0 n rest (pre ++ z :: seg) (out ++ (z :: seg).reverse) (by simp at hn; omega) (by rw [← e8]; exact hx) (by rw [← e8]; exact hl) (by simp [ho]) k2 (by omega)
        rw [e8, ih, turnL_seg _ (z :: seg) rest h1 h2]
        simp
end
theorem specTurn (x1 xs : List Int) (lv : Int) (hx : ∀ x ∈ xs, 0 ≤ x ∧ x < (x1.length : Int)) (hl : xs.length ≤ 1048576) (k : Nat) (hk : 6 * xs.length + 1 ≤ k) : spec_l4Turn.f k xs x1 lv = some (turnL (fun at_ => decide (lv ≤ rd x1 at_)) xs) := by
  unfold spec_l4Turn.f
  exact specTurn_l0 x1 lv xs.length xs [] [] (Nat.le_refl _) (by simpa using hx) (by simpa using hl) rfl k hk
theorem turnL_len (p : Int → Bool) (xs : List Int) : (turnL p xs).length = xs.length := by
  unfold turnL
  rw [turnL_length]
  simp
theorem specOrder_l1 (l : List Int) : ∀ (n : Nat) (xs : List Int) (k : Nat), n ≤ 1000 → (∀ x ∈ xs, 0 ≤ x ∧ x < (l.length : Int)) → xs.length ≤ 1048576 → n + 6 * xs.length + 2 ≤ k → spec_l4Order.l1 k l xs (n : Int) = some (orderGo l n xs)
  | 0, xs, k, hn, hx, hl, hk => by
    obtain ⟨k, rfl⟩ : ∃ m, k = m + 1 := ⟨k - 1, by omega⟩
    simp [spec_l4Order.l1, orderGo]
  | n + 1, xs, k, hn, hx, hl, hk => by
    obtain ⟨k, rfl⟩ : ∃ m, k = m + 1 := ⟨k - 1, by omega⟩
    simp only [spec_l4Order.l1, orderGo]
    rw [if_pos (by omega), specTurn l xs _ hx hl k (by omega)]
    simp only [Option.bind_some]
    have e : wrap64 (((n + 1 : Nat) : Int) - 1) = (n : Int) := by rw [w64 (by omega) (by omega)]; omega
    rw [e, specOrder_l1 l n _ k (by omega) (fun x h => hx x (turnL_mem _ xs x h)) (by rw [turnL_len]; exact hl) (by rw [turnL_len]; omega)]
    rfl
theorem specOrder_l0 : ∀ (suf pre out : List Int) (m : Int) (k : Nat), 0 ≤ m → m ≤ 22 → (∀ x ∈ suf, -1 ≤ x ∧ x ≤ 22) → (∀ x ∈ out, 0 ≤ x ∧ x < (pre.length : Int)) → (pre ++ suf).length ≤ 80 → out.length ≤ pre.length → suf.length + 600 ≤ k →
    spec_l4Order.l0 k (pre ++ suf) out m (pre.length : Int) = some (orderGo (pre ++ suf) (most m suf).toNat (out ++ vis suf (pre.length : Int)))
  | [], pre, out, m, k, h0, h1, hs, ho, hl, hol, hk => by
    obtain ⟨k, rfl⟩ : ∃ j, k = j + 1 := ⟨k - 1, by simp at hk; omega⟩
    simp only [spec_l4Order.l0, most, vis]
    rw [if_neg (len_end pre)]
    have e : m = (m.toNat : Int) := by omega
    have hl' : pre.length ≤ 80 := by simpa using hl
    have := specOrder_l1 (pre ++ []) m.toNat out k (by omega) (by simpa using ho) (by omega) (by simp at hk; omega)
    rw [← e] at this
    rw [this]
    simp
  | x :: suf, pre, out, m, k, h0, h1, hs, ho, hl, hol, hk => by
    obtain ⟨k, rfl⟩ : ∃ j, k = j + 1 := ⟨k - 1, by simp at hk; omega⟩
    have hp : (pre.length : Int) ≤ 80 := by simp at hl; omega
    have hx := hs x List.mem_cons_self
    simp only [spec_l4Order.l0, most, vis]
    rw [if_pos (len_mid pre x suf), if_pos (by omega), rd_mid, w64_len (by omega) (by omega)]
    have hw : ∀ (q : List Int), (∀ y ∈ q, 0 ≤ y ∧ y < (pre.length : Int)) → ∀ y ∈ q, 0 ≤ y ∧ y < ((pre ++ [x]).length : Int) := by
      intro q hq y hy
      have := hq y hy
      simp
      omega
    have hne : ∀ y ∈ out ++ [(pre.length : Int)], 0 ≤ y ∧ y < ((pre ++ [x]).length : Int) := by
      intro y hy
      rcases List.mem_append.1 hy with hy | hy
      · exact hw out ho y hy
      · simp at hy
        subst hy
        constructor <;> simp <;> omega
    have ihA := fun m' h0' h1' => specOrder_l0 suf (pre ++ [x]) (out ++ [(pre.length : Int)]) m' k h0' h1' (fun y hy => hs y (List.mem_cons_of_mem _ hy)) hne (by simpa using hl) (by simp; omega) (by simp at hk; omega)
    have ihB := fun m' h0' h1' => specOrder_l0 suf (pre ++ [x]) out m' k h0' h1' (fun y hy => hs y (List.mem_cons_of_mem _ hy)) (hw out ho) (by simpa using hl) (by simp; omega) (by simp at hk; omega)
    simp only [len_snoc, ← app_cons] at ihA ihB
    by_cases hz : x = -1
    · subst hz
      rw [if_neg (by omega), if_neg (by omega), ihB m h0 h1]
      simp
    · rw [if_pos (by omega), if_pos (by omega), if_neg hz, if_neg hz]
      simp only [Option.bind_some]
      by_cases hm : m < x
      · rw [if_pos (by omega), if_pos hm, ihA x (by omega) hx.2]
        try simp
      · rw [if_neg (by omega), if_neg hm, ihA m h0 h1]
        try simp
theorem specOrder {l : List Int} (h : okL l = true) (k : Nat) (hk : 700 ≤ k) : spec_l4Order.f k l = some (orderL l) := by
  unfold spec_l4Order.f orderL
  have := okL_len h
  exact specOrder_l0 l [] [] 0 k (by omega) (by omega) (okL_all h) (by simp) (by simpa using this) (Nat.le_refl _) (by omega)
theorem vis_len : ∀ (l : List Int) (i : Int), (vis l i).length ≤ l.length
  | [], _ => Nat.le_refl _
  | x :: xs, i => by
    unfold vis
    have := vis_len xs (i + 1)
    split <;> simp <;> omega
theorem orderGo_len (l : List Int) : ∀ (n : Nat) (xs : List Int), (orderGo l n xs).length = xs.length
  | 0, xs => rfl
  | n + 1, xs => by
    simp only [orderGo]
    rw [orderGo_len l n, turnL_len]
theorem orderL_len {l : List Int} (h : okL l = true) : (orderL l).length ≤ 80 := by
  unfold orderL
  rw [orderGo_len]
  have := vis_len l 0
  have := okL_len h
  omega

def putGo : List Int → Int → List Int → List Int
  | b, _, [] => b
  | b, i, x :: xs => putGo (b.set x.toNat i) (i + 1) xs
def backL (l : List Int) : List Int := putGo (List.replicate l.length (-1)) 0 (orderL l)
theorem putGo_length : ∀ (xs b : List Int) (i : Int), (putGo b i xs).length = b.length
  | [], b, i => rfl
  | x :: xs, b, i => by
    simp only [putGo]
    rw [putGo_length xs]
    simp
theorem orderGo_mem (l : List Int) : ∀ (n : Nat) (xs : List Int), ∀ x ∈ orderGo l n xs, x ∈ xs
  | 0, xs, x, h => h
  | n + 1, xs, x, h => turnL_mem _ xs x (orderGo_mem l n _ x h)
theorem orderL_mem (l : List Int) : ∀ x ∈ orderL l, 0 ≤ x ∧ x < (l.length : Int) := by
  intro x h
  have := vis_mem l 0 x (orderGo_mem l _ _ x h)
  omega

theorem turnGo_perm (p : Int → Bool) : ∀ (xs acc : List Int), (turnGo p acc xs).Perm (acc ++ xs)
  | [], acc => by simp [turnGo]
  | x :: xs, acc => by
    unfold turnGo
    split
    · exact (turnGo_perm p xs (x :: acc)).trans (List.perm_middle).symm
    · exact List.Perm.append_left acc (List.Perm.cons x (by simpa using turnGo_perm p xs []))
theorem turnL_perm (p : Int → Bool) (xs : List Int) : (turnL p xs).Perm xs := turnGo_perm p xs []
theorem orderGo_perm (l : List Int) : ∀ (n : Nat) (xs : List Int), (orderGo l n xs).Perm xs
  | 0, xs => List.Perm.refl _
  | n + 1, xs => (orderGo_perm l n _).trans (turnL_perm _ xs)
theorem orderL_perm (l : List Int) : (orderL l).Perm (vis l 0) := orderGo_perm l _ _
theorem vis_has : ∀ (l : List Int) (i : Int) (x : Nat), x < l.length → l.getD x 0 ≠ -1 → i + x ∈ vis l i
  | [], _, x, h, _ => by simp at h
  | y :: l, i, 0, h, hn => by
    have : ¬ y = -1 := by simpa using hn
    unfold vis
    rw [if_neg this]
    simp
  | y :: l, i, x + 1, h, hn => by
    have ih := vis_has l (i + 1) x (by simpa using h) (by simpa using hn)
    have e : i + ((x + 1 : Nat) : Int) = i + 1 + x := by omega
    rw [e]
    unfold vis
    split
    · exact ih
    · exact List.mem_cons_of_mem _ ih
theorem vis_hasnt : ∀ (l : List Int) (i : Int) (x : Nat), x < l.length → l.getD x 0 = -1 → i + x ∉ vis l i
  | [], _, x, h, _ => by simp at h
  | y :: l, i, 0, h, hn => by
    have : y = -1 := by simpa using hn
    unfold vis
    rw [if_pos this]
    intro hm
    have := vis_mem l (i + 1) _ hm
    omega
  | y :: l, i, x + 1, h, hn => by
    have ih := vis_hasnt l (i + 1) x (by simpa using h) (by simpa using hn)
    have e : i + ((x + 1 : Nat) : Int) = i + 1 + x := by omega
    rw [e]
    unfold vis
    split
    · exact ih
    · intro hm
      rcases List.mem_cons.1 hm with h' | h'
      · omega
      · exact ih h'
theorem putGo_out : ∀ (xs b : List Int) (i : Int) (x : Nat), (∀ y ∈ xs, 0 ≤ y) → (x : Int) ∉ xs → (putGo b i xs).getD x 0 = b.getD x 0
  | [], b, i, x, _, _ => rfl
  | y :: xs, b, i, x, h0, hx => by
    simp only [putGo]
    rw [putGo_out xs _ (i + 1) x (fun z hz => h0 z (List.mem_cons_of_mem _ hz)) (fun h => hx (List.mem_cons_of_mem _ h))]
    have hy := h0 y List.mem_cons_self
    have : y.toNat ≠ x := by
      intro e
      exact hx (by rw [show (x : Int) = y by omega]; exact List.mem_cons_self)
    simp only [List.getD_eq_getElem?_getD]
    rw [List.getElem?_set_ne this]
theorem putGo_in : ∀ (xs b : List Int) (i : Int) (x : Nat), (∀ y ∈ xs, 0 ≤ y) → x < b.length → (x : Int) ∈ xs → ∃ j : Nat, j < xs.length ∧ xs.getD j 0 = x ∧ (putGo b i xs).getD x 0 = i + j
  | [], b, i, x, _, _, hx => by simp at hx
  | y :: xs, b, i, x, h0, hb, hx => by
    by_cases hm : (x : Int) ∈ xs
    · obtain ⟨j, h1, h2, h3⟩ := putGo_in xs (b.set y.toNat i) (i + 1) x (fun z hz => h0 z (List.mem_cons_of_mem _ hz)) (by simpa using hb) hm
      exact ⟨j + 1, by simpa using h1, by simpa using h2, by simp only [putGo]; rw [h3]; omega⟩
    · have e : (x : Int) = y := by
        rcases List.mem_cons.1 hx with h | h
        · exact h
        · exact absurd h hm
      refine ⟨0, by simp, by simp [e], ?_⟩
      simp only [putGo]
      rw [putGo_out xs _ (i + 1) x (fun z hz => h0 z (List.mem_cons_of_mem _ hz)) hm]
      have : y.toNat = x := by omega
      rw [this]
      simp [List.getD_eq_getElem?_getD, hb]
theorem orderL_pos (l : List Int) : ∀ y ∈ orderL l, 0 ≤ y := fun y hy => (orderL_mem l y hy).1
theorem back_out (l : List Int) (x : Nat) (hx : x < l.length) (h : l.getD x 0 = -1) : (backL l).getD x 0 = -1 := by
  unfold backL
  rw [putGo_out (orderL l) _ 0 x (orderL_pos l) (fun hm => by
    have := vis_hasnt l 0 x hx h
    rw [Int.zero_add] at this
    exact this ((orderL_perm l).mem_iff.1 hm))]
  simp [List.getD_eq_getElem?_getD, hx]
theorem back_in (l : List Int) (x : Nat) (hx : x < l.length) (h : l.getD x 0 ≠ -1) : ∃ j : Nat, j < (orderL l).length ∧ (orderL l).getD j 0 = x ∧ (backL l).getD x 0 = j := by
  have hm : (x : Int) ∈ orderL l := by
    have := vis_has l 0 x hx h
    rw [Int.zero_add] at this
    exact (orderL_perm l).mem_iff.2 this
  obtain ⟨j, h1, h2, h3⟩ := putGo_in (orderL l) (List.replicate l.length (-1)) 0 x (orderL_pos l) (by simpa using hx) hm
  exact ⟨j, h1, h2, by unfold backL; rw [h3]; omega⟩
theorem orderL_count (l : List Int) : (orderL l).length = (vis l 0).length := (orderL_perm l).length_eq
theorem vis_shift : ∀ (l : List Int) (i j : Int), (vis l i).length = (vis l j).length
  | [], _, _ => rfl
  | x :: l, i, j => by
    unfold vis
    split
    · exact vis_shift l _ _
    · simp only [List.length_cons]
      rw [vis_shift l (i + 1) (j + 1)]

def orderOf (l : List Int) : List Int := if okL l = true then orderL l else []
theorem implOrderOf (l : List Int) : impl_OrderOf.f l = some (orderOf l) := by
  unfold impl_OrderOf.f orderOf
  rw [implLevelsOk]
  simp only [Option.bind_some]
  by_cases h : okL l = true
  · rw [if_pos h, if_pos h, implOrder h]
    rfl
  · rw [if_neg h, if_neg h]
theorem specOrderOf (l : List Int) (hl : l.length ≤ 1048576) (k : Nat) (hk : l.length + 700 ≤ k) : spec_OrderOf.f k l = some (orderOf l) := by
  unfold spec_OrderOf.f orderOf
  rw [specL4Ok l hl k (by omega)]
  simp only [Option.bind_some]
  by_cases h : okL l = true
  · rw [if_pos h, if_pos h, specOrder h k (by omega)]
    rfl
  · rw [if_neg h, if_neg h]
theorem orderOf_len (l : List Int) : (orderOf l).length ≤ 80 := by
  unfold orderOf
  split
  · rename_i h
    exact orderL_len h
  · simp

theorem wcInts_l0 : ∀ (suf pre : List Int) (k : Nat), (pre ++ suf).length ≤ 4000000 → suf.length + 1 ≤ k → laws_wcInts.l0 k (pre ++ suf) (pre ++ suf) (pre.length : Int) = some true
  | [], pre, k, hl, hk => by
    obtain ⟨k, rfl⟩ : ∃ m, k = m + 1 := ⟨k - 1, by simp at hk; omega⟩
    simp only [laws_wcInts.l0]
    rw [if_neg (len_end pre)]
  | x :: suf, pre, k, hl, hk => by
    obtain ⟨k, rfl⟩ : ∃ m, k = m + 1 := ⟨k - 1, by simp at hk; omega⟩
    simp only [laws_wcInts.l0]
    have hp : (pre.length : Int) ≤ 4000000 := by simp at hl; omega
    rw [if_pos (len_mid pre x suf), if_pos (by omega), if_pos (len_mid pre x suf), if_pos trivial, w64_len (by omega) (by omega), ← len_snoc pre x, app_cons pre x suf]
    exact wcInts_l0 suf (pre ++ [x]) k (by simpa using hl) (by simp at hk; omega)
theorem wcInts_ok (l : List Int) (hl : l.length ≤ 4000000) (k : Nat) (hk : l.length + 1 ≤ k) : laws_wcInts.f k l l = some true := by
  unfold laws_wcInts.f
  rw [if_pos rfl]
  exact wcInts_l0 l [] k (by simpa using hl) hk

/-! what is drawn: a reader of bytes -/
theorem xor_i64 (a b : Nat) (ha : a < 2 ^ 40) (hb : b < 2 ^ 40) : bits .xor .i64 (a : Int) (b : Int) = ((a ^^^ b : Nat) : Int) := by
  have hp : (2 : Nat) ^ 40 ≤ 2 ^ IntKind.i64.bits := by decide
  have ha' : a % 2 ^ IntKind.i64.bits = a := Nat.mod_eq_of_lt (Nat.lt_of_lt_of_le ha hp)
  have hb' : b % 2 ^ IntKind.i64.bits = b := Nat.mod_eq_of_lt (Nat.lt_of_lt_of_le hb hp)
  simp only [bits, BitVec.ofInt_natCast, BitVec.toNat_xor, BitVec.toNat_ofNat, ha', hb']
  have h := Nat.xor_lt_two_pow ha hb
  rw [IntKind.wrap_i64]
  omega
theorem xor_pos {x y : Int} (hx : 0 ≤ x) (hx' : x < 1099511627776) (hy : 0 ≤ y) (hy' : y < 1099511627776) : 0 ≤ bits .xor .i64 x y ∧ bits .xor .i64 x y < 1099511627776 := by
  obtain ⟨a, rfl⟩ := Int.eq_ofNat_of_zero_le hx
  obtain ⟨b, rfl⟩ := Int.eq_ofNat_of_zero_le hy
  have ha : a < 2 ^ 40 := by omega
  have hb : b < 2 ^ 40 := by omega
  rw [xor_i64 a b ha hb]
  have h := Nat.xor_lt_two_pow ha hb
  omega
theorem tmod_in {x n : Int} (hx : 0 ≤ x) (hn : 0 < n) : 0 ≤ Int.tmod x n ∧ Int.tmod x n < n := by
  rw [Int.tmod_eq_emod_of_nonneg hx]
  exact ⟨Int.emod_nonneg _ (by omega), Int.emod_lt_of_pos _ hn⟩
theorem tdiv_in {x n : Int} (hx : 0 ≤ x) (hn : 0 < n) : 0 ≤ Int.tdiv x n ∧ Int.tdiv x n ≤ x := by
  rw [Int.tdiv_eq_ediv_of_nonneg hx]
  exact ⟨Int.ediv_nonneg hx (by omega), Int.ediv_le_self _ hx⟩
/-- bytes -/
def Bytes (b : List Int) : Prop := b.length ≤ 2000 ∧ ∀ x ∈ b, 0 ≤ x ∧ x ≤ 255
theorem rd_byte {b : List Int} (hb : Bytes b) {i : Int} (h : i < b.length) (h0 : 0 ≤ i) : 0 ≤ rd b i ∧ rd b i ≤ 255 := by
  unfold rd
  have hi : i.toNat < b.length := by omega
  rw [List.getD_eq_getElem?_getD, List.getElem?_eq_getElem hi]
  exact hb.2 _ (List.getElem_mem hi)
theorem pick_ok {b : List Int} (hb : Bytes b) (p n : Int) (hp : 0 ≤ p) (hp' : p ≤ 1000000) (k : Nat) (hk : 1 ≤ k) :
    ∃ v, spec_l1Rd_pick.f k b p n = some (v, p + 1) ∧ 0 ≤ v ∧ (1 ≤ n → v < n) ∧ (n < 1 → v = 0) := by
  obtain ⟨k, rfl⟩ : ∃ m, k = m + 1 := ⟨k - 1, by omega⟩
  have hl := hb.1
  have e1 : wrap64 (p + 1) = p + 1 := w64 (by omega) (by omega)
  have e2 : wrap64 (p + 1 - 1) = p := by rw [w64 (by omega) (by omega)]; omega
  unfold spec_l1Rd_pick.f
  by_cases hn : n < 1
  · rw [if_pos hn, e1]
    simp only [spec_l1Rd_pick.j0, if_true]
    exact ⟨0, rfl, by omega, by omega, fun _ => rfl⟩
  · rw [if_neg hn, e1]
    by_cases h0 : b.length = 0
    · have e0 : ((b.length : Int) == 0) = true := by simp [h0]
      simp only [spec_l1Rd_pick.j0, e0, if_true]
      exact ⟨0, rfl, by omega, by omega, fun _ => rfl⟩
    · have e0 : ((b.length : Int) == 0) = false := by simp; intro h; exact h0 (by rw [h]; rfl)
      have hlen : (0 : Int) < b.length := by omega
      simp only [spec_l1Rd_pick.j0, e0, e2, Bool.false_eq_true, if_false]
      have hn0 : ¬ n = 0 := by omega
      by_cases hlt : p < (b.length : Int)
      · rw [if_pos hlt, if_pos hp, if_neg hn0]
        obtain ⟨r0, r1⟩ := rd_byte hb hlt hp
        rw [w64 (by omega) (by omega)]
        have h := tmod_in r0 (show 0 < n by omega)
        exact ⟨_, rfl, h.1, fun _ => h.2, fun h' => absurd h' hn⟩
      · have m1 := tmod_in hp hlen
        have e7 : wrap64 (wrap64 (p * 7) + 3) = p * 7 + 3 := by rw [w64 (x := p * 7) (by omega) (by omega), w64 (by omega) (by omega)]
        have m2 := tmod_in (show 0 ≤ p * 7 + 3 by omega) hlen
        have r1 := rd_byte hb m1.2 m1.1
        have r2 := rd_byte hb m2.2 m2.1
        have d1 := tdiv_in hp hlen
        rw [if_neg hlt, if_neg (by omega), if_pos m1.1, if_pos m1.2, e7, if_pos m2.1, if_pos m2.2, if_neg hn0]
        generalize rd b (Int.tmod p (b.length : Int)) = x1 at *
        generalize rd b (Int.tmod (p * 7 + 3) (b.length : Int)) = x2 at *
        generalize Int.tdiv p (b.length : Int) = x3 at *
        have eX : wrap64 (wrap64 (wrap64 (wrap64 (wrap64 x1 * 131) + wrap64 (wrap64 x2 * 1117)) + wrap64 (p * 29)) + wrap64 (wrap64 x3 * 53)) = x1 * 131 + x2 * 1117 + p * 29 + x3 * 53 := by
          rw [w64 (x := x1) (by omega) (by omega), w64 (x := x2) (by omega) (by omega), w64 (x := x3) (by omega) (by omega), w64 (x := x1 * 131) (by omega) (by omega), w64 (x := x2 * 1117) (by omega) (by omega), w64 (x := p * 29) (by omega) (by omega), w64 (x := x3 * 53) (by omega) (by omega), w64 (x := x1 * 131 + x2 * 1117) (by omega) (by omega), w64 (x := x1 * 131 + x2 * 1117 + p * 29) (by omega) (by omega), w64 (by omega) (by omega)]
        rw [eX]
        have hX0 : 0 ≤ x1 * 131 + x2 * 1117 + p * 29 + x3 * 53 := by omega
        have hX1 : x1 * 131 + x2 * 1117 + p * 29 + x3 * 53 < 1000000000 := by omega
        generalize x1 * 131 + x2 * 1117 + p * 29 + x3 * 53 = X at *
        have d2 := tdiv_in hX0 (show (0 : Int) < 64 by omega)
        rw [w64 (x := Int.tdiv X 64) (by omega) (by omega)]
        have hx := xor_pos hX0 (by omega) d2.1 (by omega)
        have h := tmod_in hx.1 (show 0 < n by omega)
        exact ⟨_, rfl, h.1, fun _ => h.2, fun h' => absurd h' hn⟩
theorem open_ok {l : List Int} (h : ∀ x ∈ l, (Lit.int .u8 x).wf = true) : ∃ b, spec_l1Open.f l = some (b, 0) ∧ Bytes b := by
  unfold spec_l1Open.f
  by_cases h1 : (l.length : Int) > 2000
  · rw [if_pos h1, if_pos (by omega)]
    exact ⟨_, rfl, by rw [List.length_take]; omega, fun x hx => in_u8 (h x (List.mem_of_mem_take hx))⟩
  · rw [if_neg h1]
    exact ⟨_, rfl, by omega, fun x hx => in_u8 (h x hx)⟩

theorem one_ok {b : List Int} (hb : Bytes b) (p : Int) (hp : 0 ≤ p) (hp' : p ≤ 1000000) (l : List Int) (hl : 1 ≤ l.length) (k : Nat) (hk : 1 ≤ k) :
    ∃ v, spec_l1Rd_one.f k b p l = some (v, p + 1) ∧ v ∈ l := by
  obtain ⟨v, e, h0, h1, _⟩ := pick_ok hb p (l.length : Int) hp hp' k hk
  unfold spec_l1Rd_one.f
  rw [e]
  simp only [Option.bind_some]
  have h2 := h1 (by omega)
  rw [if_pos h0, if_pos h2]
  refine ⟨_, rfl, ?_⟩
  unfold rd
  have hi : v.toNat < l.length := by omega
  rw [List.getD_eq_getElem?_getD, List.getElem?_eq_getElem hi]
  exact List.getElem_mem hi

def LvR (v : Int) : Prop := -2 ≤ v ∧ v ≤ 23
theorem levels_l0 {b : List Int} (hb : Bytes b) : ∀ (n : Nat) (out : List Int) (p : Int) (k : Nat), n ≤ 100 → 0 ≤ p → p + 5 * n ≤ 900000 → out.length + n ≤ 1000 → (∀ x ∈ out, LvR x) → n + 2 ≤ k →
    ∃ v q, spec_l13Levels.l0 k out (n : Int) b p = some (v, q) ∧ v.length ≤ out.length + n + 1 ∧ (∀ x ∈ v, LvR x) ∧ p ≤ q ∧ q ≤ p + 5 * n + 2
  | 0, out, p, k, hn, hp, hp', ho, hx, hk => by
    obtain ⟨k, rfl⟩ : ∃ m, k = m + 1 := ⟨k - 1, by omega⟩
    simp only [spec_l13Levels.l0]
    rw [if_neg (by omega)]
    obtain ⟨v, e, h0, h1, _⟩ := pick_ok hb p 16 hp (by omega) k (by omega)
    rw [e]
    simp only [Option.bind_some]
    by_cases hv : v = 0
    · rw [if_pos hv]
      obtain ⟨u, e1, h3⟩ := one_ok hb (p + 1) (by omega) (by omega) [-2, 23] (by simp) k (by omega)
      rw [e1]
      simp only [Option.bind_some]
      rw [if_pos (by omega)]
      refine ⟨_, _, rfl, by simp, ?_, by omega, by omega⟩
      intro x hx'
      rcases List.mem_append.1 hx' with h | h
      · exact hx x h
      · simp at h
        subst h
        simp at h3
        unfold LvR
        omega
    · rw [if_neg hv]
      exact ⟨_, _, rfl, by omega, hx, by omega, by omega⟩
  | n + 1, out, p, k, hn, hp, hp', ho, hx, hk => by
    obtain ⟨k, rfl⟩ : ∃ m, k = m + 1 := ⟨k - 1, by omega⟩
    simp only [spec_l13Levels.l0]
    rw [if_pos (by omega)]
    obtain ⟨v1, e1, a1, b1, _⟩ := pick_ok hb p 4 hp (by omega) k (by omega)
    have c1 := b1 (by omega)
    rw [e1]
    simp only [Option.bind_some]
    obtain ⟨v2, e2, a2, b2, _⟩ := pick_ok hb (p + 1) 3 (by omega) (by omega) k (by omega)
    have c2 := b2 (by omega)
    rw [e2]
    simp only [Option.bind_some]
    obtain ⟨v3, e3, a3, b3, _⟩ := pick_ok hb (p + 1 + 1) 23 (by omega) (by omega) k (by omega)
    have c3 := b3 (by omega)
    rw [e3]
    simp only [Option.bind_some]
    obtain ⟨v4, e4, a4, b4, _⟩ := pick_ok hb (p + 1 + 1 + 1) 10 (by omega) (by omega) k (by omega)
    have c4 := b4 (by omega)
    rw [e4]
    simp only [Option.bind_some]
    have hq : 0 ≤ Int.tdiv (v4 * 4) 10 ∧ Int.tdiv (v4 * 4) 10 < 4 := by
      rw [Int.tdiv_eq_ediv_of_nonneg (by omega)]
      omega
    have e5 : wrap64 (Int.tdiv (wrap64 (v4 * 4)) 10) = Int.tdiv (v4 * 4) 10 := by
      rw [w64 (x := v4 * 4) (by omega) (by omega), w64 (by omega) (by omega)]
    rw [e5, if_pos hq.1, if_pos (by simpa using hq.2), if_pos (by omega)]
    have e6 : wrap64 (((n + 1 : Nat) : Int) - 1) = (n : Int) := by rw [w64 (by omega) (by omega)]; omega
    rw [e6]
    have hm : LvR (rd [v1, v2, -1, v3] (Int.tdiv (v4 * 4) 10)) := by
      have : Int.tdiv (v4 * 4) 10 = 0 ∨ Int.tdiv (v4 * 4) 10 = 1 ∨ Int.tdiv (v4 * 4) 10 = 2 ∨ Int.tdiv (v4 * 4) 10 = 3 := by omega
      rcases this with h | h | h | h <;> rw [h] <;> simp only [rd] <;> unfold LvR <;> simp <;> omega
    obtain ⟨v, q, e7, h1, h2, h3, h4⟩ := levels_l0 hb n (out ++ [rd [v1, v2, -1, v3] (Int.tdiv (v4 * 4) 10)]) (p + 1 + 1 + 1 + 1) k (by omega) (by omega) (by omega) (by simp; omega) (by
      intro x hx'
      rcases List.mem_append.1 hx' with h | h
      · exact hx x h
      · simp at h
        subst h
        exact hm) (by omega)
    exact ⟨v, q, e7, by simp at h1; omega, h2, by omega, by omega⟩
theorem levels_ok {b : List Int} (hb : Bytes b) (p : Int) (hp : 0 ≤ p) (hp' : p ≤ 800000) (k : Nat) (hk : 20 ≤ k) :
    ∃ v q, spec_l13Levels.f k b p = some (v, q) ∧ v.length ≤ 15 ∧ (∀ x ∈ v, LvR x) ∧ p ≤ q ∧ q ≤ p + 100 := by
  obtain ⟨n, e, h0, h1, _⟩ := pick_ok hb p 14 hp (by omega) k (by omega)
  have h2 := h1 (by omega)
  unfold spec_l13Levels.f
  rw [e]
  simp only [Option.bind_some]
  obtain ⟨m, rfl⟩ : ∃ m : Nat, n = m := ⟨n.toNat, by omega⟩
  obtain ⟨v, q, e7, h1, h2, h3, h4⟩ := levels_l0 hb m [] (p + 1) k (by omega) (by omega) (by omega) (by simp; omega) (by simp) (by omega)
  exact ⟨v, q, e7, by simp at h1; omega, h2, by omega, by omega⟩

theorem drawUp {l : List Int} (h : ∀ x ∈ l, (Lit.int .u8 x).wf = true) (k : Nat) (hk : 20 ≤ k) : ∃ v, spec_DrawOrderOf.f k l = some v ∧ v.length ≤ 15 ∧ ∀ x ∈ v, LvR x := by
  obtain ⟨b, e, hb⟩ := open_ok h
  unfold spec_DrawOrderOf.f
  rw [e]
  simp only [Option.bind_some]
  obtain ⟨v, q, e1, h1, h2, _⟩ := levels_ok hb 0 (by omega) (by omega) k hk
  rw [e1]
  exact ⟨v, rfl, h1, h2⟩
def up (d : Int) (l : List Int) : List Int := l.map fun x => if x ≥ 0 then x + d else x
theorem up_len (d : Int) (l : List Int) : (up d l).length = l.length := by simp [up]
theorem okL_up (d : Int) (hd : 0 ≤ d ∧ d ≤ 2) (l : List Int) (h : ∀ x ∈ l, x ≤ 20) : okL (up d l) = okL l := by
  unfold okL
  rw [up_len]
  congr 1
  induction l with
  | nil => rfl
  | cons x l ih =>
    have hx := h x List.mem_cons_self
    have e : up d (x :: l) = (if x ≥ 0 then x + d else x) :: up d l := rfl
    rw [e]
    simp only [List.all_cons]
    rw [ih (fun y hy => h y (List.mem_cons_of_mem _ hy))]
    congr 1
    split
    · rw [decide_eq_decide]; omega
    · rfl
theorem vis_up (d : Int) (hd : 0 ≤ d) : ∀ (l : List Int) (i : Int), vis (up d l) i = vis l i
  | [], _ => rfl
  | x :: l, i => by
    have e : up d (x :: l) = (if x ≥ 0 then x + d else x) :: up d l := rfl
    rw [e]
    simp only [vis]
    rw [vis_up d hd l (i + 1)]
    by_cases h : x = -1
    · subst h
      simp
    · rw [if_neg h, if_neg (by split <;> omega)]
theorem most_up1 : ∀ (l : List Int) (m : Int), 0 ≤ m → (∀ x ∈ l, -1 ≤ x) → most (m + 1) (up 1 l) = most m l + 1
  | [], m, _, _ => rfl
  | x :: l, m, hm, hx => by
    have e : up 1 (x :: l) = (if x ≥ 0 then x + 1 else x) :: up 1 l := rfl
    have h0 := hx x List.mem_cons_self
    rw [e]
    simp only [most]
    have ih := fun m' h' => most_up1 l m' h' (fun y hy => hx y (List.mem_cons_of_mem _ hy))
    by_cases h : x = -1
    · subst h
      simpa using ih m hm
    · rw [if_pos (show x ≥ 0 by omega), if_neg (by omega), if_neg h]
      by_cases h2 : m < x
      · rw [if_pos h2, if_pos (by omega), ih x (by omega)]
      · rw [if_neg h2, if_neg (by omega), ih m hm]
theorem most_up : ∀ (l : List Int) (i : Int), (∀ x ∈ l, -1 ≤ x) → vis l i ≠ [] → most 0 (up 1 l) = most 0 l + 1
  | [], _, _, h => absurd rfl h
  | x :: l, i, hx, hv => by
    have e : up 1 (x :: l) = (if x ≥ 0 then x + 1 else x) :: up 1 l := rfl
    have h0 := hx x List.mem_cons_self
    rw [e]
    simp only [most]
    by_cases h : x = -1
    · subst h
      have ih := most_up l (i + 1) (fun y hy => hx y (List.mem_cons_of_mem _ hy)) (by simpa [vis] using hv)
      simpa using ih
    · rw [if_pos (show x ≥ 0 by omega), if_neg (by omega), if_neg h, if_pos (by omega)]
      have := most_up1 l x (by omega) (fun y hy => hx y (List.mem_cons_of_mem _ hy))
      rw [this]
      by_cases h2 : 0 < x
      · rw [if_pos h2]
      · rw [if_neg h2, show x = 0 by omega]
theorem turnGo_congr (p q : Int → Bool) : ∀ (xs acc : List Int), (∀ x ∈ xs, p x = q x) → turnGo p acc xs = turnGo q acc xs
  | [], acc, _ => rfl
  | x :: xs, acc, h => by
    simp only [turnGo]
    rw [h x List.mem_cons_self, turnGo_congr p q xs _ (fun y hy => h y (List.mem_cons_of_mem _ hy)), turnGo_congr p q xs _ (fun y hy => h y (List.mem_cons_of_mem _ hy))]
theorem turnL_all (p : Int → Bool) (xs : List Int) (h : ∀ x ∈ xs, p x = true) : turnL p xs = xs.reverse := by
  have := turnL_seg p xs [] h (.inl rfl)
  simpa [turnL_nil] using this
theorem orderGo_up (l : List Int) : ∀ (n : Nat) (xs : List Int), (∀ x ∈ xs, rd l x ≥ 0 ∧ rd (up 1 l) x = rd l x + 1) → orderGo (up 1 l) (n + 1) xs = (orderGo l n xs).reverse
  | 0, xs, h => by
    simp only [orderGo]
    rw [turnL_all _ _ (fun x hx => by have := h x hx; simp only [decide_eq_true_eq]; omega)]
  | n + 1, xs, h => by
    have e : turnL (fun at_ => decide ((((n + 1 : Nat) : Int) + 1) ≤ rd (up 1 l) at_)) xs = turnL (fun at_ => decide (((n : Int) + 1) ≤ rd l at_)) xs :=
      turnGo_congr _ _ xs [] (fun x hx => by have := h x hx; rw [decide_eq_decide]; omega)
    rw [orderGo, e, orderGo_up l n _ (fun x hx => h x (turnL_mem _ xs x hx))]
    rfl
theorem rd_up (l : List Int) (x : Int) (h0 : 0 ≤ x) (h1 : x < (l.length : Int)) (h2 : rd l x ≥ 0) : rd (up 1 l) x = rd l x + 1 := by
  obtain ⟨n, rfl⟩ : ∃ n : Nat, x = n := ⟨x.toNat, by omega⟩
  rw [rd_nat] at h2 ⊢
  rw [rd_nat]
  have hn : n < l.length := by omega
  unfold up
  rw [List.getD_eq_getElem?_getD, List.getElem?_eq_getElem hn] at h2
  simp only [Option.getD_some] at h2
  rw [List.getD_eq_getElem?_getD, List.getD_eq_getElem?_getD, List.getElem?_map, List.getElem?_eq_getElem hn]
  simp only [Option.map_some, Option.getD_some]
  rw [if_pos h2]
theorem vis_lv (l : List Int) (hx : ∀ x ∈ l, -1 ≤ x) : ∀ y ∈ vis l 0, rd l y ≥ 0 := by
  intro y hy
  have hm := vis_mem l 0 y hy
  obtain ⟨n, rfl⟩ : ∃ n : Nat, y = n := ⟨y.toNat, by omega⟩
  have hn : n < l.length := by omega
  rw [rd_nat]
  have h1 : l.getD n 0 ∈ l := by
    rw [List.getD_eq_getElem?_getD, List.getElem?_eq_getElem hn]
    exact List.getElem_mem _
  have h2 := hx _ h1
  by_cases h3 : l.getD n 0 = -1
  · exfalso
    have := vis_hasnt l 0 n hn h3
    rw [Int.zero_add] at this
    exact this hy
  · omega
theorem orderL_up (l : List Int) (hx : ∀ x ∈ l, -1 ≤ x) : orderL (up 1 l) = (orderL l).reverse := by
  by_cases hv : vis l 0 = []
  · have h1 : ∀ q : List Int, vis q 0 = [] → orderL q = [] := fun q h => List.eq_nil_of_length_eq_zero (by rw [orderL_count, h]; rfl)
    rw [h1 l hv, h1 _ (by rw [vis_up 1 (by omega), hv])]
    rfl
  · unfold orderL
    rw [vis_up 1 (by omega), most_up l 0 hx hv]
    have := most_le l 0
    rw [show (most 0 l + 1).toNat = (most 0 l).toNat + 1 by omega]
    refine orderGo_up l _ _ (fun x hm => ?_)
    have h1 := vis_lv l hx x hm
    have h2 := vis_mem l 0 x hm
    exact ⟨h1, rd_up l x h2.1 (by omega) h1⟩
theorem up_up (l : List Int) : up 2 l = up 1 (up 1 l) := by
  unfold up
  rw [List.map_map]
  refine List.map_congr_left (fun x _ => ?_)
  simp only [Function.comp]
  by_cases h : x ≥ 0
  · rw [if_pos h, if_pos h, if_pos (by omega)]
    omega
  · rw [if_neg h, if_neg h, if_neg h]
theorem orderOf_up1 (l : List Int) (h : ∀ x ∈ l, x ≤ 20) : orderOf (up 1 l) = (orderOf l).reverse := by
  unfold orderOf
  rw [okL_up 1 (by omega) l h]
  split
  · rename_i hok
    exact orderL_up l (fun x hx => (okL_all hok x hx).1)
  · rfl
theorem orderOf_up2 (l : List Int) (h : ∀ x ∈ l, x ≤ 20) : orderOf (up 2 l) = orderOf l := by
  unfold orderOf
  rw [okL_up 2 (by omega) l h]
  split
  · rename_i hok
    rw [up_up, orderL_up (up 1 l), orderL_up l (fun x hx => (okL_all hok x hx).1), List.reverse_reverse]
    intro x hx
    unfold up at hx
    obtain ⟨y, hy, rfl⟩ := List.mem_map.1 hx
    have := (okL_all hok y hy).1
    split <;> omega
  · rfl
theorem up_l1 (a x5 : List Int) (ha : a.length ≤ 80) (h5 : orderOf x5 = a) : ∀ (n i k : Nat), i + n = a.length → n + 100 ≤ k → laws_FnOrderUp.l1 k a x5 a.reverse (i : Int) = some true
  | 0, i, k, hi, hk => by
    obtain ⟨k, rfl⟩ : ∃ m, k = m + 1 := ⟨k - 1, by omega⟩
    simp only [laws_FnOrderUp.l1]
    rw [if_neg (by omega), implOrderOf, h5]
    simp only [Option.bind_some]
    rw [wcInts_ok _ (by omega) _ (by omega)]
    rfl
  | n + 1, i, k, hi, hk => by
    obtain ⟨k, rfl⟩ : ∃ m, k = m + 1 := ⟨k - 1, by omega⟩
    have ih := up_l1 a x5 ha h5 n (i + 1) k (by omega) (by omega)
    have ec : (((i + 1 : Nat)) : Int) = (i : Int) + 1 := by omega
    rw [ec] at ih
    simp only [laws_FnOrderUp.l1, List.length_reverse]
    have e0 : wrap64 (wrap64 ((a.length : Int) - 1) - (i : Int)) = ((a.length - 1 - i : Nat) : Int) := by
      rw [w64 (x := (a.length : Int) - 1) (by omega) (by omega), w64 (by omega) (by omega)]
      omega
    have e1 : rd a.reverse ((a.length - 1 - i : Nat) : Int) = rd a (i : Int) := by
      rw [rd_nat, rd_nat, List.getD_eq_getElem?_getD, List.getD_eq_getElem?_getD, List.getElem?_reverse (by omega)]
      congr 2
      omega
    rw [if_pos (by omega), e0, if_pos (by omega), if_pos (by omega), if_pos (by omega), e1, if_pos rfl, w64_len (by omega) (by omega)]
    exact ih
theorem up_l0 : ∀ (suf pre : List Int) (k : Nat), (∀ x ∈ pre, x ≤ 20) → (∀ x ∈ suf, LvR x) → (pre ++ suf).length ≤ 80 → suf.length + 300 ≤ k → laws_FnOrderUp.l0 k (pre ++ suf) (orderOf (pre ++ suf)) (up 2 pre) (up 1 pre) (pre.length : Int) = some true
  | [], pre, k, hp, hs, hl, hk => by
    obtain ⟨k, rfl⟩ : ∃ m, k = m + 1 := ⟨k - 1, by simp at hk; omega⟩
    simp only [laws_FnOrderUp.l0]
    rw [if_neg (len_end pre), implOrderOf]
    simp only [Option.bind_some, List.append_nil]
    rw [orderOf_up1 pre hp]
    have hol := orderOf_len pre
    exact up_l1 (orderOf pre) (up 2 pre) hol (orderOf_up2 pre hp) (orderOf pre).length 0 k (by omega) (by simp at hk; omega)
  | x :: suf, pre, k, hp, hs, hl, hk => by
    obtain ⟨k, rfl⟩ : ∃ m, k = m + 1 := ⟨k - 1, by simp at hk; omega⟩
    have hpl : (pre.length : Int) + 1 ≤ 80 := by simp at hl; omega
    have hx := hs x List.mem_cons_self
    unfold LvR at hx
    simp only [laws_FnOrderUp.l0]
    rw [if_pos (len_mid pre x suf), if_pos (by omega), rd_mid]
    by_cases h20 : x > 20
    · rw [if_pos h20]
    rw [if_neg h20]
    have ih := up_l0 suf (pre ++ [x]) k (fun y hy => by
      rcases List.mem_append.1 hy with h | h
      · exact hp y h
      · simp at h
        omega) (fun y hy => hs y (List.mem_cons_of_mem _ hy)) (by simpa using hl) (by simp at hk; omega)
    rw [len_snoc, ← app_cons] at ih
    have e1 : ∀ d, up d (pre ++ [x]) = up d pre ++ [if x ≥ 0 then x + d else x] := fun d => by simp [up]
    rw [e1, e1] at ih
    have hu2 : (up 2 pre).length < 17592186044416 := by rw [up_len]; omega
    have hu1 : (up 1 pre).length < 17592186044416 := by rw [up_len]; omega
    by_cases h : x ≥ 0
    · simp only [if_pos h] at ih
      rw [if_pos h, if_pos hu2, if_pos hu1, w64_len (n := (pre.length : Int)) (by omega) (by omega), w64 (x := x + 2) (by omega) (by omega), w64 (x := x + 1) (by omega) (by omega)]
      exact ih
    · simp only [if_neg h] at ih
      rw [if_neg h, if_pos hu2, if_pos hu1, w64_len (n := (pre.length : Int)) (by omega) (by omega)]
      exact ih
theorem FnOrderUp : laws_FnOrderUp.Pure := by
  intro l _ _ hl
  refine ⟨2000, ?_⟩
  unfold laws_FnOrderUp.f
  by_cases h0 : (l.length : Int) > 1048576
  · rw [if_pos h0]
  rw [if_neg h0]
  obtain ⟨v, e, hv, hr⟩ := drawUp hl 2000 (by omega)
  have hol := orderOf_len v
  rw [e]
  simp only [Option.bind_some]
  rw [implOrderOf, specOrderOf v (by omega) _ (by omega)]
  simp only [Option.bind_some]
  rw [wcInts_ok _ (by omega) _ (by omega)]
  simp only [Option.bind_some, if_true]
  exact up_l0 v [] 2000 (by simp) hr (by simp; omega) (by omega)

end Go.Proofs.Ytpdkddhadgeheaa.Pure
