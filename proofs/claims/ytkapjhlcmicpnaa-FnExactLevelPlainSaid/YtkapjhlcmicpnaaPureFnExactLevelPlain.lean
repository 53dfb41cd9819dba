/- The program's LevelPlain answers as the reference's, for all classes (at most 2^20 of them: longer lists the law itself lets by), sides and levels, writes into no argument, and its answer is its own: the law FnExactLevelPlain answers true; no condition. -/
import Derived.Test.YtkapjhlcmicpnaaPFnExactLevelPlainx5
namespace Go.Proofs.Ytkapjhlcmicpnaa.Pure
open Go.RowKit Go.Proofs.Ytkapjhlcmicpnaa.PFnExactLevelPlain Go.Proofs.YtkapjhlcmicpnaaW.PrintWords Go.Proofs.YtkapjhlcmicpnaaW.PrintLast Go.Proofs.YtkapjhlcmicpnaaW.PrintMore
set_option linter.unusedVariables false
set_option linter.unusedSimpArgs false

/-! small lemmas on whole numbers, lists and rounds -/
theorem w64 {x : Int} (h : -9223372036854775808 ≤ x) (h' : x ≤ 9223372036854775807) : wrap64 x = x := by
  unfold wrap64
  omega
theorem in_i64 {x : Int} (h : (Lit.int .i64 x).wf = true) : -9223372036854775808 ≤ x ∧ x ≤ 9223372036854775807 := by
  simpa [Lit.wf, IntKind.min, IntKind.max, IntKind.bits, IntKind.signed] using h
theorem in_u8 {x : Int} (h : (Lit.int .u8 x).wf = true) : 0 ≤ x ∧ x ≤ 255 := by
  simpa [Lit.wf, IntKind.min, IntKind.max, IntKind.bits, IntKind.signed] using h
theorem rd_nat (l : List Int) (i : Nat) : rd l (i : Int) = l.getD i 0 := by
  unfold rd
  rw [Int.toNat_natCast]

/-! lists, place by place: what lies ahead of a place, the place, what lies behind -/
theorem getD_mid {α : Type} (pre : List α) (x : α) (suf : List α) (d : α) : (pre ++ x :: suf).getD ((pre.length : Int)).toNat d = x := by
  rw [Int.toNat_natCast, List.getD_eq_getElem?_getD]
  simp
theorem set_mid {α : Type} (pre : List α) (x y : α) (suf : List α) : (pre ++ x :: suf).set ((pre.length : Int)).toNat y = pre ++ y :: suf := by
  rw [Int.toNat_natCast]
  simp
theorem rd_mid (pre : List Int) (x : Int) (suf : List Int) : rd (pre ++ x :: suf) (pre.length : Int) = x := getD_mid pre x suf 0
theorem len_mid {α : Type} (pre : List α) (x : α) (suf : List α) : (pre.length : Int) < ((pre ++ x :: suf).length : Int) := by
  simp only [List.length_append, List.length_cons]
  omega
theorem len_end {α : Type} (pre : List α) : ¬ (pre.length : Int) < ((pre ++ []).length : Int) := by simp
theorem len_snoc {α : Type} (pre : List α) (x : α) : ((pre ++ [x]).length : Int) = (pre.length : Int) + 1 := by simp
theorem app_cons {α : Type} (pre : List α) (x : α) (suf : List α) : pre ++ x :: suf = (pre ++ [x]) ++ suf := by simp
theorem w64_len {n : Int} (h0 : 0 ≤ n) (h : n ≤ 9000000000000000000) : wrap64 (n + 1) = n + 1 := w64 (by omega) (by omega)

theorem specIn (a b c : Int) : spec_l1In.f a b c = some (decide (b ≤ a ∧ a ≤ c)) := by
  unfold spec_l1In.f
  by_cases h1 : b ≤ a <;> by_cases h2 : a ≤ c <;> simp [h1, h2]

theorem specNo (x : Int) : spec_l3No.f x = some (plainL x) := by
  unfold spec_l3No.f plainL
  rw [specIn]
  simp only [Option.bind_some, decide_eq_true_eq]
  by_cases h : 11 ≤ x ∧ x ≤ 13
  · rw [if_pos h, decide_eq_true (show x = 11 ∨ x = 12 ∨ x = 13 ∨ 19 ≤ x by omega)]
  · rw [if_neg h]
    by_cases h2 : 19 ≤ x
    · rw [decide_eq_true (show x ≥ 19 from h2), decide_eq_true (show x = 11 ∨ x = 12 ∨ x = 13 ∨ 19 ≤ x by omega)]
    · rw [decide_eq_false (show ¬ x ≥ 19 from h2), decide_eq_false (show ¬ (x = 11 ∨ x = 12 ∨ x = 13 ∨ 19 ≤ x) by omega)]
def asL (x : Int) : Int := if x = 4 ∨ x = 7 then 2 else x
theorem specAs (x : Int) : spec_l3As.f x = some (asL x) := by
  unfold spec_l3As.f asL
  by_cases h1 : x = 4
  · simp [h1]
  by_cases h2 : x = 7
  · simp [h2]
  simp [h1, h2]
theorem specOwn (x : Int) (h0 : 0 ≤ x) : spec_l3Own.f x = some (ownL x) := by
  unfold spec_l3Own.f ownL
  rw [Int.tmod_eq_emod_of_nonneg h0]
  by_cases h : x % 2 = 0
  · rw [if_neg (by omega), if_pos h]
  · rw [if_pos (by omega), if_neg h]
theorem specSide (x : Int) : spec_l3Side.f x = some (isSd x) := by
  unfold spec_l3Side.f isSd
  by_cases h1 : x = 1
  · simp [h1]
  · by_cases h2 : x = 2 <;> simp [h1, h2]
theorem lean_as (x : Int) : leanL x = if asL x = 1 ∨ asL x = 2 then asL x else 0 := by
  unfold leanL asL
  by_cases h1 : x = 1
  · simp [h1]
  by_cases h2 : x = 2
  · simp [h2]
  by_cases h3 : x = 4
  · simp [h3]
  by_cases h4 : x = 7
  · simp [h4]
  simp [h1, h2, h3, h4]
theorem side_eq (b a lv ah bh : Int) (hb : b = 1 ∨ b = 2) (ha : a = 1 ∨ a = 2) :
    (if (if ah = 0 then b else asL ah) = (if bh = 0 then a else asL bh) ∧ ((if ah = 0 then b else asL ah) = 1 ∨ (if ah = 0 then b else asL ah) = 2) then (if ah = 0 then b else asL ah) else ownL lv) = sideBy b a lv ah bh := by
  have key : ∀ A B : Int, (if A = B ∧ (A = 1 ∨ A = 2) then A else ownL lv) = if (if A = 1 ∨ A = 2 then A else 0) = (if B = 1 ∨ B = 2 then B else 0) ∧ (if A = 1 ∨ A = 2 then A else 0) ≠ 0 then (if A = 1 ∨ A = 2 then A else 0) else ownL lv := by
    intro A B
    by_cases h1 : A = 1 ∨ A = 2
    · by_cases h2 : B = 1 ∨ B = 2
      · simp only [if_pos h1, if_pos h2]
        by_cases h3 : A = B
        · rw [if_pos ⟨h3, h1⟩, if_pos ⟨h3, by omega⟩]
        · rw [if_neg (fun g => h3 g.1), if_neg (fun g => h3 g.1)]
      · simp only [if_pos h1, if_neg h2]
        rw [if_neg (fun g => h2 (by rw [← g.1]; exact h1)), if_neg (fun g => by omega)]
    · simp only [if_neg h1]
      rw [if_neg (fun g => h1 g.2), if_neg (fun g => g.2 rfl)]
  unfold sideBy
  rw [key]
  have e1 : (if ah = 0 then b else leanL ah) = (if (if ah = 0 then b else asL ah) = 1 ∨ (if ah = 0 then b else asL ah) = 2 then (if ah = 0 then b else asL ah) else 0) := by
    by_cases h : ah = 0
    · simp only [if_pos h]; rw [if_pos hb]
    · simp only [if_neg h]; exact lean_as ah
  have e2 : (if bh = 0 then a else leanL bh) = (if (if bh = 0 then a else asL bh) = 1 ∨ (if bh = 0 then a else asL bh) = 2 then (if bh = 0 then a else asL bh) else 0) := by
    by_cases h : bh = 0
    · simp only [if_pos h]; rw [if_pos ha]
    · simp only [if_neg h]; exact lean_as bh
  rw [e1, e2]
theorem specRun_l1 (b a lv : Int) (rest' : List Int) (hs : rest' = [] ∨ ∃ y r, rest' = y :: r ∧ plainL y = false) (i : Int) : ∀ (run pre : List Int) (k : Nat), (∀ x ∈ run, plainL x = true) → (pre ++ (run ++ rest')).length ≤ 1048576 →
    spec_l3Plain.l1 (k + run.length + 1) b a lv (pre ++ (run ++ rest')) i (pre.length : Int) = spec_l3Plain.j2 k b a lv (pre ++ (run ++ rest')) i ((pre.length + run.length : Nat) : Int)
  | [], pre, k, hr, hl => by
    simp only [spec_l3Plain.l1, List.length_nil, Nat.add_zero, List.nil_append]
    rcases hs with rfl | ⟨y, r, rfl, hy⟩
    · rw [if_neg (len_end pre)]
    · rw [if_pos (len_mid pre y r), if_pos (by omega), rd_mid, specNo]
      simp only [Option.bind_some]
      rw [if_neg (by rw [hy]; simp)]
  | x :: run, pre, k, hr, hl => by
    have hp : (pre.length : Int) ≤ 1048576 := by simp at hl; omega
    have ih := specRun_l1 b a lv rest' hs i run (pre ++ [x]) k (fun y hy => hr y (List.mem_cons_of_mem _ hy)) (by simpa using hl)
    rw [len_snoc, ← app_cons] at ih
    simp only [List.length_cons, List.cons_append]
    rw [show k + (run.length + 1) + 1 = (k + run.length + 1) + 1 from rfl]
    generalize k + run.length + 1 = K at ih ⊢
    simp only [spec_l3Plain.l1]
    rw [if_pos (len_mid pre x _), if_pos (by omega), rd_mid, specNo]
    simp only [Option.bind_some]
    rw [if_pos (hr x List.mem_cons_self), w64_len (by omega) (by omega), ih]
    congr 1
    simp
    omega
theorem specFill_l2 (b a lv v : Int) (rest' : List Int) : ∀ (run pre : List Int) (k : Nat), (pre ++ (run ++ rest')).length ≤ 1048576 →
    spec_l3Plain.l2 (k + run.length + 1) b a lv (pre ++ (run ++ rest')) ((pre.length + run.length : Nat) : Int) v (pre.length : Int) = spec_l3Plain.l0 k b a lv (pre ++ (List.replicate run.length v ++ rest')) ((pre.length + run.length : Nat) : Int)
  | [], pre, k, hl => by
    simp only [spec_l3Plain.l2, List.length_nil, Nat.add_zero]
    rw [if_neg (by omega)]
    rfl
  | x :: run, pre, k, hl => by
    have hp : (pre.length : Int) ≤ 1048576 := by simp at hl; omega
    have ih := specFill_l2 b a lv v rest' run (pre ++ [v]) k (by simpa using hl)
    rw [len_snoc] at ih
    simp only [List.length_cons, List.cons_append]
    rw [show k + (run.length + 1) + 1 = (k + run.length + 1) + 1 from rfl]
    generalize k + run.length + 1 = K at ih ⊢
    simp only [spec_l3Plain.l2]
    rw [if_pos (by omega), if_pos (by omega), if_pos (len_mid pre x _), set_mid, w64_len (by omega) (by omega)]
    have e1 : (pre ++ [v]).length + run.length = pre.length + (run.length + 1) := by simp; omega
    rw [e1, ← app_cons] at ih
    rw [ih, List.replicate_succ, List.cons_append, List.append_assoc]
    rfl
theorem lastL_ne : ∀ (don : List Int), don ≠ [] → (∀ x ∈ don, x ≠ 0) → lastL don ≠ 0
  | [], h, _ => absurd rfl h
  | x :: don, _, h => by
    have e : lastL (x :: don) = (x :: don).getLast (by simp) := by
      unfold lastL
      rw [List.getLast?_eq_some_getLast (by simp)]
      rfl
    rw [e]
    exact h _ (List.getLast_mem _)
theorem side_12 (b a lv ah bh : Int) (hb : b = 1 ∨ b = 2) : sideBy b a lv ah bh = 1 ∨ sideBy b a lv ah bh = 2 := by
  have h1 : leanL ah = 0 ∨ leanL ah = 1 ∨ leanL ah = 2 := by
    have := lean_as ah
    split at this <;> omega
  have h2 : ownL lv = 1 ∨ ownL lv = 2 := by unfold ownL; split <;> simp
  have hL : ∀ L R : Int, (L = 0 ∨ L = 1 ∨ L = 2) → (if L = R ∧ L ≠ 0 then L else ownL lv) = 1 ∨ (if L = R ∧ L ≠ 0 then L else ownL lv) = 2 := by
    intro L R h
    by_cases g : L = R ∧ L ≠ 0
    · rw [if_pos g]; omega
    · rw [if_neg g]; exact h2
  unfold sideBy
  apply hL
  by_cases ha : ah = 0
  · rw [if_pos ha]; exact .inr hb
  · rw [if_neg ha]; exact h1
theorem span_split (p : Int → Bool) : ∀ l : List Int, ∃ run rest' : List Int, l = run ++ rest' ∧ (∀ y ∈ run, p y = true) ∧ (rest' = [] ∨ ∃ y s, rest' = y :: s ∧ p y = false)
  | [] => ⟨[], [], rfl, by simp, .inl rfl⟩
  | x :: l => by
    cases hx : p x with
    | false => exact ⟨[], x :: l, rfl, by simp, .inr ⟨x, l, rfl, hx⟩⟩
    | true =>
      obtain ⟨run, rest', e, h1, h2⟩ := span_split p l
      refine ⟨x :: run, rest', by rw [e]; rfl, fun y hy => ?_, h2⟩
      rcases List.mem_cons.1 hy with rfl | hy
      · exact hx
      · exact h1 y hy
theorem specPlain_l0 (b a lv : Int) (hb : b = 1 ∨ b = 2) (ha : a = 1 ∨ a = 2) (hv : 0 ≤ lv) : ∀ (n : Nat) (don rest : List Int) (k : Nat), rest.length ≤ n → (don ++ rest).length ≤ 80 → (∀ x ∈ don, x ≠ 0) → (∀ x ∈ rest, x ≠ 0) → 10 * rest.length + 1 ≤ k →
    spec_l3Plain.l0 k b a lv (don ++ rest) (don.length : Int) = some (don ++ besR plainL (sideBy b a lv) (lastL don) 0 rest)
  | n, don, [], k, hn, hl, hd, hr, hk => by
    obtain ⟨k, rfl⟩ : ∃ m, k = m + 1 := ⟨k - 1, by omega⟩
    simp only [spec_l3Plain.l0]
    rw [if_neg (len_end don)]
    simp [besR]
  | 0, don, x :: r, k, hn, hl, hd, hr, hk => by simp at hn
  | n + 1, don, x :: r, k, hn, hl, hd, hr, hk => by
    obtain ⟨run, rest', e, hrun, hstop⟩ := span_split plainL (x :: r)
    have hlen : (don ++ (run ++ rest')).length ≤ 80 := by rw [← e]; exact hl
    have hlx : (x :: r).length = run.length + rest'.length := by rw [e, List.length_append]
    simp only [List.length_cons] at hlx hk hn
    have hdl : don.length ≤ 80 := by simp at hl; omega
    obtain ⟨k, rfl⟩ : ∃ m, k = m + run.length + 1 + 1 := ⟨k - run.length - 2, by omega⟩
    simp only [spec_l3Plain.l0]
    rw [if_pos (len_mid don x r), e, specRun_l1 b a lv rest' hstop _ run don k hrun (by omega)]
    cases run with
    | nil =>
      rw [List.nil_append] at e
      subst e
      obtain ⟨k, rfl⟩ : ∃ m, k = m + 1 := ⟨k - 1, by simp at hk; omega⟩
      have hx : plainL x = false := by
        rcases hstop with h | ⟨y, s, h, hy⟩
        · cases h
        · injection h with h1 h2
          rw [h1]; exact hy
      have ih := specPlain_l0 b a lv hb ha hv n (don ++ [x]) r k (by omega) (by simpa using hl) (fun y hy => by
        rcases List.mem_append.1 hy with h | h
        · exact hd y h
        · rw [List.mem_singleton.1 h]; exact hr x List.mem_cons_self) (fun y hy => hr y (List.mem_cons_of_mem _ hy)) (by simp at hk; omega)
      rw [len_snoc, ← app_cons, lastL_snoc] at ih
      simp only [spec_l3Plain.j2, List.nil_append, List.length_nil, Nat.add_zero]
      rw [if_pos trivial, w64_len (by omega) (by omega), ih]
      simp [besR, hx]
    | cons z run =>
      have hm : z :: run ≠ [] := by simp
      generalize hR : z :: run = R at *
      have hRl : 1 ≤ R.length := by rw [← hR]; simp
      clear hR
      have hne0 : ¬ ((don.length + R.length : Nat) : Int) = (don.length : Int) := by omega
      obtain ⟨k, rfl⟩ : ∃ m, k = m + R.length + 1 + 1 + 1 + 1 + 1 + 1 := ⟨k - R.length - 6, by omega⟩
      have hrest : ∀ y ∈ rest', y ≠ 0 := fun y hy => hr y (by rw [e]; exact List.mem_append_right _ hy)
      have fin : ∀ v, v = sideBy b a lv (lastL don) (rest'.headD 0) → spec_l3Plain.j6 (k + R.length + 1 + 1) b a lv (don ++ (R ++ rest')) (don.length : Int) ((don.length + R.length : Nat) : Int) v = some (don ++ besR plainL (sideBy b a lv) (lastL don) 0 (R ++ rest')) := by
        intro v hv'
        simp only [spec_l3Plain.j6]
        rw [specFill_l2 b a lv v rest' R don k (by omega)]
        have v12 := side_12 b a lv (lastL don) (rest'.headD 0) hb
        have ih := specPlain_l0 b a lv hb ha hv n (don ++ List.replicate R.length v) rest' k (by omega) (by simp at hlen ⊢; omega) (fun y hy => by
          rcases List.mem_append.1 hy with h | h
          · exact hd y h
          · rw [(List.mem_replicate.1 h).2, hv']; omega) hrest (by omega)
        have e1 : (don ++ List.replicate R.length v).length = don.length + R.length := by simp
        rw [e1, List.append_assoc] at ih
        rw [ih, List.append_assoc, hv']
        have := bes_next plainL (sideBy b a lv) (don ++ besR plainL (sideBy b a lv) (lastL don) 0 (R ++ rest')) don R rest' rfl hrun hstop
        rw [this, List.append_assoc]
      have stepj4 : ∀ A B : Int, A = (if lastL don = 0 then b else asL (lastL don)) → B = (if rest'.headD 0 = 0 then a else asL (rest'.headD 0)) → spec_l3Plain.j4 (k + R.length + 1 + 1 + 1 + 1) b a lv (don ++ (R ++ rest')) (don.length : Int) ((don.length + R.length : Nat) : Int) A B = some (don ++ besR plainL (sideBy b a lv) (lastL don) 0 (R ++ rest')) := by
        intro A B hA hB
        have hS := side_eq b a lv (lastL don) (rest'.headD 0) hb ha
        rw [← hA, ← hB] at hS
        simp only [spec_l3Plain.j4, specOwn lv hv, specSide, Option.bind_some, spec_l3Plain.j5]
        by_cases h1 : A = B
        · rw [if_pos h1]
          by_cases h2 : A = 1 ∨ A = 2
          · rw [if_pos ⟨h1, h2⟩] at hS
            rw [if_pos (by unfold isSd; exact decide_eq_true h2)]
            exact fin A hS
          · rw [if_neg (fun g => h2 g.2)] at hS
            rw [if_neg (by unfold isSd; rw [decide_eq_false h2]; simp)]
            exact fin _ hS
        · rw [if_neg (fun g => h1 g.1)] at hS
          rw [if_neg h1, if_neg (by simp)]
          exact fin _ hS
      have stepj3 : ∀ A : Int, A = (if lastL don = 0 then b else asL (lastL don)) → spec_l3Plain.j3 (k + R.length + 1 + 1 + 1 + 1 + 1) b a lv (don ++ (R ++ rest')) (don.length : Int) ((don.length + R.length : Nat) : Int) A = some (don ++ besR plainL (sideBy b a lv) (lastL don) 0 (R ++ rest')) := by
        intro A hA
        simp only [spec_l3Plain.j3]
        cases hc : rest' with
        | nil =>
          rw [← hc, if_neg (by rw [hc]; simp)]
          exact stepj4 A a hA (by rw [hc]; rfl)
        | cons y s =>
          have hy : y ≠ 0 := hrest y (by rw [hc]; exact List.mem_cons_self)
          have hrd : rd (don ++ (R ++ y :: s)) ((don.length + R.length : Nat) : Int) = y := by
            rw [← List.append_assoc, ← List.length_append]
            exact rd_mid (don ++ R) y s
          rw [if_pos (by simp; omega), if_pos (by omega), hrd, specAs, ← hc]
          simp only [Option.bind_some]
          exact stepj4 A (asL y) hA (by rw [hc]; simp [hy])
      simp only [spec_l3Plain.j2]
      rw [if_neg hne0]
      cases hdon : don with
      | nil =>
        rw [← hdon, if_neg (by rw [hdon]; simp)]
        exact stepj3 b (by rw [hdon]; rfl)
      | cons d0 dr =>
        have hdn : don ≠ [] := by rw [hdon]; simp
        have hl0 := lastL_ne don hdn hd
        obtain ⟨m, hm2⟩ : ∃ m, don.length = m + 1 := ⟨don.length - 1, by rw [hdon]; simp⟩
        have ew : wrap64 ((don.length : Int) - 1) = (m : Int) := by rw [w64 (by omega) (by omega)]; omega
        rw [← hdon, if_pos (by omega), ew, if_pos (by omega), if_pos (by simp; omega), lastL_rd don _ m hm2, specAs]
        simp only [Option.bind_some]
        exact stepj3 _ (by rw [if_neg hl0])
theorem specClasses_l0 : ∀ (suf pre : List Int) (k : Nat), (pre ++ suf).length ≤ 1048576 → suf.length + 1 ≤ k →
    spec_l3Classes.l0 k (pre ++ suf) (pre.length : Int) = some (decide (((pre ++ suf).length : Int) ≤ 80) && !(suf.any fun x => noCl x))
  | [], pre, k, hl, hk => by
    obtain ⟨k, rfl⟩ : ∃ m, k = m + 1 := ⟨k - 1, by simp at hk; omega⟩
    simp only [spec_l3Classes.l0]
    rw [if_neg (len_end pre)]
    simp
  | x :: suf, pre, k, hl, hk => by
    obtain ⟨k, rfl⟩ : ∃ m, k = m + 1 := ⟨k - 1, by simp at hk; omega⟩
    have hp : (pre.length : Int) ≤ 1048576 := by simp at hl; omega
    have ih := specClasses_l0 suf (pre ++ [x]) k (by simpa using hl) (by simp at hk; omega)
    rw [len_snoc, ← app_cons] at ih
    simp only [spec_l3Classes.l0]
    rw [if_pos (len_mid pre x suf), if_pos (by omega), rd_mid, specIn, w64_len (by omega) (by omega), ih]
    simp only [Option.bind_some, decide_eq_true_eq, List.any_cons]
    have hn : noCl x = !decide (1 ≤ x ∧ x ≤ 22) := by
      unfold noCl
      by_cases h1 : 1 ≤ x
      · rw [decide_eq_false (show ¬ x < 1 by omega)]
        by_cases h2 : x ≤ 22
        · rw [decide_eq_false (show ¬ 22 < x by omega), decide_eq_true (show 1 ≤ x ∧ x ≤ 22 from ⟨h1, h2⟩)]; rfl
        · rw [decide_eq_true (show 22 < x by omega), decide_eq_false (show ¬ (1 ≤ x ∧ x ≤ 22) by omega)]; rfl
      · rw [decide_eq_true (show x < 1 by omega), decide_eq_false (show ¬ (1 ≤ x ∧ x ≤ 22) by omega)]; rfl
    rw [hn]
    by_cases h : 1 ≤ x ∧ x ≤ 22
    · rw [if_pos h, decide_eq_true h]
      simp
    · rw [if_neg h, decide_eq_false h]
      simp
theorem specClasses (l : List Int) (hl : l.length ≤ 1048576) (k : Nat) (hk : l.length + 1 ≤ k) : spec_l3Classes.f k l = some (okC l) := specClasses_l0 l [] k (by simpa using hl) hk
theorem okC_len {l : List Int} (h : okC l = true) : l.length ≤ 80 := by
  unfold okC at h
  rw [Bool.and_eq_true, decide_eq_true_eq] at h
  omega
theorem okC_mem {l : List Int} (h : okC l = true) : ∀ x ∈ l, 1 ≤ x ∧ x ≤ 22 := by
  intro x hx
  unfold okC at h
  rw [Bool.and_eq_true, Bool.not_eq_true', List.any_eq_false] at h
  have := h.2 x hx
  unfold noCl at this
  simp at this
  omega
def levelPlainL (l : List Int) (b a lv : Int) : List Int := if okC l = true ∧ isSd b = true ∧ isSd a = true ∧ 0 ≤ lv ∧ lv ≤ 22 then besR plainL (sideBy b a lv) 0 0 l else []
theorem implLevelPlain (l : List Int) (b a lv : Int) : impl_LevelPlain.f l b a lv = some (levelPlainL l b a lv) := by
  unfold impl_LevelPlain.f levelPlainL
  split <;> rfl
theorem isSd_iff {x : Int} : isSd x = true ↔ x = 1 ∨ x = 2 := by
  unfold isSd
  rw [decide_eq_true_eq]
theorem specLevelPlain (l : List Int) (b a lv : Int) (hl : l.length ≤ 1048576) (k : Nat) (hk : l.length + 900 ≤ k) : spec_LevelPlain.f k l b a lv = some (levelPlainL l b a lv) := by
  unfold spec_LevelPlain.f levelPlainL
  rw [specClasses l hl k (by omega), specSide, specSide, specIn]
  simp only [Option.bind_some, decide_eq_true_eq]
  by_cases h1 : okC l = true
  · rw [if_pos h1]
    by_cases h2 : isSd b = true
    · rw [if_pos h2]
      by_cases h3 : isSd a = true
      · rw [if_pos h3]
        by_cases h4 : 0 ≤ lv ∧ lv ≤ 22
        · have h80 := okC_len h1
          have e : spec_l3Plain.f k l b a lv = some (besR plainL (sideBy b a lv) 0 0 l) := by
            unfold spec_l3Plain.f
            simp only [Option.bind_some, List.length_nil, List.nil_append]
            rw [if_pos (by omega)]
            exact specPlain_l0 b a lv (isSd_iff.1 h2) (isSd_iff.1 h3) h4.1 l.length [] l k (Nat.le_refl _) (by simpa using h80) (by simp) (fun x hx => by have := okC_mem h1 x hx; omega) (by omega)
          rw [if_pos h4, if_pos ⟨h1, h2, h3, h4.1, h4.2⟩, e]
          rfl
        · rw [if_neg h4, if_neg (fun g => h4 ⟨g.2.2.2.1, g.2.2.2.2⟩)]
      · rw [if_neg h3, if_neg (fun g => h3 g.2.2.1)]
    · rw [if_neg h2, if_neg (fun g => h2 g.2.1)]
  · rw [if_neg h1, if_neg (fun g => h1 g.1)]
theorem levelPlainL_len (l : List Int) (b a lv : Int) : (levelPlainL l b a lv).length ≤ 80 := by
  unfold levelPlainL
  split
  · rename_i h
    rw [besR_len, Nat.zero_add]
    exact okC_len h.1
  · simp

theorem toIntS_l0 : ∀ (suf pre rest : List Int) (k : Nat), rest.length = suf.length → (pre ++ suf).length ≤ 1048576 → suf.length + 1 ≤ k → laws_toIntS.l0 k (pre ++ suf) (pre ++ rest) (pre.length : Int) = some (pre ++ suf)
  | [], pre, rest, k, hr, hl, hk => by
    obtain ⟨k, rfl⟩ : ∃ m, k = m + 1 := ⟨k - 1, by simp at hk; omega⟩
    obtain rfl : rest = [] := List.eq_nil_of_length_eq_zero (by simpa using hr)
    simp only [laws_toIntS.l0]
    rw [if_neg (len_end pre)]
  | x :: suf, pre, [], k, hr, hl, hk => by simp at hr
  | x :: suf, pre, y :: rest, k, hr, hl, hk => by
    obtain ⟨k, rfl⟩ : ∃ m, k = m + 1 := ⟨k - 1, by simp at hk; omega⟩
    simp only [laws_toIntS.l0]
    have hp : (pre.length : Int) ≤ 1048576 := by simp at hl; omega
    rw [if_pos (len_mid pre x suf), if_pos (by omega), if_pos (len_mid pre y rest), rd_mid, set_mid, w64_len (by omega) (by omega), ← len_snoc pre x, app_cons pre x suf, app_cons pre x rest]
    exact toIntS_l0 suf (pre ++ [x]) rest k (by simpa using hr) (by simpa using hl) (by simp at hk; omega)
theorem toIntS_ok (l : List Int) (hl : l.length ≤ 1048576) (k : Nat) (hk : l.length + 1 ≤ k) : laws_toIntS.f k l = some l := by
  unfold laws_toIntS.f
  rw [if_pos (by omega), if_pos (by omega), Int.toNat_natCast]
  exact toIntS_l0 l [] (List.replicate l.length 0) k (by simp) (by simpa using hl) hk

theorem eqIntS_l0 : ∀ (suf pre : List Int) (k : Nat), (pre ++ suf).length ≤ 4000000 → suf.length + 1 ≤ k → laws_eqIntS.l0 k (pre ++ suf) (pre ++ suf) (pre.length : Int) = some true
  | [], pre, k, hl, hk => by
    obtain ⟨k, rfl⟩ : ∃ m, k = m + 1 := ⟨k - 1, by simp at hk; omega⟩
    simp only [laws_eqIntS.l0]
    rw [if_neg (len_end pre)]
  | x :: suf, pre, k, hl, hk => by
    obtain ⟨k, rfl⟩ : ∃ m, k = m + 1 := ⟨k - 1, by simp at hk; omega⟩
    simp only [laws_eqIntS.l0]
    have hp : (pre.length : Int) ≤ 4000000 := by simp at hl; omega
    rw [if_pos (len_mid pre x suf), if_pos (by omega), if_pos (len_mid pre x suf), if_pos trivial, w64_len (by omega) (by omega), ← len_snoc pre x, app_cons pre x suf]
    exact eqIntS_l0 suf (pre ++ [x]) k (by simpa using hl) (by simp at hk; omega)
theorem eqIntS_ok (l : List Int) (hl : l.length ≤ 4000000) (k : Nat) (hk : l.length + 1 ≤ k) : laws_eqIntS.f k l l = some true := by
  unfold laws_eqIntS.f
  rw [if_pos rfl]
  exact eqIntS_l0 l [] k (by simpa using hl) hk

/-- the numbers from one on, so many -/
def marks : Int → Nat → List Int
  | _, 0 => []
  | a, n + 1 => a :: marks (a + 1) n
theorem marks_length : ∀ (n : Nat) (a : Int), (marks a n).length = n
  | 0, _ => rfl
  | n + 1, a => by simp [marks, marks_length n]
theorem markIntS_l0 : ∀ (suf pre : List Int) (a : Int) (k : Nat), 0 ≤ a → a + suf.length ≤ 4000000000 → (pre ++ suf).length ≤ 4000000 → suf.length + 1 ≤ k → laws_markIntS.l0 k (pre ++ suf) a (pre.length : Int) = some (a + suf.length, pre ++ marks a suf.length)
  | [], pre, a, k, h0, h1, hl, hk => by
    obtain ⟨k, rfl⟩ : ∃ m, k = m + 1 := ⟨k - 1, by simp at hk; omega⟩
    simp only [laws_markIntS.l0]
    rw [if_neg (len_end pre)]
    simp [marks]
  | x :: suf, pre, a, k, h0, h1, hl, hk => by
    obtain ⟨k, rfl⟩ : ∃ m, k = m + 1 := ⟨k - 1, by simp at hk; omega⟩
    have hp : (pre.length : Int) ≤ 4000000 := by simp at hl; omega
    simp only [List.length_cons] at h1
    simp only [laws_markIntS.l0]
    rw [if_pos (len_mid pre x suf), if_pos (by omega), set_mid, w64_len (by omega) (by omega), w64_len (by omega) (by omega), ← len_snoc pre a, app_cons pre a suf, markIntS_l0 suf (pre ++ [a]) (a + 1) k (by omega) (by omega) (by simpa using hl) (by simp at hk; omega)]
    simp only [List.length_cons, Option.some.injEq, Prod.mk.injEq, marks]
    exact ⟨by omega, by simp⟩
theorem markIntS_ok (l : List Int) (a : Int) (h0 : 0 ≤ a) (h1 : a ≤ 3000000000) (hl : l.length ≤ 4000000) (k : Nat) (hk : l.length + 1 ≤ k) : laws_markIntS.f k l a = some (a + l.length, marks a l.length) := by
  unfold laws_markIntS.f
  exact markIntS_l0 l [] a k h0 (by omega) (by simpa using hl) hk

theorem heldIntS_l0 : ∀ (n : Nat) (pre : List Int) (a : Int) (k : Nat), 0 ≤ a → a + n ≤ 4000000000 → pre.length + n ≤ 4000000 → n + 1 ≤ k → laws_heldIntS.l0 k (pre ++ marks a n) a (pre.length : Int) = some (a + n)
  | 0, pre, a, k, h0, h1, hl, hk => by
    obtain ⟨k, rfl⟩ : ∃ m, k = m + 1 := ⟨k - 1, by omega⟩
    show laws_heldIntS.l0 (k + 1) (pre ++ []) a (pre.length : Int) = some (a + (0 : Nat))
    simp only [laws_heldIntS.l0]
    rw [if_neg (len_end pre)]
    simp
  | n + 1, pre, a, k, h0, h1, hl, hk => by
    obtain ⟨k, rfl⟩ : ∃ m, k = m + 1 := ⟨k - 1, by omega⟩
    show laws_heldIntS.l0 (k + 1) (pre ++ a :: marks (a + 1) n) a (pre.length : Int) = some (a + (n + 1 : Nat))
    simp only [laws_heldIntS.l0]
    have e := heldIntS_l0 n (pre ++ [a]) (a + 1) k (by omega) (by omega) (by simp; omega) (by omega)
    rw [if_pos (len_mid pre a _), if_pos (by omega), rd_mid, if_pos rfl, w64_len (by omega) (by omega), w64_len (by omega) (by omega), ← len_snoc pre a, app_cons pre a _, e]
    congr 1
    omega
theorem heldIntS_ok (n : Nat) (a : Int) (h0 : 0 ≤ a) (h1 : a ≤ 3000000000) (hl : n ≤ 4000000) (k : Nat) (hk : n + 1 ≤ k) : laws_heldIntS.f k (marks a n) a = some (a + n) := by
  unfold laws_heldIntS.f
  exact heldIntS_l0 n [] a k h0 (by omega) (by simpa using hl) hk

theorem FnExactLevelPlain : laws_FnExactLevelPlain.Pure := by
  intro l b a lv _ _ hw _ _ _
  unfold laws_FnExactLevelPlain.f
  by_cases hb : l.length ≤ 1048576
  · refine ⟨l.length + 1000, ?_⟩
    rw [if_neg (by omega), toIntS_ok l hb _ (by omega)]
    have hol := levelPlainL_len l b a lv
    simp only [Option.bind_some]
    rw [specLevelPlain l b a lv hb _ (by omega), implLevelPlain]
    simp only [Option.bind_some]
    rw [eqIntS_ok (levelPlainL l b a lv) (by omega) _ (by omega)]
    simp only [Option.bind_some, if_true]
    rw [eqIntS_ok l (by omega) _ (by omega), markIntS_ok l 1 (by omega) (by omega) (by omega) _ (by omega)]
    simp only [Option.bind_some, if_true]
    rw [if_neg (by omega), show l.length + 1000 = (l.length + 999) + 1 from rfl]
    simp only [laws_FnExactLevelPlain.j0, Bool.not_true, Bool.false_eq_true, if_false]
    rw [markIntS_ok (levelPlainL l b a lv) 1 (by omega) (by omega) (by omega) _ (by omega)]
    simp only [Option.bind_some]
    rw [heldIntS_ok _ 1 (by omega) (by omega) (by omega) _ (by omega)]
    simp only [Option.bind_some, if_true]
    rw [if_neg (by omega), toIntS_ok l hb _ (by omega)]
    simp only [Option.bind_some]
    rw [implLevelPlain]
    simp only [Option.bind_some]
    rw [eqIntS_ok (levelPlainL l b a lv) (by omega) _ (by omega)]
    simp
    omega
  · refine ⟨0, ?_⟩
    rw [if_pos (by omega)]

end Go.Proofs.Ytkapjhlcmicpnaa.Pure
