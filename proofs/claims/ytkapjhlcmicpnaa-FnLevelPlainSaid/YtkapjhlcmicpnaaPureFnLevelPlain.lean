/- Of drawn classes, sides and a level: LevelPlain is the reference's, what has no side of its own gets one and all else stays, between two of one side it gets that one, and made plain again nothing changes: the law FnLevelPlain answers true; no condition. -/
import Derived.Test.YtkapjhlcmicpnaaPFnLevelPlainx10
namespace Go.Proofs.Ytkapjhlcmicpnaa.Pure
open Go.RowKit Go.Proofs.Ytkapjhlcmicpnaa.PFnLevelPlain Go.Proofs.YtkapjhlcmicpnaaW.PrintWords Go.Proofs.YtkapjhlcmicpnaaW.PrintLast Go.Proofs.YtkapjhlcmicpnaaW.PrintMore
set_option linter.unusedVariables false
set_option linter.unusedSimpArgs false

/-! small lemmas on whole numbers, lists and rounds -/
theorem w64 {x : Int} (h : -9223372036854775808 ≤ x) (h' : x ≤ 9223372036854775807) : wrap64 x = x := by
  unfold wrap64
  omega
theorem in_i64 {x : Int} (h : (Lit.int .i64 x).wf = true) : -9223372036854775808 ≤ x ∧ x ≤ 9223372036854775807 := by
  simpa [Lit.wf, IntKind.min, IntKind.max, IntKind.bits, IntKind.signed] using h
theorem in_u8 {x : Int} (h : (Lit.int .u8 x).wf = true) : 0 ≤ x ∧ x ≤ 255 := by
  simpa [Lit.wf, IntKind.min, IntKind.max, IntKind.bits, IntKind.signed] using h
theorem rd_nat (l : List Int) (i : Nat) : rd l (i : Int) = l.getD i 0 := by
  unfold rd
  rw [Int.toNat_natCast]

/-! lists, place by place: what lies ahead of a place, the place, what lies behind -/
theorem getD_mid {α : Type} (pre : List α) (x : α) (suf : List α) (d : α) : (pre ++ x :: suf).getD ((pre.length : Int)).toNat d = x := by
  rw [Int.toNat_natCast, List.getD_eq_getElem?_getD]
  simp
theorem set_mid {α : Type} (pre : List α) (x y : α) (suf : List α) : (pre ++ x :: suf).set ((pre.length : Int)).toNat y = pre ++ y :: suf := by
  rw [Int.toNat_natCast]
  simp
theorem rd_mid (pre : List Int) (x : Int) (suf : List Int) : rd (pre ++ x :: suf) (pre.length : Int) = x := getD_mid pre x suf 0
theorem len_mid {α : Type} (pre : List α) (x : α) (suf : List α) : (pre.length : Int) < ((pre ++ x :: suf).length : Int) := by
  simp only [List.length_append, List.length_cons]
  omega
theorem len_end {α : Type} (pre : List α) : ¬ (pre.length : Int) < ((pre ++ []).length : Int) := by simp
theorem len_snoc {α : Type} (pre : List α) (x : α) : ((pre ++ [x]).length : Int) = (pre.length : Int) + 1 := by simp
theorem app_cons {α : Type} (pre : List α) (x : α) (suf : List α) : pre ++ x :: suf = (pre ++ [x]) ++ suf := by simp
theorem w64_len {n : Int} (h0 : 0 ≤ n) (h : n ≤ 9000000000000000000) : wrap64 (n + 1) = n + 1 := w64 (by omega) (by omega)

theorem specIn (a b c : Int) : spec_l1In.f a b c = some (decide (b ≤ a ∧ a ≤ c)) := by
  unfold spec_l1In.f
  by_cases h1 : b ≤ a <;> by_cases h2 : a ≤ c <;> simp [h1, h2]

theorem specNo (x : Int) : spec_l3No.f x = some (plainL x) := by
  unfold spec_l3No.f plainL
  rw [specIn]
  simp only [Option.bind_some, decide_eq_true_eq]
  by_cases h : 11 ≤ x ∧ x ≤ 13
  · rw [if_pos h, decide_eq_true (show x = 11 ∨ x = 12 ∨ x = 13 ∨ 19 ≤ x by omega)]
  · rw [if_neg h]
    by_cases h2 : 19 ≤ x
    · rw [decide_eq_true (show x ≥ 19 from h2), decide_eq_true (show x = 11 ∨ x = 12 ∨ x = 13 ∨ 19 ≤ x by omega)]
    · rw [decide_eq_false (show ¬ x ≥ 19 from h2), decide_eq_false (show ¬ (x = 11 ∨ x = 12 ∨ x = 13 ∨ 19 ≤ x) by omega)]
def asL (x : Int) : Int := if x = 4 ∨ x = 7 then 2 else x
theorem specAs (x : Int) : spec_l3As.f x = some (asL x) := by
  unfold spec_l3As.f asL
  by_cases h1 : x = 4
  · simp [h1]
  by_cases h2 : x = 7
  · simp [h2]
  simp [h1, h2]
theorem specOwn (x : Int) (h0 : 0 ≤ x) : spec_l3Own.f x = some (ownL x) := by
  unfold spec_l3Own.f ownL
  rw [Int.tmod_eq_emod_of_nonneg h0]
  by_cases h : x % 2 = 0
  · rw [if_neg (by omega), if_pos h]
  · rw [if_pos (by omega), if_neg h]
theorem specSide (x : Int) : spec_l3Side.f x = some (isSd x) := by
  unfold spec_l3Side.f isSd
  by_cases h1 : x = 1
  · simp [h1]
  · by_cases h2 : x = 2 <;> simp [h1, h2]
theorem lean_as (x : Int) : leanL x = if asL x = 1 ∨ asL x = 2 then asL x else 0 := by
  unfold leanL asL
  by_cases h1 : x = 1
  · simp [h1]
  by_cases h2 : x = 2
  · simp [h2]
  by_cases h3 : x = 4
  · simp [h3]
  by_cases h4 : x = 7
  · simp [h4]
  simp [h1, h2, h3, h4]
theorem side_eq (b a lv ah bh : Int) (hb : b = 1 ∨ b = 2) (ha : a = 1 ∨ a = 2) :
    (if (if ah = 0 then b else asL ah) = (if bh = 0 then a else asL bh) ∧ ((if ah = 0 then b else asL ah) = 1 ∨ (if ah = 0 then b else asL ah) = 2) then (if ah = 0 then b else asL ah) else ownL lv) = sideBy b a lv ah bh := by
  have key : ∀ A B : Int, (if A = B ∧ (A = 1 ∨ A = 2) then A else ownL lv) = if (if A = 1 ∨ A = 2 then A else 0) = (if B = 1 ∨ B = 2 then B else 0) ∧ (if A = 1 ∨ A = 2 then A else 0) ≠ 0 then (if A = 1 ∨ A = 2 then A else 0) else ownL lv := by
    intro A B
    by_cases h1 : A = 1 ∨ A = 2
    · by_cases h2 : B = 1 ∨ B = 2
      · simp only [if_pos h1, if_pos h2]
        by_cases h3 : A = B
        · rw [if_pos ⟨h3, h1⟩, if_pos ⟨h3, by omega⟩]
        · rw [if_neg (fun g => h3 g.1), if_neg (fun g => h3 g.1)]
      · simp only [if_pos h1, if_neg h2]
        rw [if_neg (fun g => h2 (by rw [← g.1]; exact h1)), if_neg (fun g => by omega)]
    · simp only [if_neg h1]
      rw [if_neg (fun g => h1 g.2), if_neg (fun g => g.2 rfl)]
  unfold sideBy
  rw [key]
  have e1 : (if ah = 0 then b else leanL ah) = (if (if ah = 0 then b else asL ah) = 1 ∨ (if ah = 0 then b else asL ah) = 2 then (if ah = 0 then b else asL ah) else 0) := by
    by_cases h : ah = 0
    · simp only [if_pos h]; rw [if_pos hb]
    · simp only [if_neg h]; exact lean_as ah
  have e2 : (if bh = 0 then a else leanL bh) = (if (if bh = 0 then a else asL bh) = 1 ∨ (if bh = 0 then a else asL bh) = 2 then (if bh = 0 then a else asL bh) else 0) := by
    by_cases h : bh = 0
    · simp only [if_pos h]; rw [if_pos ha]
    · simp only [if_neg h]; exact lean_as bh
  rw [e1, e2]
theorem specRun_l1 (b a lv : Int) (rest' : List Int) (hs : rest' = [] ∨ ∃ y r, rest' = y :: r ∧ plainL y = false) (i : Int) : ∀ (run pre : List Int) (k : Nat), (∀ x ∈ run, plainL x = true) → (pre ++ (run ++ rest')).length ≤ 1048576 →
    spec_l3Plain.l1 (k + run.length + 1) b a lv (pre ++ (run ++ rest')) i (pre.length : Int) = spec_l3Plain.j2 k b a lv (pre ++ (run ++ rest')) i ((pre.length + run.length : Nat) : Int)
  | [], pre, k, hr, hl => by
    simp only [spec_l3Plain.l1, List.length_nil, Nat.add_zero, List.nil_append]
    rcases hs with rfl | ⟨y, r, rfl, hy⟩
    · rw [if_neg (len_end pre)]
    · rw [if_pos (len_mid pre y r), if_pos (by omega), rd_mid, specNo]
      simp only [Option.bind_some]
      rw [if_neg (by rw [hy]; simp)]
  | x :: run, pre, k, hr, hl => by
    have hp : (pre.length : Int) ≤ 1048576 := by simp at hl; omega
    have ih := specRun_l1 b a lv rest' hs i run (pre ++ [x]) k (fun y hy => hr y (List.mem_cons_of_mem _ hy)) (by simpa using hl)
    rw [len_snoc, ← app_cons] at ih
    simp only [List.length_cons, List.cons_append]
    rw [show k + (run.length + 1) + 1 = (k + run.length + 1) + 1 from rfl]
    generalize k + run.length + 1 = K at ih ⊢
    simp only [spec_l3Plain.l1]
    rw [if_pos (len_mid pre x _), if_pos (by omega), rd_mid, specNo]
    simp only [Option.bind_some]
    rw [if_pos (hr x List.mem_cons_self), w64_len (by omega) (by omega), ih]
    congr 1
    simp
    omega
theorem specFill_l2 (b a lv v : Int) (rest' : List Int) : ∀ (run pre : List Int) (k : Nat), (pre ++ (run ++ rest')).length ≤ 1048576 →
    spec_l3Plain.l2 (k + run.length + 1) b a lv (pre ++ (run ++ rest')) ((pre.length + run.length : Nat) : Int) v (pre.length : Int) = spec_l3Plain.l0 k b a lv (pre ++ (List.replicate run.length v ++ rest')) ((pre.length + run.length : Nat) : Int)
  | [], pre, k, hl => by
    simp only [spec_l3Plain.l2, List.length_nil, Nat.add_zero]
    rw [if_neg (by omega)]
    rfl
  | x :: run, pre, k, hl => by
    have hp : (pre.length : Int) ≤ 1048576 := by simp at hl; omega
    have ih := specFill_l2 b a lv v rest' run (pre ++ [v]) k (by simpa using hl)
    rw [len_snoc] at ih
    simp only [List.length_cons, List.cons_append]
    rw [show k + (run.length + 1) + 1 = (k + run.length + 1) + 1 from rfl]
    generalize k + run.length + 1 = K at ih ⊢
    simp only [spec_l3Plain.l2]
    rw [if_pos (by omega), if_pos (by omega), if_pos (len_mid pre x _), set_mid, w64_len (by omega) (by omega)]
    have e1 : (pre ++ [v]).length + run.length = pre.length + (run.length + 1) := by simp; omega
    rw [e1, ← app_cons] at ih
    rw [ih, List.replicate_succ, List.cons_append, List.append_assoc]
    rfl
theorem lastL_ne : ∀ (don : List Int), don ≠ [] → (∀ x ∈ don, x ≠ 0) → lastL don ≠ 0
  | [], h, _ => absurd rfl h
  | x :: don, _, h => by
    have e : lastL (x :: don) = (x :: don).getLast (by simp) := by
      unfold lastL
      rw [List.getLast?_eq_some_getLast (by simp)]
      rfl
    rw [e]
    exact h _ (List.getLast_mem _)
theorem side_12 (b a lv ah bh : Int) (hb : b = 1 ∨ b = 2) : sideBy b a lv ah bh = 1 ∨ sideBy b a lv ah bh = 2 := by
  have h1 : leanL ah = 0 ∨ leanL ah = 1 ∨ leanL ah = 2 := by
    have := lean_as ah
    split at this <;> omega
  have h2 : ownL lv = 1 ∨ ownL lv = 2 := by unfold ownL; split <;> simp
  have hL : ∀ L R : Int, (L = 0 ∨ L = 1 ∨ L = 2) → (if L = R ∧ L ≠ 0 then L else ownL lv) = 1 ∨ (if L = R ∧ L ≠ 0 then L else ownL lv) = 2 := by
    intro L R h
    by_cases g : L = R ∧ L ≠ 0
    · rw [if_pos g]; omega
    · rw [if_neg g]; exact h2
  unfold sideBy
  apply hL
  by_cases ha : ah = 0
  · rw [if_pos ha]; exact .inr hb
  · rw [if_neg ha]; exact h1
theorem span_split (p : Int → Bool) : ∀ l : List Int, ∃ run rest' : List Int, l = run ++ rest' ∧ (∀ y ∈ run, p y = true) ∧ (rest' = [] ∨ ∃ y s, rest' = y :: s ∧ p y = false)
  | [] => ⟨[], [], rfl, by simp, .inl rfl⟩
  | x :: l => by
    cases hx : p x with
    | false => exact ⟨[], x :: l, rfl, by simp, .inr ⟨x, l, rfl, hx⟩⟩
    | true =>
      obtain ⟨run, rest', e, h1, h2⟩ := span_split p l
      refine ⟨x :: run, rest', by rw [e]; rfl, fun y hy => ?_, h2⟩
      rcases List.mem_cons.1 hy with rfl | hy
      · exact hx
      · exact h1 y hy
theorem specPlain_l0 (b a lv : Int) (hb : b = 1 ∨ b = 2) (ha : a = 1 ∨ a = 2) (hv : 0 ≤ lv) : ∀ (n : Nat) (don rest : List Int) (k : Nat), rest.length ≤ n → (don ++ rest).length ≤ 80 → (∀ x ∈ don, x ≠ 0) → (∀ x ∈ rest, x ≠ 0) → 10 * rest.length + 1 ≤ k →
    spec_l3Plain.l0 k b a lv (don ++ rest) (don.length : Int) = some (don ++ besR plainL (sideBy b a lv) (lastL don) 0 rest)
  | n, don, [], k, hn, hl, hd, hr, hk => by
    obtain ⟨k, rfl⟩ : ∃ m, k = m + 1 := ⟨k - 1, by omega⟩
    simp only [spec_l3Plain.l0]
    rw [if_neg (len_end don)]
    simp [besR]
  | 0, don, x :: r, k, hn, hl, hd, hr, hk => by simp at hn
  | n + 1, don, x :: r, k, hn, hl, hd, hr, hk => by
    obtain ⟨run, rest', e, hrun, hstop⟩ := span_split plainL (x :: r)
    have hlen : (don ++ (run ++ rest')).length ≤ 80 := by rw [← e]; exact hl
    have hlx : (x :: r).length = run.length + rest'.length := by rw [e, List.length_append]
    simp only [List.length_cons] at hlx hk hn
    have hdl : don.length ≤ 80 := by simp at hl; omega
    obtain ⟨k, rfl⟩ : ∃ m, k = m + run.length + 1 + 1 := ⟨k - run.length - 2, by omega⟩
    simp only [spec_l3Plain.l0]
    rw [if_pos (len_mid don x r), e, specRun_l1 b a lv rest' hstop _ run don k hrun (by omega)]
    cases run with
    | nil =>
      rw [List.nil_append] at e
      subst e
      obtain ⟨k, rfl⟩ : ∃ m, k = m + 1 := ⟨k - 1, by simp at hk; omega⟩
      have hx : plainL x = false := by
        rcases hstop with h | ⟨y, s, h, hy⟩
        · cases h
        · injection h with h1 h2
          rw [h1]; exact hy
      have ih := specPlain_l0 b a lv hb ha hv n (don ++ [x]) r k (by omega) (by simpa using hl) (fun y hy => by
        rcases List.mem_append.1 hy with h | h
        · exact hd y h
        · rw [List.mem_singleton.1 h]; exact hr x List.mem_cons_self) (fun y hy => hr y (List.mem_cons_of_mem _ hy)) (by simp at hk; omega)
      rw [len_snoc, ← app_cons, lastL_snoc] at ih
      simp only [spec_l3Plain.j2, List.nil_append, List.length_nil, Nat.add_zero]
      rw [if_pos trivial, w64_len (by omega) (by omega), ih]
      simp [besR, hx]
    | cons z run =>
      have hm : z :: run ≠ [] := by simp
      generalize hR : z :: run = R at *
      have hRl : 1 ≤ R.length := by rw [← hR]; simp
      clear hR
      have hne0 : ¬ ((don.length + R.length : Nat) : Int) = (don.length : Int) := by omega
      obtain ⟨k, rfl⟩ : ∃ m, k = m + R.length + 1 + 1 + 1 + 1 + 1 + 1 := ⟨k - R.length - 6, by omega⟩
      have hrest : ∀ y ∈ rest', y ≠ 0 := fun y hy => hr y (by rw [e]; exact List.mem_append_right _ hy)
      have fin : ∀ v, v = sideBy b a lv (lastL don) (rest'.headD 0) → spec_l3Plain.j6 (k + R.length + 1 + 1) b a lv (don ++ (R ++ rest')) (don.length : Int) ((don.length + R.length : Nat) : Int) v = some (don ++ besR plainL (sideBy b a lv) (lastL don) 0 (R ++ rest')) := by
        intro v hv'
        simp only [spec_l3Plain.j6]
        rw [specFill_l2 b a lv v rest' R don k (by omega)]
        have v12 := side_12 b a lv (lastL don) (rest'.headD 0) hb
        have ih := specPlain_l0 b a lv hb ha hv n (don ++ List.replicate R.length v) rest' k (by omega) (by simp at hlen ⊢; omega) (fun y hy => by
          rcases List.mem_append.1 hy with h | h
          · exact hd y h
          · rw [(List.mem_replicate.1 h).2, hv']; omega) hrest (by omega)
        have e1 : (don ++ List.replicate R.length v).length = don.length + R.length := by simp
        rw [e1, List.append_assoc] at ih
        rw [ih, List.append_assoc, hv']
        have := bes_next plainL (sideBy b a lv) (don ++ besR plainL (sideBy b a lv) (lastL don) 0 (R ++ rest')) don R rest' rfl hrun hstop
        rw [this, List.append_assoc]
      have stepj4 : ∀ A B : Int, A = (if lastL don = 0 then b else asL (lastL don)) → B = (if rest'.headD 0 = 0 then a else asL (rest'.headD 0)) → spec_l3Plain.j4 (k + R.length + 1 + 1 + 1 + 1) b a lv (don ++ (R ++ rest')) (don.length : Int) ((don.length + R.length : Nat) : Int) A B = some (don ++ besR plainL (sideBy b a lv) (lastL don) 0 (R ++ rest')) := by
        intro A B hA hB
        have hS := side_eq b a lv (lastL don) (rest'.headD 0) hb ha
        rw [← hA, ← hB] at hS
        simp only [spec_l3Plain.j4, specOwn lv hv, specSide, Option.bind_some, spec_l3Plain.j5]
        by_cases h1 : A = B
        · rw [if_pos h1]
          by_cases h2 : A = 1 ∨ A = 2
          · rw [if_pos ⟨h1, h2⟩] at hS
            rw [if_pos (by unfold isSd; exact decide_eq_true h2)]
            exact fin A hS
          · rw [if_neg (fun g => h2 g.2)] at hS
            rw [if_neg (by unfold isSd; rw [decide_eq_false h2]; simp)]
            exact fin _ hS
        · rw [if_neg (fun g => h1 g.1)] at hS
          rw [if_neg h1, if_neg (by simp)]
          exact fin _ hS
      have stepj3 : ∀ A : Int, A = (if lastL don = 0 then b else asL (lastL don)) → spec_l3Plain.j3 (k + R.length + 1 + 1 + 1 + 1 + 1) b a lv (don ++ (R ++ rest')) (don.length : Int) ((don.length + R.length : Nat) : Int) A = some (don ++ besR plainL (sideBy b a lv) (lastL don) 0 (R ++ rest')) := by
        intro A hA
        simp only [spec_l3Plain.j3]
        cases hc : rest' with
        | nil =>
          rw [← hc, if_neg (by rw [hc]; simp)]
          exact stepj4 A a hA (by rw [hc]; rfl)
        | cons y s =>
          have hy : y ≠ 0 := hrest y (by rw [hc]; exact List.mem_cons_self)
          have hrd : rd (don ++ (R ++ y :: s)) ((don.length + R.length : Nat) : Int) = y := by
            rw [← List.append_assoc, ← List.length_append]
            exact rd_mid (don ++ R) y s
          rw [if_pos (by simp; omega), if_pos (by omega), hrd, specAs, ← hc]
          simp only [Option.bind_some]
          exact stepj4 A (asL y) hA (by rw [hc]; simp [hy])
      simp only [spec_l3Plain.j2]
      rw [if_neg hne0]
      cases hdon : don with
      | nil =>
        rw [← hdon, if_neg (by rw [hdon]; simp)]
        exact stepj3 b (by rw [hdon]; rfl)
      | cons d0 dr =>
        have hdn : don ≠ [] := by rw [hdon]; simp
        have hl0 := lastL_ne don hdn hd
        obtain ⟨m, hm2⟩ : ∃ m, don.length = m + 1 := ⟨don.length - 1, by rw [hdon]; simp⟩
        have ew : wrap64 ((don.length : Int) - 1) = (m : Int) := by rw [w64 (by omega) (by omega)]; omega
        rw [← hdon, if_pos (by omega), ew, if_pos (by omega), if_pos (by simp; omega), lastL_rd don _ m hm2, specAs]
        simp only [Option.bind_some]
        exact stepj3 _ (by rw [if_neg hl0])
theorem specClasses_l0 : ∀ (suf pre : List Int) (k : Nat), (pre ++ suf).length ≤ 1048576 → suf.length + 1 ≤ k →
    spec_l3Classes.l0 k (pre ++ suf) (pre.length : Int) = some (decide (((pre ++ suf).length : Int) ≤ 80) && !(suf.any fun x => noCl x))
  | [], pre, k, hl, hk => by
    obtain ⟨k, rfl⟩ : ∃ m, k = m + 1 := ⟨k - 1, by simp at hk; omega⟩
    simp only [spec_l3Classes.l0]
    rw [if_neg (len_end pre)]
    simp
  | x :: suf, pre, k, hl, hk => by
    obtain ⟨k, rfl⟩ : ∃ m, k = m + 1 := ⟨k - 1, by simp at hk; omega⟩
    have hp : (pre.length : Int) ≤ 1048576 := by simp at hl; omega
    have ih := specClasses_l0 suf (pre ++ [x]) k (by simpa using hl) (by simp at hk; omega)
    rw [len_snoc, ← app_cons] at ih
    simp only [spec_l3Classes.l0]
    rw [if_pos (len_mid pre x suf), if_pos (by omega), rd_mid, specIn, w64_len (by omega) (by omega), ih]
    simp only [Option.bind_some, decide_eq_true_eq, List.any_cons]
    have hn : noCl x = !decide (1 ≤ x ∧ x ≤ 22) := by
      unfold noCl
      by_cases h1 : 1 ≤ x
      · rw [decide_eq_false (show ¬ x < 1 by omega)]
        by_cases h2 : x ≤ 22
        · rw [decide_eq_false (show ¬ 22 < x by omega), decide_eq_true (show 1 ≤ x ∧ x ≤ 22 from ⟨h1, h2⟩)]; rfl
        · rw [decide_eq_true (show 22 < x by omega), decide_eq_false (show ¬ (1 ≤ x ∧ x ≤ 22) by omega)]; rfl
      · rw [decide_eq_true (show x < 1 by omega), decide_eq_false (show ¬ (1 ≤ x ∧ x ≤ 22) by omega)]; rfl
    rw [hn]
    by_cases h : 1 ≤ x ∧ x ≤ 22
    · rw [if_pos h, decide_eq_true h]
      simp
    · rw [if_neg h, decide_eq_false h]
      simp
theorem specClasses (l : List Int) (hl : l.length ≤ 1048576) (k : Nat) (hk : l.length + 1 ≤ k) : spec_l3Classes.f k l = some (okC l) := specClasses_l0 l [] k (by simpa using hl) hk
theorem okC_len {l : List Int} (h : okC l = true) : l.length ≤ 80 := by
  unfold okC at h
  rw [Bool.and_eq_true, decide_eq_true_eq] at h
  omega
theorem okC_mem {l : List Int} (h : okC l = true) : ∀ x ∈ l, 1 ≤ x ∧ x ≤ 22 := by
  intro x hx
  unfold okC at h
  rw [Bool.and_eq_true, Bool.not_eq_true', List.any_eq_false] at h
  have := h.2 x hx
  unfold noCl at this
  simp at this
  omega
def levelPlainL (l : List Int) (b a lv : Int) : List Int := if okC l = true ∧ isSd b = true ∧ isSd a = true ∧ 0 ≤ lv ∧ lv ≤ 22 then besR plainL (sideBy b a lv) 0 0 l else []
theorem implLevelPlain (l : List Int) (b a lv : Int) : impl_LevelPlain.f l b a lv = some (levelPlainL l b a lv) := by
  unfold impl_LevelPlain.f levelPlainL
  split <;> rfl
theorem isSd_iff {x : Int} : isSd x = true ↔ x = 1 ∨ x = 2 := by
  unfold isSd
  rw [decide_eq_true_eq]
theorem specLevelPlain (l : List Int) (b a lv : Int) (hl : l.length ≤ 1048576) (k : Nat) (hk : l.length + 900 ≤ k) : spec_LevelPlain.f k l b a lv = some (levelPlainL l b a lv) := by
  unfold spec_LevelPlain.f levelPlainL
  rw [specClasses l hl k (by omega), specSide, specSide, specIn]
  simp only [Option.bind_some, decide_eq_true_eq]
  by_cases h1 : okC l = true
  · rw [if_pos h1]
    by_cases h2 : isSd b = true
    · rw [if_pos h2]
      by_cases h3 : isSd a = true
      · rw [if_pos h3]
        by_cases h4 : 0 ≤ lv ∧ lv ≤ 22
        · have h80 := okC_len h1
          have e : spec_l3Plain.f k l b a lv = some (besR plainL (sideBy b a lv) 0 0 l) := by
            unfold spec_l3Plain.f
            simp only [Option.bind_some, List.length_nil, List.nil_append]
            rw [if_pos (by omega)]
            exact specPlain_l0 b a lv (isSd_iff.1 h2) (isSd_iff.1 h3) h4.1 l.length [] l k (Nat.le_refl _) (by simpa using h80) (by simp) (fun x hx => by have := okC_mem h1 x hx; omega) (by omega)
          rw [if_pos h4, if_pos ⟨h1, h2, h3, h4.1, h4.2⟩, e]
          rfl
        · rw [if_neg h4, if_neg (fun g => h4 ⟨g.2.2.2.1, g.2.2.2.2⟩)]
      · rw [if_neg h3, if_neg (fun g => h3 g.2.2.1)]
    · rw [if_neg h2, if_neg (fun g => h2 g.2.1)]
  · rw [if_neg h1, if_neg (fun g => h1 g.1)]
theorem levelPlainL_len (l : List Int) (b a lv : Int) : (levelPlainL l b a lv).length ≤ 80 := by
  unfold levelPlainL
  split
  · rename_i h
    rw [besR_len, Nat.zero_add]
    exact okC_len h.1
  · simp

/-! the reference's LevelWeak answers, with as many classes (no more is said) -/
def Ans (n : Nat) (o : Option (List Int)) : Prop := ∃ u, o = some u ∧ u.length = n
theorem Ans.ite {n : Nat} {c : Prop} [Decidable c] {a b : Option (List Int)} (h1 : Ans n a) (h2 : Ans n b) : Ans n (if c then a else b) := by split <;> assumption
theorem marks_some (b : Int) (N : Nat) (hN : N ≤ 1000) : ∀ (n i : Nat) (L : List Int) (k : Nat), L.length = N → i + n = N → n + 1 ≤ k → Ans N (spec_l3Marks.l0 k L b (i : Int))
  | 0, i, L, k, hL, hi, hk => by
    obtain ⟨k, rfl⟩ : ∃ m, k = m + 1 := ⟨k - 1, by omega⟩
    simp only [spec_l3Marks.l0]
    rw [if_neg (by omega)]
    exact ⟨L, rfl, hL⟩
  | n + 1, i, L, k, hL, hi, hk => by
    obtain ⟨k, rfl⟩ : ∃ m, k = m + 1 := ⟨k - 1, by omega⟩
    have ih := fun L' (h : L'.length = N) => marks_some b N hN n (i + 1) L' k h (by omega) (by omega)
    rw [show ((i + 1 : Nat) : Int) = (i : Int) + 1 from by omega] at ih
    simp only [spec_l3Marks.l0, spec_l3Opens.f, specIn, Option.bind_some]
    rw [if_pos (by omega), if_pos (by omega), w64_len (by omega) (by omega)]
    refine Ans.ite ?_ (ih _ hL)
    by_cases h0 : (i : Int) = 0
    · rw [if_pos h0]
      exact ih _ (by simp [hL])
    · rw [if_neg h0, w64 (x := (i : Int) - 1) (by omega) (by omega), if_pos (by omega), if_pos (by omega)]
      exact Ans.ite (ih _ (by simp [hL])) (Ans.ite (ih _ (by simp [hL])) (ih _ (by simp [hL])))
theorem strong_some (L : List Int) (b : Int) (hL : L.length ≤ 1000) : ∀ (n k : Nat), n ≤ L.length → n + 1 ≤ k → ∃ v, spec_l3Strong.l0 k L b ((n : Int) - 1) = some v
  | 0, k, hn, hk => by
    obtain ⟨k, rfl⟩ : ∃ m, k = m + 1 := ⟨k - 1, by omega⟩
    simp only [spec_l3Strong.l0]
    rw [if_neg (by omega)]
    exact ⟨_, rfl⟩
  | n + 1, k, hn, hk => by
    obtain ⟨k, rfl⟩ : ∃ m, k = m + 1 := ⟨k - 1, by omega⟩
    obtain ⟨v, hv⟩ := strong_some L b hL n k (by omega) (by omega)
    simp only [spec_l3Strong.l0]
    rw [show ((n + 1 : Nat) : Int) - 1 = (n : Int) from by omega, if_pos (by omega), if_pos (by omega), if_pos (by omega), w64 (x := (n : Int) - 1) (by omega) (by omega), hv]
    repeat' split
    all_goals exact ⟨_, rfl⟩
theorem strong_ok (L : List Int) (b : Int) (hL : L.length ≤ 1000) (i k : Nat) (hi : i < L.length) (hk : i + 2 ≤ k) : ∃ v, spec_l3Strong.f k L (i : Int) b = some v := by
  obtain ⟨v, hv⟩ := strong_some L b hL (i + 1) k (by omega) (by omega)
  rw [show ((i + 1 : Nat) : Int) - 1 = (i : Int) from by omega] at hv
  exact ⟨v, hv⟩
theorem between_some (N : Nat) (hN : N ≤ 1000) : ∀ (n i : Nat) (L : List Int) (k : Nat), L.length = N → 1 ≤ i → i + n = N + 1 → n + 1 ≤ k → Ans N (spec_l3Between.l0 k L (i : Int))
  | 0, i, L, k, hL, h1, hi, hk => by
    obtain ⟨k, rfl⟩ : ∃ m, k = m + 1 := ⟨k - 1, by omega⟩
    simp only [spec_l3Between.l0]
    rw [w64_len (by omega) (by omega), if_neg (by omega)]
    exact ⟨L, rfl, hL⟩
  | n + 1, i, L, k, hL, h1, hi, hk => by
    obtain ⟨k, rfl⟩ : ∃ m, k = m + 1 := ⟨k - 1, by omega⟩
    have ih := fun L' (h : L'.length = N) => between_some N hN n (i + 1) L' k h (by omega) (by omega) (by omega)
    rw [show ((i + 1 : Nat) : Int) = (i : Int) + 1 from by omega] at ih
    simp only [spec_l3Between.l0]
    rw [w64_len (by omega) (by omega), w64 (x := (i : Int) - 1) (by omega) (by omega)]
    by_cases hlt : (i : Int) + 1 < (L.length : Int)
    · rw [if_pos hlt, if_pos (by omega), if_pos (by omega), if_pos (by omega)]
      simp only [if_pos (show (0 : Int) ≤ (i : Int) by omega), if_pos (show (i : Int) < (L.length : Int) by omega)]
      repeat' (refine Ans.ite ?_ ?_)
      all_goals first | exact ih _ hL | exact ih _ (by simp [hL])
    · rw [if_neg hlt]
      exact ⟨L, rfl, hL⟩
theorem fill_some (N i : Nat) (hN : N ≤ 81) (K : Nat) (H : ∀ (L : List Int) (k : Nat), L.length = N → K ≤ k → Ans N (spec_l3Beside.l0 k L ((i : Int) + 1))) (hi : i ≤ N) (j : Nat) (hj : j ≤ N) : ∀ (d a : Nat) (L : List Int) (k : Nat), L.length = N → a + d = j → K + d + 1 ≤ k → Ans N (spec_l3Beside.l2 k L (i : Int) (j : Int) (a : Int))
  | 0, a, L, k, hL, ha, hk => by
    obtain ⟨k, rfl⟩ : ∃ m, k = m + 1 := ⟨k - 1, by omega⟩
    simp only [spec_l3Beside.l2]
    rw [if_neg (by omega), w64_len (by omega) (by omega)]
    exact H L k hL (by omega)
  | d + 1, a, L, k, hL, ha, hk => by
    obtain ⟨k, rfl⟩ : ∃ m, k = m + 1 := ⟨k - 1, by omega⟩
    have ih := fill_some N i hN K H hi j hj d (a + 1) (L.set ((a : Int)).toNat 4) k (by simp [hL]) (by omega) (by omega)
    rw [show ((a + 1 : Nat) : Int) = (a : Int) + 1 from by omega] at ih
    simp only [spec_l3Beside.l2]
    rw [if_pos (by omega), if_pos (by omega), if_pos (by omega), w64_len (by omega) (by omega)]
    exact ih
theorem run_some (N i : Nat) (hN : N ≤ 81) (K : Nat) (H : ∀ (L : List Int) (k : Nat), L.length = N → K ≤ k → Ans N (spec_l3Beside.l0 k L ((i : Int) + 1))) (hi : i < N) (L : List Int) (hL : L.length = N) : ∀ (d j k : Nat), i ≤ j → j + d = N → K + N + d + 10 ≤ k → Ans N (spec_l3Beside.l1 k L (i : Int) (j : Int)) := by
  have hj3 : ∀ (x : Bool) (j k : Nat), i ≤ j → j ≤ N → K + N + 5 ≤ k → Ans N (spec_l3Beside.j3 k L (i : Int) (j : Int) x) := by
    intro x j k h1 h2 hk
    obtain ⟨k, rfl⟩ : ∃ m, k = m + 1 := ⟨k - 1, by omega⟩
    simp only [spec_l3Beside.j3]
    rw [w64_len (by omega) (by omega)]
    exact Ans.ite (fill_some N i hN K H (by omega) j h2 (j - i) i L k hL (by omega) (by omega)) (H L k hL (by omega))
  have hj2 : ∀ (j k : Nat), i ≤ j → j ≤ N → K + N + 6 ≤ k → Ans N (spec_l3Beside.j2 k L (i : Int) (j : Int)) := by
    intro j k h1 h2 hk
    obtain ⟨k, rfl⟩ : ∃ m, k = m + 1 := ⟨k - 1, by omega⟩
    simp only [spec_l3Beside.j2]
    have ht : Ans N (if (j : Int) < (L.length : Int) then (if 0 ≤ (j : Int) then (spec_l3Beside.j3 k L (i : Int) (j : Int) ((rd L (j : Int)) == 4)) else (none)) else (spec_l3Beside.j3 k L (i : Int) (j : Int) false)) := by
      refine Ans.ite ?_ (hj3 _ j k h1 h2 (by omega))
      rw [if_pos (by omega)]
      exact hj3 _ j k h1 h2 (by omega)
    by_cases h0 : (i : Int) > 0
    · rw [if_pos h0, w64 (x := (i : Int) - 1) (by omega) (by omega), if_pos (by omega), if_pos (by omega)]
      exact Ans.ite (hj3 _ j k h1 h2 (by omega)) ht
    · rw [if_neg h0]
      exact ht
  intro d
  induction d with
  | zero =>
    intro j k h1 h2 hk
    obtain ⟨k, rfl⟩ : ∃ m, k = m + 1 := ⟨k - 1, by omega⟩
    simp only [spec_l3Beside.l1]
    rw [if_neg (by omega)]
    exact hj2 j k h1 (by omega) (by omega)
  | succ d ih =>
    intro j k h1 h2 hk
    obtain ⟨k, rfl⟩ : ∃ m, k = m + 1 := ⟨k - 1, by omega⟩
    have := ih (j + 1) k (by omega) (by omega) (by omega)
    rw [show ((j + 1 : Nat) : Int) = (j : Int) + 1 from by omega] at this
    simp only [spec_l3Beside.l1]
    rw [if_pos (by omega), if_pos (by omega), w64_len (by omega) (by omega)]
    exact Ans.ite this (hj2 j k h1 (by omega) (by omega))
theorem besideS_some (N : Nat) (hN : N ≤ 81) : ∀ (n i : Nat) (L : List Int) (k : Nat), L.length = N → i + n = N → 300 * n + 1 ≤ k → Ans N (spec_l3Beside.l0 k L (i : Int))
  | 0, i, L, k, hL, hi, hk => by
    obtain ⟨k, rfl⟩ : ∃ m, k = m + 1 := ⟨k - 1, by omega⟩
    simp only [spec_l3Beside.l0]
    rw [if_neg (by omega)]
    exact ⟨L, rfl, hL⟩
  | n + 1, i, L, k, hL, hi, hk => by
    obtain ⟨k, rfl⟩ : ∃ m, k = m + 1 := ⟨k - 1, by omega⟩
    have H : ∀ (L' : List Int) (k' : Nat), L'.length = N → 300 * n + 1 ≤ k' → Ans N (spec_l3Beside.l0 k' L' ((i : Int) + 1)) := by
      intro L' k' h hk'
      have := besideS_some N hN n (i + 1) L' k' h (by omega) hk'
      rw [show ((i + 1 : Nat) : Int) = (i : Int) + 1 from by omega] at this
      exact this
    simp only [spec_l3Beside.l0]
    rw [if_pos (by omega), if_pos (by omega), w64_len (by omega) (by omega)]
    exact Ans.ite (run_some N i hN (300 * n + 1) H (by omega) L hL (N - i) i k (Nat.le_refl _) (by omega) (by omega)) (H L k hL (by omega))
theorem weak3_some (b : Int) (N : Nat) (hN : N ≤ 81) : ∀ (n i : Nat) (L : List Int) (k : Nat), L.length = N → i + n = N → n + 100 ≤ k → Ans N (spec_l3Weak.l3 k b L (i : Int))
  | 0, i, L, k, hL, hi, hk => by
    obtain ⟨k, rfl⟩ : ∃ m, k = m + 1 := ⟨k - 1, by omega⟩
    simp only [spec_l3Weak.l3]
    rw [if_neg (by omega)]
    exact ⟨L, rfl, hL⟩
  | n + 1, i, L, k, hL, hi, hk => by
    obtain ⟨k, rfl⟩ : ∃ m, k = m + 1 := ⟨k - 1, by omega⟩
    have ih := fun L' (h : L'.length = N) => weak3_some b N hN n (i + 1) L' k h (by omega) (by omega)
    rw [show ((i + 1 : Nat) : Int) = (i : Int) + 1 from by omega] at ih
    obtain ⟨v, hv⟩ := strong_ok L b (by omega) i k (by omega) (by omega)
    simp only [spec_l3Weak.l3]
    rw [if_pos (by omega), if_pos (by omega), w64_len (by omega) (by omega), hv]
    simp only [Option.bind_some]
    exact Ans.ite (Ans.ite (ih _ (by simp [hL])) (ih _ hL)) (ih _ hL)
theorem weak2_some (b : Int) (N : Nat) (hN : N ≤ 81) : ∀ (n i : Nat) (L : List Int) (k : Nat), L.length = N → i + n = N → n + 300 ≤ k → Ans N (spec_l3Weak.l2 k b L (i : Int))
  | 0, i, L, k, hL, hi, hk => by
    obtain ⟨k, rfl⟩ : ∃ m, k = m + 1 := ⟨k - 1, by omega⟩
    simp only [spec_l3Weak.l2]
    rw [if_neg (by omega)]
    exact weak3_some b N hN N 0 L k hL (by omega) (by omega)
  | n + 1, i, L, k, hL, hi, hk => by
    obtain ⟨k, rfl⟩ : ∃ m, k = m + 1 := ⟨k - 1, by omega⟩
    have ih := fun L' (h : L'.length = N) => weak2_some b N hN n (i + 1) L' k h (by omega) (by omega)
    rw [show ((i + 1 : Nat) : Int) = (i : Int) + 1 from by omega] at ih
    simp only [spec_l3Weak.l2, specIn, Option.bind_some]
    rw [if_pos (by omega), if_pos (by omega), w64_len (by omega) (by omega)]
    exact Ans.ite (ih _ (by simp [hL])) (Ans.ite (ih _ (by simp [hL])) (ih _ hL))
theorem weak1_some (b : Int) (N : Nat) (hN : N ≤ 81) : ∀ (n i : Nat) (L : List Int) (k : Nat), L.length = N → i + n = N → n + 30000 ≤ k → Ans N (spec_l3Weak.l1 k b L (i : Int))
  | 0, i, L, k, hL, hi, hk => by
    obtain ⟨k, rfl⟩ : ∃ m, k = m + 1 := ⟨k - 1, by omega⟩
    simp only [spec_l3Weak.l1]
    rw [if_neg (by omega)]
    have h1 : Ans N (spec_l3Between.f k L) := between_some N (by omega) N 1 L k hL (by omega) (by omega) (by omega)
    obtain ⟨u, e1, l1⟩ := h1
    have h2 : Ans N (spec_l3Beside.f k u) := besideS_some N hN N 0 u k l1 (by omega) (by omega)
    obtain ⟨u2, e2, l2⟩ := h2
    rw [e1]
    simp only [Option.bind_some]
    rw [e2]
    simp only [Option.bind_some]
    exact weak2_some b N hN N 0 u2 k l2 (by omega) (by omega)
  | n + 1, i, L, k, hL, hi, hk => by
    obtain ⟨k, rfl⟩ : ∃ m, k = m + 1 := ⟨k - 1, by omega⟩
    have ih := fun L' (h : L'.length = N) => weak1_some b N hN n (i + 1) L' k h (by omega) (by omega)
    rw [show ((i + 1 : Nat) : Int) = (i : Int) + 1 from by omega] at ih
    simp only [spec_l3Weak.l1]
    rw [if_pos (by omega), if_pos (by omega), w64_len (by omega) (by omega)]
    exact Ans.ite (ih _ (by simp [hL])) (ih _ hL)
theorem weak0_some (b : Int) (N : Nat) (hN : N ≤ 81) : ∀ (n i : Nat) (L : List Int) (k : Nat), L.length = N → i + n = N → n + 31000 ≤ k → Ans N (spec_l3Weak.l0 k b L (i : Int))
  | 0, i, L, k, hL, hi, hk => by
    obtain ⟨k, rfl⟩ : ∃ m, k = m + 1 := ⟨k - 1, by omega⟩
    simp only [spec_l3Weak.l0]
    rw [if_neg (by omega)]
    exact weak1_some b N hN N 0 L k hL (by omega) (by omega)
  | n + 1, i, L, k, hL, hi, hk => by
    obtain ⟨k, rfl⟩ : ∃ m, k = m + 1 := ⟨k - 1, by omega⟩
    have ih := fun L' (h : L'.length = N) => weak0_some b N hN n (i + 1) L' k h (by omega) (by omega)
    rw [show ((i + 1 : Nat) : Int) = (i : Int) + 1 from by omega] at ih
    obtain ⟨v, hv⟩ := strong_ok L b (by omega) i k (by omega) (by omega)
    simp only [spec_l3Weak.l0]
    rw [if_pos (by omega), if_pos (by omega), w64_len (by omega) (by omega), hv]
    simp only [Option.bind_some]
    exact Ans.ite (Ans.ite (ih _ (by simp [hL])) (ih _ hL)) (ih _ hL)
theorem weak_some (l : List Int) (b : Int) (hl : l.length ≤ 81) (k : Nat) (hk : 32000 ≤ k) : Ans l.length (spec_l3Weak.f k l b) := by
  obtain ⟨u, e, h⟩ : Ans l.length (spec_l3Marks.f k l b) := marks_some b l.length (by omega) l.length 0 l k rfl (by omega) (by omega)
  unfold spec_l3Weak.f
  simp only [Option.bind_some, List.length_nil, List.nil_append]
  rw [if_pos (by omega), e]
  simp only [Option.bind_some]
  exact weak0_some b l.length hl l.length 0 u k h (by omega) (by omega)

/-! what is drawn: a reader of bytes -/
theorem xor_i64 (a b : Nat) (ha : a < 2 ^ 40) (hb : b < 2 ^ 40) : bits .xor .i64 (a : Int) (b : Int) = ((a ^^^ b : Nat) : Int) := by
  have hp : (2 : Nat) ^ 40 ≤ 2 ^ IntKind.i64.bits := by decide
  have ha' : a % 2 ^ IntKind.i64.bits = a := Nat.mod_eq_of_lt (Nat.lt_of_lt_of_le ha hp)
  have hb' : b % 2 ^ IntKind.i64.bits = b := Nat.mod_eq_of_lt (Nat.lt_of_lt_of_le hb hp)
  simp only [bits, BitVec.ofInt_natCast, BitVec.toNat_xor, BitVec.toNat_ofNat, ha', hb']
  have h := Nat.xor_lt_two_pow ha hb
  rw [IntKind.wrap_i64]
  omega
theorem xor_pos {x y : Int} (hx : 0 ≤ x) (hx' : x < 1099511627776) (hy : 0 ≤ y) (hy' : y < 1099511627776) : 0 ≤ bits .xor .i64 x y ∧ bits .xor .i64 x y < 1099511627776 := by
  obtain ⟨a, rfl⟩ := Int.eq_ofNat_of_zero_le hx
  obtain ⟨b, rfl⟩ := Int.eq_ofNat_of_zero_le hy
  have ha : a < 2 ^ 40 := by omega
  have hb : b < 2 ^ 40 := by omega
  rw [xor_i64 a b ha hb]
  have h := Nat.xor_lt_two_pow ha hb
  omega
theorem tmod_in {x n : Int} (hx : 0 ≤ x) (hn : 0 < n) : 0 ≤ Int.tmod x n ∧ Int.tmod x n < n := by
  rw [Int.tmod_eq_emod_of_nonneg hx]
  exact ⟨Int.emod_nonneg _ (by omega), Int.emod_lt_of_pos _ hn⟩
theorem tdiv_in {x n : Int} (hx : 0 ≤ x) (hn : 0 < n) : 0 ≤ Int.tdiv x n ∧ Int.tdiv x n ≤ x := by
  rw [Int.tdiv_eq_ediv_of_nonneg hx]
  exact ⟨Int.ediv_nonneg hx (by omega), Int.ediv_le_self _ hx⟩
/-- bytes -/
def Bytes (b : List Int) : Prop := b.length ≤ 2000 ∧ ∀ x ∈ b, 0 ≤ x ∧ x ≤ 255
theorem rd_byte {b : List Int} (hb : Bytes b) {i : Int} (h : i < b.length) (h0 : 0 ≤ i) : 0 ≤ rd b i ∧ rd b i ≤ 255 := by
  unfold rd
  have hi : i.toNat < b.length := by omega
  rw [List.getD_eq_getElem?_getD, List.getElem?_eq_getElem hi]
  exact hb.2 _ (List.getElem_mem hi)
theorem pick_ok {b : List Int} (hb : Bytes b) (p n : Int) (hp : 0 ≤ p) (hp' : p ≤ 1000000) (k : Nat) (hk : 1 ≤ k) :
    ∃ v, spec_l1Rd_pick.f k b p n = some (v, p + 1) ∧ 0 ≤ v ∧ (1 ≤ n → v < n) ∧ (n < 1 → v = 0) := by
  obtain ⟨k, rfl⟩ : ∃ m, k = m + 1 := ⟨k - 1, by omega⟩
  have hl := hb.1
  have e1 : wrap64 (p + 1) = p + 1 := w64 (by omega) (by omega)
  have e2 : wrap64 (p + 1 - 1) = p := by rw [w64 (by omega) (by omega)]; omega
  unfold spec_l1Rd_pick.f
  by_cases hn : n < 1
  · rw [if_pos hn, e1]
    simp only [spec_l1Rd_pick.j0, if_true]
    exact ⟨0, rfl, by omega, by omega, fun _ => rfl⟩
  · rw [if_neg hn, e1]
    by_cases h0 : b.length = 0
    · have e0 : ((b.length : Int) == 0) = true := by simp [h0]
      simp only [spec_l1Rd_pick.j0, e0, if_true]
      exact ⟨0, rfl, by omega, by omega, fun _ => rfl⟩
    · have e0 : ((b.length : Int) == 0) = false := by simp; intro h; exact h0 (by rw [h]; rfl)
      have hlen : (0 : Int) < b.length := by omega
      simp only [spec_l1Rd_pick.j0, e0, e2, Bool.false_eq_true, if_false]
      have hn0 : ¬ n = 0 := by omega
      by_cases hlt : p < (b.length : Int)
      · rw [if_pos hlt, if_pos hp, if_neg hn0]
        obtain ⟨r0, r1⟩ := rd_byte hb hlt hp
        rw [w64 (by omega) (by omega)]
        have h := tmod_in r0 (show 0 < n by omega)
        exact ⟨_, rfl, h.1, fun _ => h.2, fun h' => absurd h' hn⟩
      · have m1 := tmod_in hp hlen
        have e7 : wrap64 (wrap64 (p * 7) + 3) = p * 7 + 3 := by rw [w64 (x := p * 7) (by omega) (by omega), w64 (by omega) (by omega)]
        have m2 := tmod_in (show 0 ≤ p * 7 + 3 by omega) hlen
        have r1 := rd_byte hb m1.2 m1.1
        have r2 := rd_byte hb m2.2 m2.1
        have d1 := tdiv_in hp hlen
        rw [if_neg hlt, if_neg (by omega), if_pos m1.1, if_pos m1.2, e7, if_pos m2.1, if_pos m2.2, if_neg hn0]
        generalize rd b (Int.tmod p (b.length : Int)) = x1 at *
        generalize rd b (Int.tmod (p * 7 + 3) (b.length : Int)) = x2 at *
        generalize Int.tdiv p (b.length : Int) = x3 at *
        have eX : wrap64 (wrap64 (wrap64 (wrap64 (wrap64 x1 * 131) + wrap64 (wrap64 x2 * 1117)) + wrap64 (p * 29)) + wrap64 (wrap64 x3 * 53)) = x1 * 131 + x2 * 1117 + p * 29 + x3 * 53 := by
          rw [w64 (x := x1) (by omega) (by omega), w64 (x := x2) (by omega) (by omega), w64 (x := x3) (by omega) (by omega), w64 (x := x1 * 131) (by omega) (by omega), w64 (x := x2 * 1117) (by omega) (by omega), w64 (x := p * 29) (by omega) (by omega), w64 (x := x3 * 53) (by omega) (by omega), w64 (x := x1 * 131 + x2 * 1117) (by omega) (by omega), w64 (x := x1 * 131 + x2 * 1117 + p * 29) (by omega) (by omega), w64 (by omega) (by omega)]
        rw [eX]
        have hX0 : 0 ≤ x1 * 131 + x2 * 1117 + p * 29 + x3 * 53 := by omega
        have hX1 : x1 * 131 + x2 * 1117 + p * 29 + x3 * 53 < 1000000000 := by omega
        generalize x1 * 131 + x2 * 1117 + p * 29 + x3 * 53 = X at *
        have d2 := tdiv_in hX0 (show (0 : Int) < 64 by omega)
        rw [w64 (x := Int.tdiv X 64) (by omega) (by omega)]
        have hx := xor_pos hX0 (by omega) d2.1 (by omega)
        have h := tmod_in hx.1 (show 0 < n by omega)
        exact ⟨_, rfl, h.1, fun _ => h.2, fun h' => absurd h' hn⟩
theorem open_ok {l : List Int} (h : ∀ x ∈ l, (Lit.int .u8 x).wf = true) : ∃ b, spec_l1Open.f l = some (b, 0) ∧ Bytes b := by
  unfold spec_l1Open.f
  by_cases h1 : (l.length : Int) > 2000
  · rw [if_pos h1, if_pos (by omega)]
    exact ⟨_, rfl, by rw [List.length_take]; omega, fun x hx => in_u8 (h x (List.mem_of_mem_take hx))⟩
  · rw [if_neg h1]
    exact ⟨_, rfl, by omega, fun x hx => in_u8 (h x hx)⟩

theorem one_ok {b : List Int} (hb : Bytes b) (p : Int) (hp : 0 ≤ p) (hp' : p ≤ 1000000) (l : List Int) (hl : 1 ≤ l.length) (k : Nat) (hk : 1 ≤ k) :
    ∃ v, spec_l1Rd_one.f k b p l = some (v, p + 1) ∧ v ∈ l := by
  obtain ⟨v, e, h0, h1, _⟩ := pick_ok hb p (l.length : Int) hp hp' k hk
  unfold spec_l1Rd_one.f
  rw [e]
  simp only [Option.bind_some]
  have h2 := h1 (by omega)
  rw [if_pos h0, if_pos h2]
  refine ⟨_, rfl, ?_⟩
  unfold rd
  have hi : v.toNat < l.length := by omega
  rw [List.getD_eq_getElem?_getD, List.getElem?_eq_getElem hi]
  exact List.getElem_mem hi

theorem wcInts_l0 : ∀ (suf pre : List Int) (k : Nat), (pre ++ suf).length ≤ 4000000 → suf.length + 1 ≤ k → laws_wcInts.l0 k (pre ++ suf) (pre ++ suf) (pre.length : Int) = some true
  | [], pre, k, hl, hk => by
    obtain ⟨k, rfl⟩ : ∃ m, k = m + 1 := ⟨k - 1, by simp at hk; omega⟩
    simp only [laws_wcInts.l0]
    rw [if_neg (len_end pre)]
  | x :: suf, pre, k, hl, hk => by
    obtain ⟨k, rfl⟩ : ∃ m, k = m + 1 := ⟨k - 1, by simp at hk; omega⟩
    simp only [laws_wcInts.l0]
    have hp : (pre.length : Int) ≤ 4000000 := by simp at hl; omega
    rw [if_pos (len_mid pre x suf), if_pos (by omega), if_pos (len_mid pre x suf), if_pos trivial, w64_len (by omega) (by omega), ← len_snoc pre x, app_cons pre x suf]
    exact wcInts_l0 suf (pre ++ [x]) k (by simpa using hl) (by simp at hk; omega)
theorem wcInts_ok (l : List Int) (hl : l.length ≤ 4000000) (k : Nat) (hk : l.length + 1 ≤ k) : laws_wcInts.f k l l = some true := by
  unfold laws_wcInts.f
  rw [if_pos rfl]
  exact wcInts_l0 l [] k (by simpa using hl) hk

theorem wcIn (a b c : Int) : laws_wcIn.f a b c = some (decide (b ≤ a ∧ a ≤ c)) := by
  unfold laws_wcIn.f
  by_cases h1 : b ≤ a <;> by_cases h2 : a ≤ c <;> simp [h1, h2]
section
variable (p : Int → Bool) (f : Int → Int → Int)
theorem getD_rep (n : Nat) (v : Int) (t : List Int) (j : Nat) (h : j < n) : (List.replicate n v ++ t).getD j 0 = v := by
  rw [List.getD_eq_getElem?_getD, List.getElem?_append_left (by simp; exact h), List.getElem?_replicate, if_pos h]
  rfl
theorem getD_rep' (n : Nat) (v : Int) (t : List Int) (j : Nat) : (List.replicate n v ++ t).getD (n + j) 0 = t.getD j 0 := by
  rw [List.getD_eq_getElem?_getD, List.getElem?_append_right (by simp), List.getD_eq_getElem?_getD]
  simp
theorem bes_ahead : ∀ (xs : List Int) (ah : Int) (n j : Nat), j < n → ∃ b, (besR p f ah n xs).getD j 0 = f ah b
  | [], ah, n, j, h => ⟨0, by
    have := getD_rep n (f ah 0) [] j h
    rw [List.append_nil] at this
    exact this⟩
  | x :: xs, ah, n, j, h => by
    unfold besR
    split
    · exact bes_ahead xs ah (n + 1) j (by omega)
    · exact ⟨x, getD_rep n _ _ j h⟩
theorem bes_at : ∀ (xs : List Int) (ah : Int) (n i : Nat), i < xs.length → (p (xs.getD i 0) = false → (besR p f ah n xs).getD (n + i) 0 = xs.getD i 0) ∧ (p (xs.getD i 0) = true → ∃ a b, (besR p f ah n xs).getD (n + i) 0 = f a b)
  | [], ah, n, i, h => by simp at h
  | x :: xs, ah, n, 0, h => by
    simp only [List.getD_cons_zero, Nat.add_zero]
    unfold besR
    constructor
    · intro hp
      rw [if_neg (by rw [hp]; simp)]
      exact getD_rep' n (f ah x) (x :: besR p f x 0 xs) 0
    · intro hp
      rw [if_pos hp]
      obtain ⟨b, hb⟩ := bes_ahead p f xs ah (n + 1) n (by omega)
      exact ⟨ah, b, hb⟩
  | x :: xs, ah, n, i + 1, h => by
    simp only [List.length_cons] at h
    simp only [List.getD_cons_succ]
    unfold besR
    by_cases hx : p x = true
    · rw [if_pos hx]
      have := bes_at xs ah (n + 1) i (by omega)
      rw [show n + 1 + i = n + (i + 1) from by omega] at this
      exact this
    · rw [if_neg hx, getD_rep', List.getD_cons_succ]
      have := bes_at xs x 0 i (by omega)
      rw [Nat.zero_add] at this
      exact this
theorem bes_mid : ∀ (xs : List Int) (ah : Int) (n i : Nat), i + 2 < xs.length → p (xs.getD i 0) = false → p (xs.getD (i + 1) 0) = true → p (xs.getD (i + 2) 0) = false → (besR p f ah n xs).getD (n + (i + 1)) 0 = f (xs.getD i 0) (xs.getD (i + 2) 0)
  | [], ah, n, i, h, _, _, _ => by simp only [List.length_nil] at h; omega
  | [x], ah, n, i, h, _, _, _ => by simp only [List.length_cons, List.length_nil] at h; omega
  | [x, y], ah, n, i, h, _, _, _ => by simp only [List.length_cons, List.length_nil] at h; omega
  | x :: y :: z :: r, ah, n, 0, h, h0, h1, h2 => by
    simp only [List.getD_cons_zero, List.getD_cons_succ, Nat.zero_add] at h0 h1 h2 ⊢
    have e : besR p f ah n (x :: y :: z :: r) = List.replicate n (f ah x) ++ x :: (List.replicate 1 (f x z) ++ z :: besR p f z 0 r) := by
      simp [besR, h0, h1, h2]
    rw [e, getD_rep', List.getD_cons_succ, getD_rep 1 _ _ 0 (by omega)]
  | x :: y :: z :: r, ah, n, i + 1, h, h0, h1, h2 => by
    simp only [List.length_cons] at h
    rw [List.getD_cons_succ] at h0
    rw [show i + 1 + 1 = (i + 1) + 1 from rfl, List.getD_cons_succ] at h1
    rw [show i + 1 + 2 = (i + 2) + 1 from rfl, List.getD_cons_succ] at h2
    rw [List.getD_cons_succ, show i + 1 + 2 = (i + 2) + 1 from rfl, List.getD_cons_succ, besR]
    by_cases hx : p x = true
    · rw [if_pos hx]
      have := bes_mid (y :: z :: r) ah (n + 1) i (by simp; omega) h0 h1 h2
      rw [show n + 1 + (i + 1) = n + (i + 1 + 1) from by omega] at this
      exact this
    · rw [if_neg hx, getD_rep', List.getD_cons_succ]
      have := bes_mid (y :: z :: r) x 0 i (by simp; omega) h0 h1 h2
      rw [Nat.zero_add] at this
      exact this
theorem bes_none : ∀ (xs : List Int) (ah : Int), (∀ x ∈ xs, p x = false) → besR p f ah 0 xs = xs
  | [], ah, _ => rfl
  | x :: xs, ah, h => by
    have h1 := h x List.mem_cons_self
    unfold besR
    rw [if_neg (by rw [h1]; simp), bes_none xs x (fun y hy => h y (List.mem_cons_of_mem _ hy))]
    rfl
end
theorem plain_12 {x : Int} (h : x = 1 ∨ x = 2) : plainL x = false := by
  unfold plainL
  rw [decide_eq_false (by omega)]
theorem side_same (b a lv s : Int) (h : s = 1 ∨ s = 2) : sideBy b a lv s s = s := by
  have e : leanL s = s := by
    unfold leanL
    rcases h with rfl | rfl <;> decide
  have h0 : ¬ s = 0 := by omega
  unfold sideBy
  simp only [if_neg h0, e]
  rw [if_pos ⟨trivial, h0⟩]
theorem lp_l0 (v x : List Int) (b a lv : Int) (hv : v.length ≤ 81) (hx : x.length = v.length) (ha : levelPlainL x b a lv = x)
    (h1 : ∀ i, i < v.length → (plainL (v.getD i 0) = false → x.getD i 0 = v.getD i 0) ∧ (plainL (v.getD i 0) = true → x.getD i 0 = 1 ∨ x.getD i 0 = 2))
    (h2 : ∀ i, i + 2 < v.length → plainL (v.getD (i + 1) 0) = true → v.getD i 0 = v.getD (i + 2) 0 → (v.getD i 0 = 1 ∨ v.getD i 0 = 2) → x.getD (i + 1) 0 = v.getD i 0) :
    ∀ (n i k : Nat), i + n = v.length → 3 * n + 100 ≤ k → laws_FnLevelPlain.l0 k v b a lv x (i : Int) = some true
  | 0, i, k, hi, hk => by
    obtain ⟨k, rfl⟩ : ∃ m, k = m + 1 := ⟨k - 1, by omega⟩
    simp only [laws_FnLevelPlain.l0]
    rw [if_neg (by omega), implLevelPlain, ha]
    simp only [Option.bind_some]
    rw [wcInts_ok x (by omega) k (by omega)]
    rfl
  | n + 1, i, k, hi, hk => by
    obtain ⟨k, rfl⟩ : ∃ m, k = m + 3 := ⟨k - 3, by omega⟩
    have ih := lp_l0 v x b a lv hv hx ha h1 h2 n (i + 1) k (by omega) (by omega)
    rw [show ((i + 1 : Nat) : Int) = (i : Int) + 1 from by omega] at ih
    have p0 : (0 : Int) ≤ (i : Int) := by omega
    have pl : (i : Int) < (v.length : Int) := by omega
    have pl' : (i : Int) < (x.length : Int) := by omega
    have hw : wrap64 ((i : Int) + 1) = (i : Int) + 1 := w64_len (by omega) (by omega)
    have hpl : laws_FnLevelPlain.l0 (k + 3) v b a lv x (i : Int) = laws_FnLevelPlain.j2 (k + 2) v b a lv x (i : Int) (plainL (v.getD i 0)) := by
      simp only [laws_FnLevelPlain.l0]
      rw [if_pos pl, if_pos p0, wcIn, rd_nat]
      simp only [Option.bind_some, decide_eq_true_eq]
      unfold plainL
      by_cases c : 11 ≤ v.getD i 0 ∧ v.getD i 0 ≤ 13
      · rw [if_pos c, decide_eq_true (show v.getD i 0 = 11 ∨ v.getD i 0 = 12 ∨ v.getD i 0 = 13 ∨ 19 ≤ v.getD i 0 by omega)]
      · rw [if_neg c]
        congr 1
        rw [decide_eq_decide]
        omega
    rw [hpl]
    obtain ⟨g1, g2⟩ := h1 i (by omega)
    cases hp : plainL (v.getD i 0) with
    | false =>
      simp only [laws_FnLevelPlain.j2, Bool.false_eq_true, if_false]
      rw [if_pos p0, if_pos pl', if_pos pl, rd_nat, rd_nat, g1 hp]
      simp only [laws_FnLevelPlain.j3, bne_self_eq_false, Bool.false_eq_true, if_false]
      rw [hw, ih]
    | true =>
      have hj3 : laws_FnLevelPlain.j3 (k + 1) v b a lv x (i : Int) true false = some true := by
        simp only [laws_FnLevelPlain.j3, Bool.false_eq_true, if_false, if_true]
        rw [hw, ih]
        cases i with
        | zero => rw [if_neg (by omega)]
        | succ i =>
          rw [if_pos (by omega), w64 (x := ((i + 1 : Nat) : Int) - 1) (by omega) (by omega)]
          by_cases c : ((i + 1 : Nat) : Int) + 1 < (v.length : Int)
          · rw [if_pos c, if_pos (by omega), if_pos (by omega), if_pos (by omega), show ((i + 1 : Nat) : Int) - 1 = (i : Int) from by omega, show ((i + 1 : Nat) : Int) + 1 = ((i + 2 : Nat) : Int) from by omega, rd_nat, rd_nat, rd_nat]
            by_cases c2 : v.getD i 0 = v.getD (i + 2) 0
            · rw [if_pos c2]
              by_cases c3 : v.getD i 0 = 1
              · rw [if_pos c3, if_pos (by omega), if_pos pl', if_pos (h2 i (by omega) hp c2 (.inl c3))]
              · rw [if_neg c3]
                by_cases c4 : v.getD i 0 = 2
                · rw [if_pos c4, if_pos (by omega), if_pos pl', if_pos (h2 i (by omega) hp c2 (.inr c4))]
                · rw [if_neg c4]
            · rw [if_neg c2]
          · rw [if_neg c]
      simp only [laws_FnLevelPlain.j2, if_true]
      rw [if_pos p0, if_pos pl', rd_nat]
      rcases g2 hp with e | e
      · rw [if_pos e]
        exact hj3
      · rw [if_neg (by omega), if_pos e]
        exact hj3
theorem classes_l0 {b : List Int} (hb : Bytes b) : ∀ (n : Nat) (out : List Int) (p : Int) (k : Nat), out.length + n ≤ 20 → 0 ≤ p → p + 5 * n ≤ 1000 → n + 5 ≤ k → ∃ v q, spec_l13Classes.l0 k out (n : Int) b p = some (v, q) ∧ v.length ≤ 21 ∧ p ≤ q ∧ q ≤ p + 5 * n + 5
  | 0, out, p, k, ho, hp, hp', hk => by
    obtain ⟨k, rfl⟩ : ∃ m, k = m + 1 := ⟨k - 1, by omega⟩
    obtain ⟨a, p1, p2, p3, _⟩ := pick_ok hb p 20 hp (by omega) k (by omega)
    simp only [spec_l13Classes.l0]
    rw [if_neg (by omega)]
    by_cases h : a = 0
    · obtain ⟨x, s1, s2⟩ := one_ok hb (p + 1) (by omega) (by omega) [0, 23, -1] (by simp) k (by omega)
      refine ⟨out ++ [x], p + 1 + 1, Option.bind_eq_some_iff.2 ⟨(a, p + 1), p1, ?_⟩, by simp; omega, by omega, by omega⟩
      show (if a = 0 then _ else _) = _
      rw [if_pos h]
      refine Option.bind_eq_some_iff.2 ⟨(x, p + 1 + 1), s1, ?_⟩
      show (if out.length < 17592186044416 then _ else _) = _
      rw [if_pos (by omega)]
    · refine ⟨out, p + 1, Option.bind_eq_some_iff.2 ⟨(a, p + 1), p1, ?_⟩, by omega, by omega, by omega⟩
      show (if a = 0 then _ else _) = _
      rw [if_neg h]
  | n + 1, out, p, k, ho, hp, hp', hk => by
    obtain ⟨k, rfl⟩ : ∃ m, k = m + 1 := ⟨k - 1, by omega⟩
    obtain ⟨v1, e1, a1, b1, _⟩ := pick_ok hb p 9 hp (by omega) k (by omega)
    obtain ⟨v2, e2, a2, b2, _⟩ := pick_ok hb (p + 1) 8 (by omega) (by omega) k (by omega)
    obtain ⟨v3, e3, a3, b3, _⟩ := pick_ok hb (p + 1 + 1) 3 (by omega) (by omega) k (by omega)
    obtain ⟨v4, e4, a4, b4, _⟩ := pick_ok hb (p + 1 + 1 + 1) 4 (by omega) (by omega) k (by omega)
    obtain ⟨v5, e5, a5, b5, _⟩ := pick_ok hb (p + 1 + 1 + 1 + 1) 4 (by omega) (by omega) k (by omega)
    have c5 := b5 (by omega)
    obtain ⟨v, q, g1, g2, g3, g4⟩ := classes_l0 hb n (out ++ [rd [wrap64 (1 + v1), wrap64 (1 + v2), wrap64 (11 + v3), wrap64 (19 + v4)] v5]) (p + 1 + 1 + 1 + 1 + 1) k (by simp; omega) (by omega) (by omega) (by omega)
    refine ⟨v, q, ?_, g2, by omega, by omega⟩
    simp only [spec_l13Classes.l0]
    rw [if_pos (by omega)]
    refine Option.bind_eq_some_iff.2 ⟨(v1, p + 1), e1, Option.bind_eq_some_iff.2 ⟨(v2, p + 1 + 1), e2, Option.bind_eq_some_iff.2 ⟨(v3, p + 1 + 1 + 1), e3, Option.bind_eq_some_iff.2 ⟨(v4, p + 1 + 1 + 1 + 1), e4, Option.bind_eq_some_iff.2 ⟨_, rfl, Option.bind_eq_some_iff.2 ⟨(v5, p + 1 + 1 + 1 + 1 + 1), e5, ?_⟩⟩⟩⟩⟩⟩
    show (if 0 ≤ v5 then (if v5 < (4 : Int) then (if out.length < 17592186044416 then (spec_l13Classes.l0 k (out ++ [rd [wrap64 (1 + v1), wrap64 (1 + v2), wrap64 (11 + v3), wrap64 (19 + v4)] v5]) (wrap64 (((n + 1 : Nat) : Int) - 1)) b (p + 1 + 1 + 1 + 1 + 1)) else none) else none) else none) = _
    have e : wrap64 (((n + 1 : Nat) : Int) - 1) = (n : Int) := by rw [w64 (by omega) (by omega)]; omega
    rw [if_pos a5, if_pos c5, if_pos (by omega), e]
    exact g1
theorem draw_plain {l b : List Int} (e : spec_l1Open.f l = some (b, 0)) (hb : Bytes b) (K : Nat) (hK : 40000 ≤ K) :
    ∃ (v : List Int) (x y z : Int), spec_DrawLevelPlain.f K l = some (v, x, y, z) ∧ v.length ≤ 81 := by
  have hcl : ∃ v q, spec_l13Classes.f K b 0 = some (v, q) ∧ v.length ≤ 21 ∧ 0 ≤ q ∧ q ≤ 200 := by
    obtain ⟨n, e0, h0, h1, _⟩ := pick_ok hb 0 14 (by omega) (by omega) K (by omega)
    have h2 := h1 (by omega)
    obtain ⟨m, rfl⟩ := Int.eq_ofNat_of_zero_le h0
    obtain ⟨v, q, g1, g2, g3, g4⟩ := classes_l0 hb m [] (0 + 1) K (by simp; omega) (by omega) (by omega) (by omega)
    exact ⟨v, q, Option.bind_eq_some_iff.2 ⟨((m : Int), 0 + 1), e0, g1⟩, g2, by omega, by omega⟩
  obtain ⟨v, q, g1, g2, g3, g4⟩ := hcl
  obtain ⟨c, e1, _, _, _⟩ := pick_ok hb q 2 (by omega) (by omega) K (by omega)
  obtain ⟨c2, e2, _, _, _⟩ := pick_ok hb (q + 1) 2 (by omega) (by omega) K (by omega)
  obtain ⟨c3, e3, _, _, _⟩ := pick_ok hb (q + 1 + 1) 2 (by omega) (by omega) K (by omega)
  obtain ⟨c4, e4, _, _, _⟩ := pick_ok hb (q + 1 + 1 + 1) 4 (by omega) (by omega) K (by omega)
  by_cases hc : c = 0
  · have hw : ∃ u, spec_LevelWeak.f K v 1 = some u ∧ u.length ≤ 81 := by
      unfold spec_LevelWeak.f
      rw [specClasses v (by omega) K (by omega), specSide]
      simp only [Option.bind_some]
      by_cases h : okC v = true
      · rw [if_pos h, if_pos (by decide)]
        obtain ⟨u, e, hu⟩ := weak_some v 1 (by omega) K (by omega)
        rw [e]
        exact ⟨u, rfl, by omega⟩
      · rw [if_neg h]
        exact ⟨[], rfl, by simp⟩
    obtain ⟨u, w1, w2⟩ := hw
    refine ⟨u, wrap64 (1 + c2), wrap64 (1 + c3), c4, ?_, w2⟩
    unfold spec_DrawLevelPlain.f
    refine Option.bind_eq_some_iff.2 ⟨(b, 0), e, Option.bind_eq_some_iff.2 ⟨(v, q), g1, Option.bind_eq_some_iff.2 ⟨(c, q + 1), e1, ?_⟩⟩⟩
    show (if c = 0 then _ else _) = _
    rw [if_pos hc]
    exact Option.bind_eq_some_iff.2 ⟨u, w1, Option.bind_eq_some_iff.2 ⟨(c2, q + 1 + 1), e2, Option.bind_eq_some_iff.2 ⟨(c3, q + 1 + 1 + 1), e3, Option.bind_eq_some_iff.2 ⟨(c4, q + 1 + 1 + 1 + 1), e4, rfl⟩⟩⟩⟩
  · refine ⟨v, wrap64 (1 + c2), wrap64 (1 + c3), c4, ?_, by omega⟩
    unfold spec_DrawLevelPlain.f
    refine Option.bind_eq_some_iff.2 ⟨(b, 0), e, Option.bind_eq_some_iff.2 ⟨(v, q), g1, Option.bind_eq_some_iff.2 ⟨(c, q + 1), e1, ?_⟩⟩⟩
    show (if c = 0 then _ else _) = _
    rw [if_neg hc]
    exact Option.bind_eq_some_iff.2 ⟨(c2, q + 1 + 1), e2, Option.bind_eq_some_iff.2 ⟨(c3, q + 1 + 1 + 1), e3, Option.bind_eq_some_iff.2 ⟨(c4, q + 1 + 1 + 1 + 1), e4, rfl⟩⟩⟩
theorem mem_getD {l : List Int} {x : Int} (h : x ∈ l) : ∃ i, i < l.length ∧ l.getD i 0 = x := by
  obtain ⟨i, hi, e⟩ := List.getElem_of_mem h
  exact ⟨i, hi, by rw [List.getD_eq_getElem?_getD, List.getElem?_eq_getElem hi]; exact e⟩
theorem getD_mem {l : List Int} {i : Nat} (h : i < l.length) : l.getD i 0 ∈ l := by
  rw [List.getD_eq_getElem?_getD, List.getElem?_eq_getElem h]
  exact List.getElem_mem _
theorem lp_end (K : Nat) (hK : 40000 ≤ K) (v : List Int) (b a lv : Int) (hv : v.length ≤ 81) :
    laws_FnLevelPlain.j0 (K + 1) v b a lv (levelPlainL v b a lv) (((levelPlainL v b a lv).length : Int) == 0) = some true := by
  have hlen := levelPlainL_len v b a lv
  simp only [laws_FnLevelPlain.j0]
  by_cases hz : ((levelPlainL v b a lv).length : Int) = 0
  · rw [if_pos (by simp only [beq_iff_eq]; exact hz), specLevelPlain v b a lv (by omega) K (by omega)]
    simp only [Option.bind_some]
    rw [wcInts_ok _ (by omega) K (by omega)]
    rfl
  · rw [if_neg (by simp only [beq_iff_eq]; exact hz)]
    by_cases hc : okC v = true ∧ isSd b = true ∧ isSd a = true ∧ 0 ≤ lv ∧ lv ≤ 22
    · have e : levelPlainL v b a lv = besR plainL (sideBy b a lv) 0 0 v := by unfold levelPlainL; rw [if_pos hc]
      have h80 := okC_len hc.1
      have hxl : (besR plainL (sideBy b a lv) 0 0 v).length = v.length := by rw [besR_len]; omega
      have h1 : ∀ i, i < v.length → (plainL (v.getD i 0) = false → (besR plainL (sideBy b a lv) 0 0 v).getD i 0 = v.getD i 0) ∧ (plainL (v.getD i 0) = true → (besR plainL (sideBy b a lv) 0 0 v).getD i 0 = 1 ∨ (besR plainL (sideBy b a lv) 0 0 v).getD i 0 = 2) := by
        intro i hi
        have := bes_at plainL (sideBy b a lv) v 0 0 i hi
        rw [Nat.zero_add] at this
        refine ⟨this.1, fun g => ?_⟩
        obtain ⟨c, d, hcd⟩ := this.2 g
        rw [hcd]
        exact side_12 b a lv c d (isSd_iff.1 hc.2.1)
      have hplain : ∀ x ∈ besR plainL (sideBy b a lv) 0 0 v, plainL x = false ∧ 1 ≤ x ∧ x ≤ 22 := by
        intro x hx
        obtain ⟨i, hi, rfl⟩ := mem_getD hx
        rw [hxl] at hi
        have := h1 i hi
        cases hp : plainL (v.getD i 0) with
        | false =>
          rw [this.1 hp]
          exact ⟨hp, okC_mem hc.1 _ (getD_mem hi)⟩
        | true =>
          have h12 := this.2 hp
          exact ⟨plain_12 h12, by omega, by omega⟩
      have hok : okC (besR plainL (sideBy b a lv) 0 0 v) = true := by
        unfold okC
        rw [Bool.and_eq_true, decide_eq_true_eq, Bool.not_eq_true', List.any_eq_false]
        refine ⟨by omega, fun x hx => ?_⟩
        have := (hplain x hx).2
        unfold noCl
        simp
        omega
      have hagain : levelPlainL (besR plainL (sideBy b a lv) 0 0 v) b a lv = besR plainL (sideBy b a lv) 0 0 v := by
        unfold levelPlainL
        rw [if_pos ⟨hok, hc.2.1, hc.2.2.1, hc.2.2.2.1, hc.2.2.2.2⟩]
        exact bes_none plainL _ _ 0 (fun x hx => (hplain x hx).1)
      rw [e]
      refine lp_l0 v _ b a lv hv hxl hagain h1 (fun i hi hp he h12 => ?_) v.length 0 K (by omega) (by omega)
      have h3 : plainL (v.getD i 0) = false := plain_12 h12
      have := bes_mid plainL (sideBy b a lv) v 0 0 i hi h3 hp (by rw [← he]; exact h3)
      rw [Nat.zero_add, ← he, side_same b a lv _ h12] at this
      exact this
    · exfalso
      apply hz
      unfold levelPlainL
      rw [if_neg hc]
      rfl
theorem FnLevelPlain : laws_FnLevelPlain.Pure := by
  intro l _ _ hl
  obtain ⟨K, hK⟩ : ∃ K : Nat, 40000 ≤ K := ⟨40000, Nat.le_refl _⟩
  refine ⟨K + 1, ?_⟩
  unfold laws_FnLevelPlain.f
  by_cases h0 : (l.length : Int) > 1048576
  · rw [if_pos h0]
  rw [if_neg h0]
  obtain ⟨bb, e, hb⟩ := open_ok hl
  obtain ⟨v, b, a, lv, e1, hv⟩ := draw_plain e hb (K + 1) (by omega)
  have hlen := levelPlainL_len v b a lv
  refine Option.bind_eq_some_iff.2 ⟨(v, b, a, lv), e1, Option.bind_eq_some_iff.2 ⟨levelPlainL v b a lv, implLevelPlain v b a lv, Option.bind_eq_some_iff.2 ⟨levelPlainL v b a lv, specLevelPlain v b a lv (by omega) (K + 1) (by omega), Option.bind_eq_some_iff.2 ⟨true, wcInts_ok _ (by omega) (K + 1) (by omega), ?_⟩⟩⟩⟩
  rw [if_pos rfl]
  exact lp_end K hK v b a lv hv

end Go.Proofs.Ytkapjhlcmicpnaa.Pure
