/- The program's RunsOf answers as the reference's, for all levels (at most 2^20 of them: longer lists the law itself lets by), writes into no argument, and its answer is its own: the law FnExactRunsOf answers true; no condition. -/
import Derived.Test.YtjnmpamnlfabbaaPFnExactRunsOfx4
namespace Go.Proofs.Ytjnmpamnlfabbaa.Pure
open Go.RowKit Go.Proofs.Ytjnmpamnlfabbaa.PFnExactRunsOf Go.Proofs.YtjnmpamnlfabbaaW.PrintWords Go.Proofs.YtjnmpamnlfabbaaW.PrintLast Go.Proofs.YtjnmpamnlfabbaaW.PrintMore
set_option linter.unusedVariables false
set_option linter.unusedSimpArgs false

/-! small lemmas on whole numbers, lists and rounds -/
theorem w64 {x : Int} (h : -9223372036854775808 ≤ x) (h' : x ≤ 9223372036854775807) : wrap64 x = x := by
  unfold wrap64
  omega
theorem in_i64 {x : Int} (h : (Lit.int .i64 x).wf = true) : -9223372036854775808 ≤ x ∧ x ≤ 9223372036854775807 := by
  simpa [Lit.wf, IntKind.min, IntKind.max, IntKind.bits, IntKind.signed] using h
theorem in_u8 {x : Int} (h : (Lit.int .u8 x).wf = true) : 0 ≤ x ∧ x ≤ 255 := by
  simpa [Lit.wf, IntKind.min, IntKind.max, IntKind.bits, IntKind.signed] using h
theorem rd_nat (l : List Int) (i : Nat) : rd l (i : Int) = l.getD i 0 := by
  unfold rd
  rw [Int.toNat_natCast]

/-! lists, place by place: what lies ahead of a place, the place, what lies behind -/
theorem getD_mid {α : Type} (pre : List α) (x : α) (suf : List α) (d : α) : (pre ++ x :: suf).getD ((pre.length : Int)).toNat d = x := by
  rw [Int.toNat_natCast, List.getD_eq_getElem?_getD]
  simp
theorem set_mid {α : Type} (pre : List α) (x y : α) (suf : List α) : (pre ++ x :: suf).set ((pre.length : Int)).toNat y = pre ++ y :: suf := by
  rw [Int.toNat_natCast]
  simp
theorem rd_mid (pre : List Int) (x : Int) (suf : List Int) : rd (pre ++ x :: suf) (pre.length : Int) = x := getD_mid pre x suf 0
theorem len_mid {α : Type} (pre : List α) (x : α) (suf : List α) : (pre.length : Int) < ((pre ++ x :: suf).length : Int) := by
  simp only [List.length_append, List.length_cons]
  omega
theorem len_end {α : Type} (pre : List α) : ¬ (pre.length : Int) < ((pre ++ []).length : Int) := by simp
theorem len_snoc {α : Type} (pre : List α) (x : α) : ((pre ++ [x]).length : Int) = (pre.length : Int) + 1 := by simp
theorem app_cons {α : Type} (pre : List α) (x : α) (suf : List α) : pre ++ x :: suf = (pre ++ [x]) ++ suf := by simp
theorem w64_len {n : Int} (h0 : 0 ≤ n) (h : n ≤ 9000000000000000000) : wrap64 (n + 1) = n + 1 := w64 (by omega) (by omega)

theorem specIn (a b c : Int) : spec_l1In.f a b c = some (decide (b ≤ a ∧ a ≤ c)) := by
  unfold spec_l1In.f
  by_cases h1 : b ≤ a <;> by_cases h2 : a ≤ c <;> simp [h1, h2]

/-- a list of levels that may be ordered -/
def okL (l : List Int) : Bool := decide ((l.length : Int) ≤ 80) && l.all fun x => decide (-1 ≤ x ∧ x ≤ 22)
theorem implLevelsOk (l : List Int) : impl_levelsOk.f l = some (okL l) := by
  unfold impl_levelsOk.f okL
  congr 2
  induction l with
  | nil => rfl
  | cons x r ih =>
    simp only [List.any_cons, List.all_cons, Bool.not_or, ih]
    congr 1
    unfold noLv
    by_cases h1 : x < -1 <;> by_cases h2 : 22 < x <;> simp [h1, h2] <;> omega
theorem specL4Ok_l0 : ∀ (suf pre : List Int) (k : Nat), (pre ++ suf).length ≤ 1048576 → suf.length + 1 ≤ k →
    spec_l4Ok.l0 k (pre ++ suf) (pre.length : Int) = some (decide (((pre ++ suf).length : Int) ≤ 80) && suf.all fun x => decide (-1 ≤ x ∧ x ≤ 22))
  | [], pre, k, hl, hk => by
    obtain ⟨k, rfl⟩ : ∃ m, k = m + 1 := ⟨k - 1, by simp at hk; omega⟩
    simp only [spec_l4Ok.l0]
    rw [if_neg (len_end pre)]
    simp
  | x :: suf, pre, k, hl, hk => by
    obtain ⟨k, rfl⟩ : ∃ m, k = m + 1 := ⟨k - 1, by simp at hk; omega⟩
    have hp : (pre.length : Int) ≤ 1048576 := by simp at hl; omega
    have ih := specL4Ok_l0 suf (pre ++ [x]) k (by simpa using hl) (by simp at hk; omega)
    rw [len_snoc, ← app_cons] at ih
    simp only [spec_l4Ok.l0]
    rw [if_pos (len_mid pre x suf), if_pos (by omega), rd_mid, specIn, w64_len (by omega) (by omega), ih]
    simp only [Option.bind_some, List.all_cons]
    cases decide (-1 ≤ x ∧ x ≤ 22) <;> simp
theorem specL4Ok (l : List Int) (hl : l.length ≤ 1048576) (k : Nat) (hk : l.length + 1 ≤ k) : spec_l4Ok.f k l = some (okL l) := specL4Ok_l0 l [] k (by simpa using hl) hk
theorem okL_len {l : List Int} (h : okL l = true) : l.length ≤ 80 := by
  unfold okL at h
  simp only [Bool.and_eq_true, decide_eq_true_eq] at h
  omega
theorem okL_all {l : List Int} (h : okL l = true) : ∀ x ∈ l, -1 ≤ x ∧ x ≤ 22 := by
  unfold okL at h
  simp only [Bool.and_eq_true, List.all_eq_true, decide_eq_true_eq] at h
  exact h.2

abbrev Rn := S38
theorem rdRn_mid (pre : List Rn) (x : Rn) (suf : List Rn) : rd_T38 (pre ++ x :: suf) (pre.length : Int) = x := getD_mid pre x suf _
def runStep (out : List Rn) (i v : Int) : List Rn :=
  match out.getLast? with
  | none => [⟨i, i + 1, v⟩]
  | some r => if v = -1 ∨ v = r.f2 then out.dropLast ++ [⟨r.f0, i + 1, r.f2⟩] else if r.f2 = -1 then out.dropLast ++ [⟨r.f0, i + 1, v⟩] else out ++ [⟨i, i + 1, v⟩]
def runGo : List Rn → Int → List Int → List Rn
  | out, _, [] => out
  | out, i, v :: vs => runGo (runStep out i v) (i + 1) vs
theorem runStep_nil (i v : Int) : runStep [] i v = [⟨i, i + 1, v⟩] := rfl
theorem runStep_snoc (q : List Rn) (r : Rn) (i v : Int) : runStep (q ++ [r]) i v = if v = -1 ∨ v = r.f2 then q ++ [⟨r.f0, i + 1, r.f2⟩] else if r.f2 = -1 then q ++ [⟨r.f0, i + 1, v⟩] else (q ++ [r]) ++ [⟨i, i + 1, v⟩] := by
  unfold runStep
  simp
def LastOk (out : List Rn) : Prop := out = [] ∨ ∃ q r, out = q ++ [r] ∧ -1 ≤ r.f2
theorem runStep_last (out : List Rn) (i v : Int) (hv : -1 ≤ v) (h : LastOk out) : LastOk (runStep out i v) ∧ (runStep out i v).length ≤ out.length + 1 := by
  rcases h with rfl | ⟨q, r, rfl, hr⟩
  · exact ⟨.inr ⟨[], _, rfl, hv⟩, by simp [runStep_nil]⟩
  · rw [runStep_snoc]
    split
    · exact ⟨.inr ⟨q, _, rfl, hr⟩, by simp⟩
    · split
      · exact ⟨.inr ⟨q, _, rfl, hv⟩, by simp⟩
      · exact ⟨.inr ⟨q ++ [r], _, rfl, hv⟩, by simp⟩
theorem implRuns_l0 : ∀ (suf pre : List Int) (out : List Rn) (k : Nat), (∀ x ∈ suf, -1 ≤ x ∧ x ≤ 22) → LastOk out → out.length ≤ pre.length → (pre ++ suf).length ≤ 80 → 2 * suf.length + 1 ≤ k →
    impl_runsOf.l0 k out (pre ++ suf) ((pre ++ suf).length : Int) (pre.length : Int) = some (runGo out (pre.length : Int) suf)
  | [], pre, out, k, hx, ho, hol, hl, hk => by
    obtain ⟨k, rfl⟩ : ∃ m, k = m + 1 := ⟨k - 1, by simp at hk; omega⟩
    simp only [impl_runsOf.l0, runGo]
    rw [if_neg (len_end pre)]
  | v :: suf, pre, out, k, hx, ho, hol, hl, hk => by
    obtain ⟨k, rfl⟩ : ∃ m, k = m + 2 := ⟨k - 2, by simp at hk; omega⟩
    have hp : (pre.length : Int) + 1 ≤ 80 := by simp at hl; omega
    have hv := hx v List.mem_cons_self
    have hst := runStep_last out (pre.length : Int) v hv.1 ho
    have ih := implRuns_l0 suf (pre ++ [v]) (runStep out (pre.length : Int) v) k (fun y hy => hx y (List.mem_cons_of_mem _ hy)) hst.1 (by simp; omega) (by simpa using hl) (by simp at hk; omega)
    rw [len_snoc, ← app_cons] at ih
    simp only [impl_runsOf.l0, runGo]
    rw [if_pos (len_mid pre v suf), if_pos (by omega), if_pos (len_mid pre v suf), rd_mid, ← ih]
    rcases ho with rfl | ⟨q, r, rfl, hr⟩
    · have e0 : wrap64 ((([] : List Rn).length : Int) - 1) = -1 := w64 (by simp) (by simp)
      rw [e0, if_neg (by omega)]
      simp only [impl_runsOf.j1]
      rw [if_neg (by simp), if_neg (by omega), if_pos (by simp), w64_len (by omega) (by omega)]
      rfl
    · have hq : (q.length : Int) + 1 ≤ 80 := by simp at hol; omega
      have e1 : wrap64 (((q ++ [r]).length : Int) - 1) = (q.length : Int) := by rw [w64 (by simp only [List.length_append, List.length_singleton]; omega) (by simp only [List.length_append, List.length_singleton]; omega)]; simp
      have e2 : rd_T38 (q ++ [r]) (q.length : Int) = r := rdRn_mid q r []
      have e3 : ∀ y : Rn, (q ++ [r]).set ((q.length : Int)).toNat y = q ++ [y] := fun y => set_mid q r y []
      have e4 : (q.length : Int) < ((q ++ [r]).length : Int) := len_mid q r []
      rw [e1, if_pos (by omega), e2, runStep_snoc]
      by_cases h1 : v = -1
      · rw [if_pos h1, if_pos (.inl h1)]
        simp only [impl_runsOf.j1]
        rw [if_pos trivial, if_pos (by omega), if_pos e4, e2, e3, w64_len (by omega) (by omega)]
      · rw [if_neg h1, if_pos (by omega), if_pos e4]
        by_cases h2 : v = r.f2
        · rw [if_pos (.inr h2)]
          simp only [impl_runsOf.j1]
          rw [if_pos (by simp [h2]), if_pos (by omega), if_pos e4, e2, e3, w64_len (by omega) (by omega)]
        · rw [if_neg (by omega)]
          simp only [impl_runsOf.j1]
          rw [if_neg (by simpa using h2), if_pos (by omega), if_pos (by omega), if_pos e4, e2, w64_len (by omega) (by omega)]
          by_cases h3 : r.f2 = -1
          · rw [if_pos h3, if_pos h3, e3]
            simp only [Option.bind_some]
            have e5 : rd_T38 (q ++ [(⟨r.f0, (pre.length : Int) + 1, r.f2⟩ : Rn)]) (q.length : Int) = ⟨r.f0, (pre.length : Int) + 1, r.f2⟩ := rdRn_mid q _ []
            have e6 : ∀ y z : Rn, (q ++ [z]).set ((q.length : Int)).toNat y = q ++ [y] := fun y z => set_mid q z y []
            rw [e5, e6]
          · rw [if_neg h3, if_neg h3, if_pos (by simp; omega)]
theorem specRuns_l0 : ∀ (suf pre : List Int) (out : List Rn) (k : Nat), (∀ x ∈ suf, -1 ≤ x ∧ x ≤ 22) → LastOk out → out.length ≤ pre.length → (pre ++ suf).length ≤ 80 → 2 * suf.length + 1 ≤ k →
    spec_RunsOf.l0 k (pre ++ suf) out (pre.length : Int) = some (runGo out (pre.length : Int) suf)
  | [], pre, out, k, hx, ho, hol, hl, hk => by
    obtain ⟨k, rfl⟩ : ∃ m, k = m + 1 := ⟨k - 1, by simp at hk; omega⟩
    simp only [spec_RunsOf.l0, runGo]
    rw [if_neg (len_end pre)]
  | v :: suf, pre, out, k, hx, ho, hol, hl, hk => by
    obtain ⟨k, rfl⟩ : ∃ m, k = m + 2 := ⟨k - 2, by simp at hk; omega⟩
    have hp : (pre.length : Int) + 1 ≤ 80 := by simp at hl; omega
    have hv := hx v List.mem_cons_self
    have hst := runStep_last out (pre.length : Int) v hv.1 ho
    have ih := fun k hk => specRuns_l0 suf (pre ++ [v]) (runStep out (pre.length : Int) v) k (fun y hy => hx y (List.mem_cons_of_mem _ hy)) hst.1 (by simp; omega) (by simpa using hl) hk
    simp only [len_snoc, ← app_cons] at ih
    have hk' : 2 * suf.length + 1 ≤ k := by simp at hk; omega
    simp only [spec_RunsOf.l0, runGo]
    rw [if_pos (len_mid pre v suf)]
    rcases ho with rfl | ⟨q, r, rfl, hr⟩
    · rw [if_pos (by simp), if_pos (by omega), rd_mid, w64_len (n := (pre.length : Int)) (by omega) (by omega), if_pos (by simp)]
      rw [← ih (k + 1) (by omega)]
      rfl
    · have hq : (q.length : Int) + 1 ≤ 80 := by simp at hol; omega
      have e1 : wrap64 (((q ++ [r]).length : Int) - 1) = (q.length : Int) := by rw [w64 (by simp only [List.length_append, List.length_singleton]; omega) (by simp only [List.length_append, List.length_singleton]; omega)]; simp
      have e2 : rd_T38 (q ++ [r]) (q.length : Int) = r := rdRn_mid q r []
      have e3 : ∀ y : Rn, (q ++ [r]).set ((q.length : Int)).toNat y = q ++ [y] := fun y => set_mid q r y []
      have e4 : (q.length : Int) < ((q ++ [r]).length : Int) := len_mid q r []
      rw [if_neg (by simp; omega), if_pos (by omega), rd_mid, e1, e2, ← ih k hk', runStep_snoc]
      by_cases h1 : v = -1
      · rw [if_pos (by omega), if_pos (.inl h1)]
        simp only [spec_RunsOf.j1]
        rw [if_pos trivial, e1, if_pos (by omega), if_pos e4, e2, e3, w64_len (by omega) (by omega)]
      · rw [if_neg (by omega), if_pos (by omega), if_pos e4]
        by_cases h2 : v = r.f2
        · rw [if_pos (.inr h2)]
          simp only [spec_RunsOf.j1]
          rw [if_pos (by simp [h2]), e1, if_pos (by omega), if_pos e4, e2, e3, w64_len (by omega) (by omega)]
        · rw [if_neg (by omega)]
          simp only [spec_RunsOf.j1]
          rw [if_neg (by simpa using h2), e1, if_pos (by omega), if_pos e4, e2, w64_len (by omega) (by omega)]
          by_cases h3 : r.f2 = -1
          · rw [if_pos (by omega), if_pos h3, e3]
            simp only [Option.bind_some]
            have e5 : rd_T38 (q ++ [(⟨r.f0, (pre.length : Int) + 1, r.f2⟩ : Rn)]) (q.length : Int) = ⟨r.f0, (pre.length : Int) + 1, r.f2⟩ := rdRn_mid q _ []
            have e6 : ∀ y z : Rn, (q ++ [z]).set ((q.length : Int)).toNat y = q ++ [y] := fun y z => set_mid q z y []
            rw [if_pos (by omega), if_pos (len_mid pre v suf), rd_mid, e5, e6]
          · rw [if_neg (by omega), if_neg h3, if_pos (by omega), if_pos (len_mid pre v suf), if_pos (by simp; omega), rd_mid]
def runsOf (l : List Int) : List Rn := if okL l = true then runGo [] 0 l else []
theorem implRunsOf (l : List Int) (k : Nat) (hk : 200 ≤ k) : impl_RunsOf.f k l = some (runsOf l) := by
  unfold impl_RunsOf.f runsOf
  rw [implLevelsOk]
  simp only [Option.bind_some]
  by_cases h : okL l = true
  · have hl := okL_len h
    rw [if_pos h, if_pos h]
    have e : impl_runsOf.f k l = some (runGo [] 0 l) := implRuns_l0 l [] [] k (okL_all h) (.inl rfl) (by simp) (by simpa using hl) (by omega)
    rw [e]
    rfl
  · rw [if_neg h, if_neg h]
theorem specRunsOf (l : List Int) (hl : l.length ≤ 1048576) (k : Nat) (hk : l.length + 300 ≤ k) : spec_RunsOf.f k l = some (runsOf l) := by
  unfold spec_RunsOf.f runsOf
  rw [specL4Ok l hl k (by omega)]
  simp only [Option.bind_some]
  by_cases h : okL l = true
  · have hl := okL_len h
    rw [if_pos h, if_pos h]
    exact specRuns_l0 l [] [] k (okL_all h) (.inl rfl) (by simp) (by simpa using hl) (by omega)
  · rw [if_neg h, if_neg h]
theorem runGo_len : ∀ (vs : List Int) (out : List Rn) (i : Int), (∀ x ∈ vs, -1 ≤ x ∧ x ≤ 22) → LastOk out → (runGo out i vs).length ≤ out.length + vs.length
  | [], out, i, _, _ => Nat.le_refl _
  | v :: vs, out, i, hx, ho => by
    have h := runStep_last out i v (hx v List.mem_cons_self).1 ho
    have := runGo_len vs (runStep out i v) (i + 1) (fun y hy => hx y (List.mem_cons_of_mem _ hy)) h.1
    simp only [runGo, List.length_cons]
    omega
theorem runsOf_len (l : List Int) : (runsOf l).length ≤ 80 := by
  unfold runsOf
  split
  · rename_i h
    have := runGo_len l [] 0 (okL_all h) (.inl rfl)
    have := okL_len h
    simp at *
    omega
  · simp

theorem eqRunS_l0 : ∀ (suf pre : List Rn) (k : Nat), (pre ++ suf).length ≤ 1048576 → suf.length + 1 ≤ k → laws_eqRunS.l0 k (pre ++ suf) (pre ++ suf) (pre.length : Int) = some true
  | [], pre, k, hl, hk => by
    obtain ⟨k, rfl⟩ : ∃ m, k = m + 1 := ⟨k - 1, by simp at hk; omega⟩
    simp only [laws_eqRunS.l0]
    rw [if_neg (len_end pre)]
  | x :: suf, pre, k, hl, hk => by
    obtain ⟨k, rfl⟩ : ∃ m, k = m + 1 := ⟨k - 1, by simp at hk; omega⟩
    have hp : (pre.length : Int) ≤ 1048576 := by simp at hl; omega
    have ih := eqRunS_l0 suf (pre ++ [x]) k (by simpa using hl) (by simp at hk; omega)
    rw [len_snoc, ← app_cons] at ih
    simp only [laws_eqRunS.l0]
    rw [if_pos (len_mid pre x suf), if_pos (by omega), if_pos (len_mid pre x suf), rdRn_mid]
    simp only [laws_eqRun.f, if_true, ↓reduceIte, Option.bind_some]
    rw [w64_len (by omega) (by omega), ih]
theorem eqRunS_ok (l : List Rn) (hl : l.length ≤ 1048576) (k : Nat) (hk : l.length + 1 ≤ k) : laws_eqRunS.f k l l = some true := by
  unfold laws_eqRunS.f
  rw [if_pos rfl]
  exact eqRunS_l0 l [] k (by simpa using hl) hk
def marksR : Int → Nat → List Rn
  | _, 0 => []
  | a, n + 1 => ⟨a, a + 1, a + 1 + 1⟩ :: marksR (a + 1 + 1 + 1) n
theorem marksR_length : ∀ (n : Nat) (a : Int), (marksR a n).length = n
  | 0, _ => rfl
  | n + 1, a => by simp [marksR, marksR_length n]
theorem markRunS_l0 : ∀ (suf pre : List Rn) (a : Int) (k : Nat), 0 ≤ a → a + 3 * suf.length ≤ 4000000000 → (pre ++ suf).length ≤ 4000000 → suf.length + 1 ≤ k → laws_markRunS.l0 k (pre ++ suf) a (pre.length : Int) = some (a + 3 * suf.length, pre ++ marksR a suf.length)
  | [], pre, a, k, h0, h1, hl, hk => by
    obtain ⟨k, rfl⟩ : ∃ m, k = m + 1 := ⟨k - 1, by simp at hk; omega⟩
    simp only [laws_markRunS.l0]
    rw [if_neg (len_end pre)]
    simp [marksR]
  | x :: suf, pre, a, k, h0, h1, hl, hk => by
    obtain ⟨k, rfl⟩ : ∃ m, k = m + 1 := ⟨k - 1, by simp at hk; omega⟩
    have hp : (pre.length : Int) ≤ 4000000 := by simp at hl; omega
    simp only [List.length_cons] at h1
    simp only [laws_markRunS.l0]
    have ih := markRunS_l0 suf (pre ++ [⟨a, a + 1, a + 1 + 1⟩]) (a + 1 + 1 + 1) k (by omega) (by omega) (by simpa using hl) (by simp at hk; omega)
    rw [len_snoc, ← app_cons] at ih
    rw [if_pos (len_mid pre x suf), if_pos (by omega), rdRn_mid, set_mid]
    simp only [Option.bind_some]
    rw [rdRn_mid, set_mid]
    rw [rdRn_mid, set_mid, w64_len (n := a) (by omega) (by omega), w64_len (n := a + 1) (by omega) (by omega), w64_len (n := a + 1 + 1) (by omega) (by omega), w64_len (by omega) (by omega), ih]
    simp only [List.length_cons, Option.some.injEq, Prod.mk.injEq, marksR]
    exact ⟨by omega, by simp⟩
theorem markRunS_ok (l : List Rn) (a : Int) (h0 : 0 ≤ a) (h1 : a ≤ 3000000000) (hl : l.length ≤ 4000000) (k : Nat) (hk : l.length + 1 ≤ k) : laws_markRunS.f k l a = some (a + 3 * l.length, marksR a l.length) := by
  unfold laws_markRunS.f
  exact markRunS_l0 l [] a k h0 (by omega) (by simpa using hl) hk
theorem heldRunS_l0 : ∀ (n : Nat) (pre : List Rn) (a : Int) (k : Nat), 0 ≤ a → a + 3 * n ≤ 4000000000 → pre.length + n ≤ 4000000 → n + 1 ≤ k → laws_heldRunS.l0 k (pre ++ marksR a n) a (pre.length : Int) = some (a + 3 * n)
  | 0, pre, a, k, h0, h1, hl, hk => by
    obtain ⟨k, rfl⟩ : ∃ m, k = m + 1 := ⟨k - 1, by omega⟩
    show laws_heldRunS.l0 (k + 1) (pre ++ []) a (pre.length : Int) = some (a + 3 * (0 : Nat))
    simp only [laws_heldRunS.l0]
    rw [if_neg (len_end pre)]
    simp
  | n + 1, pre, a, k, h0, h1, hl, hk => by
    obtain ⟨k, rfl⟩ : ∃ m, k = m + 1 := ⟨k - 1, by omega⟩
    show laws_heldRunS.l0 (k + 1) (pre ++ ⟨a, a + 1, a + 1 + 1⟩ :: marksR (a + 1 + 1 + 1) n) a (pre.length : Int) = some (a + 3 * (n + 1 : Nat))
    simp only [laws_heldRunS.l0]
    have e := heldRunS_l0 n (pre ++ [⟨a, a + 1, a + 1 + 1⟩]) (a + 1 + 1 + 1) k (by omega) (by omega) (by simp; omega) (by omega)
    rw [len_snoc, ← app_cons] at e
    rw [if_pos (len_mid pre _ _), if_pos (by omega), rdRn_mid, if_pos rfl, w64_len (n := a) (by omega) (by omega), if_pos rfl, w64_len (n := a + 1) (by omega) (by omega), if_pos rfl, w64_len (n := a + 1 + 1) (by omega) (by omega), w64_len (by omega) (by omega), e]
    congr 1
    omega
theorem heldRunS_ok (n : Nat) (a : Int) (h0 : 0 ≤ a) (h1 : a ≤ 3000000000) (hl : n ≤ 4000000) (k : Nat) (hk : n + 1 ≤ k) : laws_heldRunS.f k (marksR a n) a = some (a + 3 * n) := by
  unfold laws_heldRunS.f
  exact heldRunS_l0 n [] a k h0 (by omega) (by simpa using hl) hk

theorem toIntS_l0 : ∀ (suf pre rest : List Int) (k : Nat), rest.length = suf.length → (pre ++ suf).length ≤ 1048576 → suf.length + 1 ≤ k → laws_toIntS.l0 k (pre ++ suf) (pre ++ rest) (pre.length : Int) = some (pre ++ suf)
  | [], pre, rest, k, hr, hl, hk => by
    obtain ⟨k, rfl⟩ : ∃ m, k = m + 1 := ⟨k - 1, by simp at hk; omega⟩
    obtain rfl : rest = [] := List.eq_nil_of_length_eq_zero (by simpa using hr)
    simp only [laws_toIntS.l0]
    rw [if_neg (len_end pre)]
  | x :: suf, pre, [], k, hr, hl, hk => by simp at hr
  | x :: suf, pre, y :: rest, k, hr, hl, hk => by
    obtain ⟨k, rfl⟩ : ∃ m, k = m + 1 := ⟨k - 1, by simp at hk; omega⟩
    simp only [laws_toIntS.l0]
    have hp : (pre.length : Int) ≤ 1048576 := by simp at hl; omega
    rw [if_pos (len_mid pre x suf), if_pos (by omega), if_pos (len_mid pre y rest), rd_mid, set_mid, w64_len (by omega) (by omega), ← len_snoc pre x, app_cons pre x suf, app_cons pre x rest]
    exact toIntS_l0 suf (pre ++ [x]) rest k (by simpa using hr) (by simpa using hl) (by simp at hk; omega)
theorem toIntS_ok (l : List Int) (hl : l.length ≤ 1048576) (k : Nat) (hk : l.length + 1 ≤ k) : laws_toIntS.f k l = some l := by
  unfold laws_toIntS.f
  rw [if_pos (by omega), if_pos (by omega), Int.toNat_natCast]
  exact toIntS_l0 l [] (List.replicate l.length 0) k (by simp) (by simpa using hl) hk

theorem eqIntS_l0 : ∀ (suf pre : List Int) (k : Nat), (pre ++ suf).length ≤ 4000000 → suf.length + 1 ≤ k → laws_eqIntS.l0 k (pre ++ suf) (pre ++ suf) (pre.length : Int) = some true
  | [], pre, k, hl, hk => by
    obtain ⟨k, rfl⟩ : ∃ m, k = m + 1 := ⟨k - 1, by simp at hk; omega⟩
    simp only [laws_eqIntS.l0]
    rw [if_neg (len_end pre)]
  | x :: suf, pre, k, hl, hk => by
    obtain ⟨k, rfl⟩ : ∃ m, k = m + 1 := ⟨k - 1, by simp at hk; omega⟩
    simp only [laws_eqIntS.l0]
    have hp : (pre.length : Int) ≤ 4000000 := by simp at hl; omega
    rw [if_pos (len_mid pre x suf), if_pos (by omega), if_pos (len_mid pre x suf), if_pos trivial, w64_len (by omega) (by omega), ← len_snoc pre x, app_cons pre x suf]
    exact eqIntS_l0 suf (pre ++ [x]) k (by simpa using hl) (by simp at hk; omega)
theorem eqIntS_ok (l : List Int) (hl : l.length ≤ 4000000) (k : Nat) (hk : l.length + 1 ≤ k) : laws_eqIntS.f k l l = some true := by
  unfold laws_eqIntS.f
  rw [if_pos rfl]
  exact eqIntS_l0 l [] k (by simpa using hl) hk

/-- the numbers from one on, so many -/
def marks : Int → Nat → List Int
  | _, 0 => []
  | a, n + 1 => a :: marks (a + 1) n
theorem marks_length : ∀ (n : Nat) (a : Int), (marks a n).length = n
  | 0, _ => rfl
  | n + 1, a => by simp [marks, marks_length n]
theorem markIntS_l0 : ∀ (suf pre : List Int) (a : Int) (k : Nat), 0 ≤ a → a + suf.length ≤ 4000000000 → (pre ++ suf).length ≤ 4000000 → suf.length + 1 ≤ k → laws_markIntS.l0 k (pre ++ suf) a (pre.length : Int) = some (a + suf.length, pre ++ marks a suf.length)
  | [], pre, a, k, h0, h1, hl, hk => by
    obtain ⟨k, rfl⟩ : ∃ m, k = m + 1 := ⟨k - 1, by simp at hk; omega⟩
    simp only [laws_markIntS.l0]
    rw [if_neg (len_end pre)]
    simp [marks]
  | x :: suf, pre, a, k, h0, h1, hl, hk => by
    obtain ⟨k, rfl⟩ : ∃ m, k = m + 1 := ⟨k - 1, by simp at hk; omega⟩
    have hp : (pre.length : Int) ≤ 4000000 := by simp at hl; omega
    simp only [List.length_cons] at h1
    simp only [laws_markIntS.l0]
    rw [if_pos (len_mid pre x suf), if_pos (by omega), set_mid, w64_len (by omega) (by omega), w64_len (by omega) (by omega), ← len_snoc pre a, app_cons pre a suf, markIntS_l0 suf (pre ++ [a]) (a + 1) k (by omega) (by omega) (by simpa using hl) (by simp at hk; omega)]
    simp only [List.length_cons, Option.some.injEq, Prod.mk.injEq, marks]
    exact ⟨by omega, by simp⟩
theorem markIntS_ok (l : List Int) (a : Int) (h0 : 0 ≤ a) (h1 : a ≤ 3000000000) (hl : l.length ≤ 4000000) (k : Nat) (hk : l.length + 1 ≤ k) : laws_markIntS.f k l a = some (a + l.length, marks a l.length) := by
  unfold laws_markIntS.f
  exact markIntS_l0 l [] a k h0 (by omega) (by simpa using hl) hk

theorem FnExactRunsOf : laws_FnExactRunsOf.Pure := by
  intro l _ _ hw
  unfold laws_FnExactRunsOf.f
  by_cases hb : l.length ≤ 1048576
  · refine ⟨l.length + 1000, ?_⟩
    rw [if_neg (by omega), toIntS_ok l hb _ (by omega)]
    have hol := runsOf_len l
    simp only [Option.bind_some]
    rw [specRunsOf l hb _ (by omega), implRunsOf _ _ (by omega)]
    simp only [Option.bind_some]
    rw [eqRunS_ok (runsOf l) (by omega) _ (by omega)]
    simp only [Option.bind_some, if_true]
    rw [eqIntS_ok l (by omega) _ (by omega), markIntS_ok l 1 (by omega) (by omega) (by omega) _ (by omega)]
    simp only [Option.bind_some, if_true]
    rw [if_neg (by omega), show l.length + 1000 = (l.length + 999) + 1 from rfl]
    simp only [laws_FnExactRunsOf.j0, Bool.not_true, Bool.false_eq_true, if_false]
    rw [markRunS_ok (runsOf l) 1 (by omega) (by omega) (by omega) _ (by omega)]
    simp only [Option.bind_some]
    rw [heldRunS_ok _ 1 (by omega) (by omega) (by omega) _ (by omega)]
    simp only [Option.bind_some, if_true]
    rw [if_neg (by omega), toIntS_ok l hb _ (by omega)]
    simp only [Option.bind_some]
    rw [implRunsOf _ _ (by omega)]
    simp only [Option.bind_some]
    rw [eqRunS_ok (runsOf l) (by omega) _ (by omega)]
    simp
    omega
  · refine ⟨0, ?_⟩
    rw [if_pos (by omega)]

end Go.Proofs.Ytjnmpamnlfabbaa.Pure
