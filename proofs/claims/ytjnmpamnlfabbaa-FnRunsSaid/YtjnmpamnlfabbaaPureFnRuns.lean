/- Of every drawn list of levels: the runs are the reference's, lie one behind the other from the first letter to the last, no two neighbours of one level, and every letter with a level lies in a run of that level: the law FnRuns answers true; no condition. -/
import Derived.Test.YtjnmpamnlfabbaaPFnRunsx5
namespace Go.Proofs.Ytjnmpamnlfabbaa.Pure
open Go.RowKit Go.Proofs.Ytjnmpamnlfabbaa.PFnRuns Go.Proofs.YtjnmpamnlfabbaaW.PrintWords Go.Proofs.YtjnmpamnlfabbaaW.PrintLast Go.Proofs.YtjnmpamnlfabbaaW.PrintMore
set_option linter.unusedVariables false
set_option linter.unusedSimpArgs false

/-! small lemmas on whole numbers, lists and rounds -/
theorem w64 {x : Int} (h : -9223372036854775808 ≤ x) (h' : x ≤ 9223372036854775807) : wrap64 x = x := by
  unfold wrap64
  omega
theorem in_i64 {x : Int} (h : (Lit.int .i64 x).wf = true) : -9223372036854775808 ≤ x ∧ x ≤ 9223372036854775807 := by
  simpa [Lit.wf, IntKind.min, IntKind.max, IntKind.bits, IntKind.signed] using h
theorem in_u8 {x : Int} (h : (Lit.int .u8 x).wf = true) : 0 ≤ x ∧ x ≤ 255 := by
  simpa [Lit.wf, IntKind.min, IntKind.max, IntKind.bits, IntKind.signed] using h
theorem rd_nat (l : List Int) (i : Nat) : rd l (i : Int) = l.getD i 0 := by
  unfold rd
  rw [Int.toNat_natCast]

/-! lists, place by place: what lies ahead of a place, the place, what lies behind -/
theorem getD_mid {α : Type} (pre : List α) (x : α) (suf : List α) (d : α) : (pre ++ x :: suf).getD ((pre.length : Int)).toNat d = x := by
  rw [Int.toNat_natCast, List.getD_eq_getElem?_getD]
  simp
theorem set_mid {α : Type} (pre : List α) (x y : α) (suf : List α) : (pre ++ x :: suf).set ((pre.length : Int)).toNat y = pre ++ y :: suf := by
  rw [Int.toNat_natCast]
  simp
theorem rd_mid (pre : List Int) (x : Int) (suf : List Int) : rd (pre ++ x :: suf) (pre.length : Int) = x := getD_mid pre x suf 0
theorem len_mid {α : Type} (pre : List α) (x : α) (suf : List α) : (pre.length : Int) < ((pre ++ x :: suf).length : Int) := by
  simp only [List.length_append, List.length_cons]
  omega
theorem len_end {α : Type} (pre : List α) : ¬ (pre.length : Int) < ((pre ++ []).length : Int) := by simp
theorem len_snoc {α : Type} (pre : List α) (x : α) : ((pre ++ [x]).length : Int) = (pre.length : Int) + 1 := by simp
theorem app_cons {α : Type} (pre : List α) (x : α) (suf : List α) : pre ++ x :: suf = (pre ++ [x]) ++ suf := by simp
theorem w64_len {n : Int} (h0 : 0 ≤ n) (h : n ≤ 9000000000000000000) : wrap64 (n + 1) = n + 1 := w64 (by omega) (by omega)

theorem specIn (a b c : Int) : spec_l1In.f a b c = some (decide (b ≤ a ∧ a ≤ c)) := by
  unfold spec_l1In.f
  by_cases h1 : b ≤ a <;> by_cases h2 : a ≤ c <;> simp [h1, h2]

/-- a list of levels that may be ordered -/
def okL (l : List Int) : Bool := decide ((l.length : Int) ≤ 80) && l.all fun x => decide (-1 ≤ x ∧ x ≤ 22)
theorem implLevelsOk (l : List Int) : impl_levelsOk.f l = some (okL l) := by
  unfold impl_levelsOk.f okL
  congr 2
  induction l with
  | nil => rfl
  | cons x r ih =>
    simp only [List.any_cons, List.all_cons, Bool.not_or, ih]
    congr 1
    unfold noLv
    by_cases h1 : x < -1 <;> by_cases h2 : 22 < x <;> simp [h1, h2] <;> omega
theorem specL4Ok_l0 : ∀ (suf pre : List Int) (k : Nat), (pre ++ suf).length ≤ 1048576 → suf.length + 1 ≤ k →
    spec_l4Ok.l0 k (pre ++ suf) (pre.length : Int) = some (decide (((pre ++ suf).length : Int) ≤ 80) && suf.all fun x => decide (-1 ≤ x ∧ x ≤ 22))
  | [], pre, k, hl, hk => by
    obtain ⟨k, rfl⟩ : ∃ m, k = m + 1 := ⟨k - 1, by simp at hk; omega⟩
    simp only [spec_l4Ok.l0]
    rw [if_neg (len_end pre)]
    simp
  | x :: suf, pre, k, hl, hk => by
    obtain ⟨k, rfl⟩ : ∃ m, k = m + 1 := ⟨k - 1, by simp at hk; omega⟩
    have hp : (pre.length : Int) ≤ 1048576 := by simp at hl; omega
    have ih := specL4Ok_l0 suf (pre ++ [x]) k (by simpa using hl) (by simp at hk; omega)
    rw [len_snoc, ← app_cons] at ih
    simp only [spec_l4Ok.l0]
    rw [if_pos (len_mid pre x suf), if_pos (by omega), rd_mid, specIn, w64_len (by omega) (by omega), ih]
    simp only [Option.bind_some, List.all_cons]
    cases decide (-1 ≤ x ∧ x ≤ 22) <;> simp
theorem specL4Ok (l : List Int) (hl : l.length ≤ 1048576) (k : Nat) (hk : l.length + 1 ≤ k) : spec_l4Ok.f k l = some (okL l) := specL4Ok_l0 l [] k (by simpa using hl) hk
theorem okL_len {l : List Int} (h : okL l = true) : l.length ≤ 80 := by
  unfold okL at h
  simp only [Bool.and_eq_true, decide_eq_true_eq] at h
  omega
theorem okL_all {l : List Int} (h : okL l = true) : ∀ x ∈ l, -1 ≤ x ∧ x ≤ 22 := by
  unfold okL at h
  simp only [Bool.and_eq_true, List.all_eq_true, decide_eq_true_eq] at h
  exact h.2

abbrev Rn := S38
theorem rdRn_mid (pre : List Rn) (x : Rn) (suf : List Rn) : rd_T38 (pre ++ x :: suf) (pre.length : Int) = x := getD_mid pre x suf _
def runStep (out : List Rn) (i v : Int) : List Rn :=
  match out.getLast? with
  | none => [⟨i, i + 1, v⟩]
  | some r => if v = -1 ∨ v = r.f2 then out.dropLast ++ [⟨r.f0, i + 1, r.f2⟩] else if r.f2 = -1 then out.dropLast ++ [⟨r.f0, i + 1, v⟩] else out ++ [⟨i, i + 1, v⟩]
def runGo : List Rn → Int → List Int → List Rn
  | out, _, [] => out
  | out, i, v :: vs => runGo (runStep out i v) (i + 1) vs
theorem runStep_nil (i v : Int) : runStep [] i v = [⟨i, i + 1, v⟩] := rfl
theorem runStep_snoc (q : List Rn) (r : Rn) (i v : Int) : runStep (q ++ [r]) i v = if v = -1 ∨ v = r.f2 then q ++ [⟨r.f0, i + 1, r.f2⟩] else if r.f2 = -1 then q ++ [⟨r.f0, i + 1, v⟩] else (q ++ [r]) ++ [⟨i, i + 1, v⟩] := by
  unfold runStep
  simp
def LastOk (out : List Rn) : Prop := out = [] ∨ ∃ q r, out = q ++ [r] ∧ -1 ≤ r.f2
theorem runStep_last (out : List Rn) (i v : Int) (hv : -1 ≤ v) (h : LastOk out) : LastOk (runStep out i v) ∧ (runStep out i v).length ≤ out.length + 1 := by
  rcases h with rfl | ⟨q, r, rfl, hr⟩
  · exact ⟨.inr ⟨[], _, rfl, hv⟩, by simp [runStep_nil]⟩
  · rw [runStep_snoc]
    split
    · exact ⟨.inr ⟨q, _, rfl, hr⟩, by simp⟩
    · split
      · exact ⟨.inr ⟨q, _, rfl, hv⟩, by simp⟩
      · exact ⟨.inr ⟨q ++ [r], _, rfl, hv⟩, by simp⟩
theorem implRuns_l0 : ∀ (suf pre : List Int) (out : List Rn) (k : Nat), (∀ x ∈ suf, -1 ≤ x ∧ x ≤ 22) → LastOk out → out.length ≤ pre.length → (pre ++ suf).length ≤ 80 → 2 * suf.length + 1 ≤ k →
    impl_runsOf.l0 k out (pre ++ suf) ((pre ++ suf).length : Int) (pre.length : Int) = some (runGo out (pre.length : Int) suf)
  | [], pre, out, k, hx, ho, hol, hl, hk => by
    obtain ⟨k, rfl⟩ : ∃ m, k = m + 1 := ⟨k - 1, by simp at hk; omega⟩
    simp only [impl_runsOf.l0, runGo]
    rw [if_neg (len_end pre)]
  | v :: suf, pre, out, k, hx, ho, hol, hl, hk => by
    obtain ⟨k, rfl⟩ : ∃ m, k = m + 2 := ⟨k - 2, by simp at hk; omega⟩
    have hp : (pre.length : Int) + 1 ≤ 80 := by simp at hl; omega
    have hv := hx v List.mem_cons_self
    have hst := runStep_last out (pre.length : Int) v hv.1 ho
    have ih := implRuns_l0 suf (pre ++ [v]) (runStep out (pre.length : Int) v) k (fun y hy => hx y (List.mem_cons_of_mem _ hy)) hst.1 (by simp; omega) (by simpa using hl) (by simp at hk; omega)
    rw [len_snoc, ← app_cons] at ih
    simp only [impl_runsOf.l0, runGo]
    rw [if_pos (len_mid pre v suf), if_pos (by omega), if_pos (len_mid pre v suf), rd_mid, ← ih]
    rcases ho with rfl | ⟨q, r, rfl, hr⟩
    · have e0 : wrap64 ((([] : List Rn).length : Int) - 1) = -1 := w64 (by simp) (by simp)
      rw [e0, if_neg (by omega)]
      simp only [impl_runsOf.j1]
      rw [if_neg (by simp), if_neg (by omega), if_pos (by simp), w64_len (by omega) (by omega)]
      rfl
    · have hq : (q.length : Int) + 1 ≤ 80 := by simp at hol; omega
      have e1 : wrap64 (((q ++ [r]).length : Int) - 1) = (q.length : Int) := by rw [w64 (by simp only [List.length_append, List.length_singleton]; omega) (by simp only [List.length_append, List.length_singleton]; omega)]; simp
      have e2 : rd_T38 (q ++ [r]) (q.length : Int) = r := rdRn_mid q r []
      have e3 : ∀ y : Rn, (q ++ [r]).set ((q.length : Int)).toNat y = q ++ [y] := fun y => set_mid q r y []
      have e4 : (q.length : Int) < ((q ++ [r]).length : Int) := len_mid q r []
      rw [e1, if_pos (by omega), e2, runStep_snoc]
      by_cases h1 : v = -1
      · rw [if_pos h1, if_pos (.inl h1)]
        simp only [impl_runsOf.j1]
        rw [if_pos trivial, if_pos (by omega), if_pos e4, e2, e3, w64_len (by omega) (by omega)]
      · rw [if_neg h1, if_pos (by omega), if_pos e4]
        by_cases h2 : v = r.f2
        · rw [if_pos (.inr h2)]
          simp only [impl_runsOf.j1]
          rw [if_pos (by simp [h2]), if_pos (by omega), if_pos e4, e2, e3, w64_len (by omega) (by omega)]
        · rw [if_neg (by omega)]
          simp only [impl_runsOf.j1]
          rw [if_neg (by simpa using h2), if_pos (by omega), if_pos (by omega), if_pos e4, e2, w64_len (by omega) (by omega)]
          by_cases h3 : r.f2 = -1
          · rw [if_pos h3, if_pos h3, e3]
            simp only [Option.bind_some]
            have e5 : rd_T38 (q ++ [(⟨r.f0, (pre.length : Int) + 1, r.f2⟩ : Rn)]) (q.length : Int) = ⟨r.f0, (pre.length : Int) + 1, r.f2⟩ := rdRn_mid q _ []
            have e6 : ∀ y z : Rn, (q ++ [z]).set ((q.length : Int)).toNat y = q ++ [y] := fun y z => set_mid q z y []
            rw [e5, e6]
          · rw [if_neg h3, if_neg h3, if_pos (by simp; omega)]
theorem specRuns_l0 : ∀ (suf pre : List Int) (out : List Rn) (k : Nat), (∀ x ∈ suf, -1 ≤ x ∧ x ≤ 22) → LastOk out → out.length ≤ pre.length → (pre ++ suf).length ≤ 80 → 2 * suf.length + 1 ≤ k →
    spec_RunsOf.l0 k (pre ++ suf) out (pre.length : Int) = some (runGo out (pre.length : Int) suf)
  | [], pre, out, k, hx, ho, hol, hl, hk => by
    obtain ⟨k, rfl⟩ : ∃ m, k = m + 1 := ⟨k - 1, by simp at hk; omega⟩
    simp only [spec_RunsOf.l0, runGo]
    rw [if_neg (len_end pre)]
  | v :: suf, pre, out, k, hx, ho, hol, hl, hk => by
    obtain ⟨k, rfl⟩ : ∃ m, k = m + 2 := ⟨k - 2, by simp at hk; omega⟩
    have hp : (pre.length : Int) + 1 ≤ 80 := by simp at hl; omega
    have hv := hx v List.mem_cons_self
    have hst := runStep_last out (pre.length : Int) v hv.1 ho
    have ih := fun k hk => specRuns_l0 suf (pre ++ [v]) (runStep out (pre.length : Int) v) k (fun y hy => hx y (List.mem_cons_of_mem _ hy)) hst.1 (by simp; omega) (by simpa using hl) hk
    simp only [len_snoc, ← app_cons] at ih
    have hk' : 2 * suf.length + 1 ≤ k := by simp at hk; omega
    simp only [spec_RunsOf.l0, runGo]
    rw [if_pos (len_mid pre v suf)]
    rcases ho with rfl | ⟨q, r, rfl, hr⟩
    · rw [if_pos (by simp), if_pos (by omega), rd_mid, w64_len (n := (pre.length : Int)) (by omega) (by omega), if_pos (by simp)]
      rw [← ih (k + 1) (by omega)]
      rfl
    · have hq : (q.length : Int) + 1 ≤ 80 := by simp at hol; omega
      have e1 : wrap64 (((q ++ [r]).length : Int) - 1) = (q.length : Int) := by rw [w64 (by simp only [List.length_append, List.length_singleton]; omega) (by simp only [List.length_append, List.length_singleton]; omega)]; simp
      have e2 : rd_T38 (q ++ [r]) (q.length : Int) = r := rdRn_mid q r []
      have e3 : ∀ y : Rn, (q ++ [r]).set ((q.length : Int)).toNat y = q ++ [y] := fun y => set_mid q r y []
      have e4 : (q.length : Int) < ((q ++ [r]).length : Int) := len_mid q r []
      rw [if_neg (by simp; omega), if_pos (by omega), rd_mid, e1, e2, ← ih k hk', runStep_snoc]
      by_cases h1 : v = -1
      · rw [if_pos (by omega), if_pos (.inl h1)]
        simp only [spec_RunsOf.j1]
        rw [if_pos trivial, e1, if_pos (by omega), if_pos e4, e2, e3, w64_len (by omega) (by omega)]
      · rw [if_neg (by omega), if_pos (by omega), if_pos e4]
        by_cases h2 : v = r.f2
        · rw [if_pos (.inr h2)]
          simp only [spec_RunsOf.j1]
          rw [if_pos (by simp [h2]), e1, if_pos (by omega), if_pos e4, e2, e3, w64_len (by omega) (by omega)]
        · rw [if_neg (by omega)]
          simp only [spec_RunsOf.j1]
          rw [if_neg (by simpa using h2), e1, if_pos (by omega), if_pos e4, e2, w64_len (by omega) (by omega)]
          by_cases h3 : r.f2 = -1
          · rw [if_pos (by omega), if_pos h3, e3]
            simp only [Option.bind_some]
            have e5 : rd_T38 (q ++ [(⟨r.f0, (pre.length : Int) + 1, r.f2⟩ : Rn)]) (q.length : Int) = ⟨r.f0, (pre.length : Int) + 1, r.f2⟩ := rdRn_mid q _ []
            have e6 : ∀ y z : Rn, (q ++ [z]).set ((q.length : Int)).toNat y = q ++ [y] := fun y z => set_mid q z y []
            rw [if_pos (by omega), if_pos (len_mid pre v suf), rd_mid, e5, e6]
          · rw [if_neg (by omega), if_neg h3, if_pos (by omega), if_pos (len_mid pre v suf), if_pos (by simp; omega), rd_mid]
def runsOf (l : List Int) : List Rn := if okL l = true then runGo [] 0 l else []
theorem implRunsOf (l : List Int) (k : Nat) (hk : 200 ≤ k) : impl_RunsOf.f k l = some (runsOf l) := by
  unfold impl_RunsOf.f runsOf
  rw [implLevelsOk]
  simp only [Option.bind_some]
  by_cases h : okL l = true
  · have hl := okL_len h
    rw [if_pos h, if_pos h]
    have e : impl_runsOf.f k l = some (runGo [] 0 l) := implRuns_l0 l [] [] k (okL_all h) (.inl rfl) (by simp) (by simpa using hl) (by omega)
    rw [e]
    rfl
  · rw [if_neg h, if_neg h]
theorem specRunsOf (l : List Int) (hl : l.length ≤ 1048576) (k : Nat) (hk : l.length + 300 ≤ k) : spec_RunsOf.f k l = some (runsOf l) := by
  unfold spec_RunsOf.f runsOf
  rw [specL4Ok l hl k (by omega)]
  simp only [Option.bind_some]
  by_cases h : okL l = true
  · have hl := okL_len h
    rw [if_pos h, if_pos h]
    exact specRuns_l0 l [] [] k (okL_all h) (.inl rfl) (by simp) (by simpa using hl) (by omega)
  · rw [if_neg h, if_neg h]
theorem runGo_len : ∀ (vs : List Int) (out : List Rn) (i : Int), (∀ x ∈ vs, -1 ≤ x ∧ x ≤ 22) → LastOk out → (runGo out i vs).length ≤ out.length + vs.length
  | [], out, i, _, _ => Nat.le_refl _
  | v :: vs, out, i, hx, ho => by
    have h := runStep_last out i v (hx v List.mem_cons_self).1 ho
    have := runGo_len vs (runStep out i v) (i + 1) (fun y hy => hx y (List.mem_cons_of_mem _ hy)) h.1
    simp only [runGo, List.length_cons]
    omega
theorem runsOf_len (l : List Int) : (runsOf l).length ≤ 80 := by
  unfold runsOf
  split
  · rename_i h
    have := runGo_len l [] 0 (okL_all h) (.inl rfl)
    have := okL_len h
    simp at *
    omega
  · simp

/-- runs that lie one behind the other, each over letters of its level (or of none), neighbours of two levels -/
def Good (l : List Int) : Option Int → Int → List Rn → Int → Prop
  | _, s, [], e => s = e
  | p, s, r :: rs, e => r.f0 = s ∧ s < r.f1 ∧ (∀ t : Int, s ≤ t → t < r.f1 → rd l t < 0 ∨ rd l t = r.f2) ∧ p ≠ some r.f2 ∧ Good l (some r.f2) r.f1 rs e
def lastLv (p : Option Int) : List Rn → Option Int
  | [] => p
  | r :: rs => lastLv (some r.f2) rs
theorem good_snoc (l : List Int) (r : Rn) (e : Int) : ∀ (q : List Rn) (p : Option Int) (s : Int),
    Good l p s (q ++ [r]) e ↔ ∃ m, Good l p s q m ∧ r.f0 = m ∧ m < r.f1 ∧ (∀ t : Int, m ≤ t → t < r.f1 → rd l t < 0 ∨ rd l t = r.f2) ∧ lastLv p q ≠ some r.f2 ∧ r.f1 = e
  | [], p, s => by
    simp only [List.nil_append, Good, lastLv]
    constructor
    · rintro ⟨h1, h2, h3, h4, h5⟩
      exact ⟨s, rfl, h1, h2, h3, h4, h5⟩
    · rintro ⟨m, rfl, h1, h2, h3, h4, h5⟩
      exact ⟨h1, h2, h3, h4, h5⟩
  | x :: q, p, s => by
    simp only [List.cons_append, Good, lastLv]
    rw [good_snoc l r e q (some x.f2) x.f1]
    constructor
    · rintro ⟨h1, h2, h3, h4, m, h5, h6⟩
      exact ⟨m, ⟨h1, h2, h3, h4, h5⟩, h6⟩
    · rintro ⟨m, ⟨h1, h2, h3, h4, h5⟩, h6⟩
      exact ⟨h1, h2, h3, h4, m, h5, h6⟩
theorem good_le (l : List Int) : ∀ (q : List Rn) (p : Option Int) (s e : Int), Good l p s q e → s ≤ e
  | [], p, s, e, h => by
    simp only [Good] at h
    omega
  | r :: q, p, s, e, h => by
    simp only [Good] at h
    have := good_le l q _ _ _ h.2.2.2.2
    omega
def InvR (l : List Int) (out : List Rn) (i : Int) : Prop := (out = [] ∧ i = 0) ∨ ∃ q r, out = q ++ [r] ∧ Good l none 0 (q ++ [r]) i ∧ (r.f2 = -1 → q = []) ∧ -1 ≤ r.f2
theorem inv_step (l : List Int) (out : List Rn) (i : Int) (v : Int) (hi : 0 ≤ i) (hv : rd l i = v) (hv1 : -1 ≤ v) (h : InvR l out i) : InvR l (runStep out i v) (i + 1) := by
  rcases h with ⟨rfl, rfl⟩ | ⟨q, r, rfl, hg, hq, hr⟩
  · rw [runStep_nil]
    refine .inr ⟨[], _, rfl, ?_, fun _ => rfl, hv1⟩
    simp only [List.nil_append, Good]
    refine ⟨trivial, by omega, ?_, by simp, by simp⟩
    intro t h1 h2
    have : t = 0 := by omega
    subst this
    exact .inr hv
  · rw [runStep_snoc]
    obtain ⟨m, g1, g2, g3, g4, g5, g6⟩ := (good_snoc l r i q none 0).1 hg
    by_cases h1 : v = -1 ∨ v = r.f2
    · rw [if_pos h1]
      refine .inr ⟨q, _, rfl, (good_snoc l _ _ q none 0).2 ⟨m, g1, g2, by simp only; omega, ?_, g5, rfl⟩, hq, hr⟩
      intro t h2 h3
      simp only at h3
      by_cases ht : t < r.f1
      · exact g4 t h2 ht
      · have : t = i := by omega
        subst this
        simp only
        omega
    · rw [if_neg h1]
      by_cases h2 : r.f2 = -1
      · rw [if_pos h2]
        refine .inr ⟨q, _, rfl, (good_snoc l _ _ q none 0).2 ⟨m, g1, g2, by simp only; omega, ?_, by rw [hq h2]; simp [lastLv], rfl⟩, fun _ => hq h2, hv1⟩
        intro t h3 h4
        simp only at h4 ⊢
        by_cases ht : t < r.f1
        · have := g4 t h3 ht
          omega
        · have : t = i := by omega
          subst this
          omega
      · rw [if_neg h2]
        refine .inr ⟨q ++ [r], _, rfl, (good_snoc l _ _ (q ++ [r]) none 0).2 ⟨i, hg, rfl, by simp only; omega, ?_, ?_, rfl⟩, fun h => absurd h (by simp only; omega), hv1⟩
        · intro t h3 h4
          simp only at h4 ⊢
          have : t = i := by omega
          subst this
          omega
        · have hl : ∀ (q : List Rn) (p : Option Int), lastLv p (q ++ [r]) = some r.f2 := by
            intro q
            induction q with
            | nil => intro p; rfl
            | cons x q ih => intro p; simp only [List.cons_append, lastLv]; exact ih _
          rw [hl]
          simp only [ne_eq, Option.some.injEq]
          omega
theorem inv_all : ∀ (suf pre : List Int) (out : List Rn), (∀ x ∈ suf, -1 ≤ x) → InvR (pre ++ suf) out (pre.length : Int) → InvR (pre ++ suf) (runGo out (pre.length : Int) suf) ((pre ++ suf).length : Int)
  | [], pre, out, hx, h => by
    simpa [runGo] using h
  | v :: suf, pre, out, hx, h => by
    have h1 := inv_step (pre ++ v :: suf) out (pre.length : Int) v (by omega) (rd_mid pre v suf) (hx v List.mem_cons_self) h
    have ih := inv_all suf (pre ++ [v]) (runStep out (pre.length : Int) v) (fun y hy => hx y (List.mem_cons_of_mem _ hy))
    rw [len_snoc, ← app_cons] at ih
    simp only [runGo]
    exact ih h1
theorem good_runs (l : List Int) (hx : ∀ x ∈ l, -1 ≤ x) : Good l none 0 (runGo [] 0 l) (l.length : Int) := by
  have h : InvR l (runGo [] 0 l) (l.length : Int) := inv_all l [] [] hx (.inl ⟨rfl, rfl⟩)
  rcases h with ⟨h1, h2⟩ | ⟨q, r, h1, h2, _⟩
  · rw [h1]
    simp only [Good]
    omega
  · rw [h1]
    exact h2

/-! what is drawn: a reader of bytes -/
theorem xor_i64 (a b : Nat) (ha : a < 2 ^ 40) (hb : b < 2 ^ 40) : bits .xor .i64 (a : Int) (b : Int) = ((a ^^^ b : Nat) : Int) := by
  have hp : (2 : Nat) ^ 40 ≤ 2 ^ IntKind.i64.bits := by decide
  have ha' : a % 2 ^ IntKind.i64.bits = a := Nat.mod_eq_of_lt (Nat.lt_of_lt_of_le ha hp)
  have hb' : b % 2 ^ IntKind.i64.bits = b := Nat.mod_eq_of_lt (Nat.lt_of_lt_of_le hb hp)
  simp only [bits, BitVec.ofInt_natCast, BitVec.toNat_xor, BitVec.toNat_ofNat, ha', hb']
  have h := Nat.xor_lt_two_pow ha hb
  rw [IntKind.wrap_i64]
  omega
theorem xor_pos {x y : Int} (hx : 0 ≤ x) (hx' : x < 1099511627776) (hy : 0 ≤ y) (hy' : y < 1099511627776) : 0 ≤ bits .xor .i64 x y ∧ bits .xor .i64 x y < 1099511627776 := by
  obtain ⟨a, rfl⟩ := Int.eq_ofNat_of_zero_le hx
  obtain ⟨b, rfl⟩ := Int.eq_ofNat_of_zero_le hy
  have ha : a < 2 ^ 40 := by omega
  have hb : b < 2 ^ 40 := by omega
  rw [xor_i64 a b ha hb]
  have h := Nat.xor_lt_two_pow ha hb
  omega
theorem tmod_in {x n : Int} (hx : 0 ≤ x) (hn : 0 < n) : 0 ≤ Int.tmod x n ∧ Int.tmod x n < n := by
  rw [Int.tmod_eq_emod_of_nonneg hx]
  exact ⟨Int.emod_nonneg _ (by omega), Int.emod_lt_of_pos _ hn⟩
theorem tdiv_in {x n : Int} (hx : 0 ≤ x) (hn : 0 < n) : 0 ≤ Int.tdiv x n ∧ Int.tdiv x n ≤ x := by
  rw [Int.tdiv_eq_ediv_of_nonneg hx]
  exact ⟨Int.ediv_nonneg hx (by omega), Int.ediv_le_self _ hx⟩
/-- bytes -/
def Bytes (b : List Int) : Prop := b.length ≤ 2000 ∧ ∀ x ∈ b, 0 ≤ x ∧ x ≤ 255
theorem rd_byte {b : List Int} (hb : Bytes b) {i : Int} (h : i < b.length) (h0 : 0 ≤ i) : 0 ≤ rd b i ∧ rd b i ≤ 255 := by
  unfold rd
  have hi : i.toNat < b.length := by omega
  rw [List.getD_eq_getElem?_getD, List.getElem?_eq_getElem hi]
  exact hb.2 _ (List.getElem_mem hi)
theorem pick_ok {b : List Int} (hb : Bytes b) (p n : Int) (hp : 0 ≤ p) (hp' : p ≤ 1000000) (k : Nat) (hk : 1 ≤ k) :
    ∃ v, spec_l1Rd_pick.f k b p n = some (v, p + 1) ∧ 0 ≤ v ∧ (1 ≤ n → v < n) ∧ (n < 1 → v = 0) := by
  obtain ⟨k, rfl⟩ : ∃ m, k = m + 1 := ⟨k - 1, by omega⟩
  have hl := hb.1
  have e1 : wrap64 (p + 1) = p + 1 := w64 (by omega) (by omega)
  have e2 : wrap64 (p + 1 - 1) = p := by rw [w64 (by omega) (by omega)]; omega
  unfold spec_l1Rd_pick.f
  by_cases hn : n < 1
  · rw [if_pos hn, e1]
    simp only [spec_l1Rd_pick.j0, if_true]
    exact ⟨0, rfl, by omega, by omega, fun _ => rfl⟩
  · rw [if_neg hn, e1]
    by_cases h0 : b.length = 0
    · have e0 : ((b.length : Int) == 0) = true := by simp [h0]
      simp only [spec_l1Rd_pick.j0, e0, if_true]
      exact ⟨0, rfl, by omega, by omega, fun _ => rfl⟩
    · have e0 : ((b.length : Int) == 0) = false := by simp; intro h; exact h0 (by rw [h]; rfl)
      have hlen : (0 : Int) < b.length := by omega
      simp only [spec_l1Rd_pick.j0, e0, e2, Bool.false_eq_true, if_false]
      have hn0 : ¬ n = 0 := by omega
      by_cases hlt : p < (b.length : Int)
      · rw [if_pos hlt, if_pos hp, if_neg hn0]
        obtain ⟨r0, r1⟩ := rd_byte hb hlt hp
        rw [w64 (by omega) (by omega)]
        have h := tmod_in r0 (show 0 < n by omega)
        exact ⟨_, rfl, h.1, fun _ => h.2, fun h' => absurd h' hn⟩
      · have m1 := tmod_in hp hlen
        have e7 : wrap64 (wrap64 (p * 7) + 3) = p * 7 + 3 := by rw [w64 (x := p * 7) (by omega) (by omega), w64 (by omega) (by omega)]
        have m2 := tmod_in (show 0 ≤ p * 7 + 3 by omega) hlen
        have r1 := rd_byte hb m1.2 m1.1
        have r2 := rd_byte hb m2.2 m2.1
        have d1 := tdiv_in hp hlen
        rw [if_neg hlt, if_neg (by omega), if_pos m1.1, if_pos m1.2, e7, if_pos m2.1, if_pos m2.2, if_neg hn0]
        generalize rd b (Int.tmod p (b.length : Int)) = x1 at *
        generalize rd b (Int.tmod (p * 7 + 3) (b.length : Int)) = x2 at *
        generalize Int.tdiv p (b.length : Int) = x3 at *
        have eX : wrap64 (wrap64 (wrap64 (wrap64 (wrap64 x1 * 131) + wrap64 (wrap64 x2 * 1117)) + wrap64 (p * 29)) + wrap64 (wrap64 x3 * 53)) = x1 * 131 + x2 * 1117 + p * 29 + x3 * 53 := by
          rw [w64 (x := x1) (by omega) (by omega), w64 (x := x2) (by omega) (by omega), w64 (x := x3) (by omega) (by omega), w64 (x := x1 * 131) (by omega) (by omega), w64 (x := x2 * 1117) (by omega) (by omega), w64 (x := p * 29) (by omega) (by omega), w64 (x := x3 * 53) (by omega) (by omega), w64 (x := x1 * 131 + x2 * 1117) (by omega) (by omega), w64 (x := x1 * 131 + x2 * 1117 + p * 29) (by omega) (by omega), w64 (by omega) (by omega)]
        rw [eX]
        have hX0 : 0 ≤ x1 * 131 + x2 * 1117 + p * 29 + x3 * 53 := by omega
        have hX1 : x1 * 131 + x2 * 1117 + p * 29 + x3 * 53 < 1000000000 := by omega
        generalize x1 * 131 + x2 * 1117 + p * 29 + x3 * 53 = X at *
        have d2 := tdiv_in hX0 (show (0 : Int) < 64 by omega)
        rw [w64 (x := Int.tdiv X 64) (by omega) (by omega)]
        have hx := xor_pos hX0 (by omega) d2.1 (by omega)
        have h := tmod_in hx.1 (show 0 < n by omega)
        exact ⟨_, rfl, h.1, fun _ => h.2, fun h' => absurd h' hn⟩
theorem open_ok {l : List Int} (h : ∀ x ∈ l, (Lit.int .u8 x).wf = true) : ∃ b, spec_l1Open.f l = some (b, 0) ∧ Bytes b := by
  unfold spec_l1Open.f
  by_cases h1 : (l.length : Int) > 2000
  · rw [if_pos h1, if_pos (by omega)]
    exact ⟨_, rfl, by rw [List.length_take]; omega, fun x hx => in_u8 (h x (List.mem_of_mem_take hx))⟩
  · rw [if_neg h1]
    exact ⟨_, rfl, by omega, fun x hx => in_u8 (h x hx)⟩

theorem one_ok {b : List Int} (hb : Bytes b) (p : Int) (hp : 0 ≤ p) (hp' : p ≤ 1000000) (l : List Int) (hl : 1 ≤ l.length) (k : Nat) (hk : 1 ≤ k) :
    ∃ v, spec_l1Rd_one.f k b p l = some (v, p + 1) ∧ v ∈ l := by
  obtain ⟨v, e, h0, h1, _⟩ := pick_ok hb p (l.length : Int) hp hp' k hk
  unfold spec_l1Rd_one.f
  rw [e]
  simp only [Option.bind_some]
  have h2 := h1 (by omega)
  rw [if_pos h0, if_pos h2]
  refine ⟨_, rfl, ?_⟩
  unfold rd
  have hi : v.toNat < l.length := by omega
  rw [List.getD_eq_getElem?_getD, List.getElem?_eq_getElem hi]
  exact List.getElem_mem hi

def LvR (v : Int) : Prop := -2 ≤ v ∧ v ≤ 23
theorem levels_l0 {b : List Int} (hb : Bytes b) : ∀ (n : Nat) (out : List Int) (p : Int) (k : Nat), n ≤ 100 → 0 ≤ p → p + 5 * n ≤ 900000 → out.length + n ≤ 1000 → (∀ x ∈ out, LvR x) → n + 2 ≤ k →
    ∃ v q, spec_l13Levels.l0 k out (n : Int) b p = some (v, q) ∧ v.length ≤ out.length + n + 1 ∧ (∀ x ∈ v, LvR x) ∧ p ≤ q ∧ q ≤ p + 5 * n + 2
  | 0, out, p, k, hn, hp, hp', ho, hx, hk => by
    obtain ⟨k, rfl⟩ : ∃ m, k = m + 1 := ⟨k - 1, by omega⟩
    simp only [spec_l13Levels.l0]
    rw [if_neg (by omega)]
    obtain ⟨v, e, h0, h1, _⟩ := pick_ok hb p 16 hp (by omega) k (by omega)
    rw [e]
    simp only [Option.bind_some]
    by_cases hv : v = 0
    · rw [if_pos hv]
      obtain ⟨u, e1, h3⟩ := one_ok hb (p + 1) (by omega) (by omega) [-2, 23] (by simp) k (by omega)
      rw [e1]
      simp only [Option.bind_some]
      rw [if_pos (by omega)]
      refine ⟨_, _, rfl, by simp, ?_, by omega, by omega⟩
      intro x hx'
      rcases List.mem_append.1 hx' with h | h
      · exact hx x h
      · simp at h
        subst h
        simp at h3
        unfold LvR
        omega
    · rw [if_neg hv]
      exact ⟨_, _, rfl, by omega, hx, by omega, by omega⟩
  | n + 1, out, p, k, hn, hp, hp', ho, hx, hk => by
    obtain ⟨k, rfl⟩ : ∃ m, k = m + 1 := ⟨k - 1, by omega⟩
    simp only [spec_l13Levels.l0]
    rw [if_pos (by omega)]
    obtain ⟨v1, e1, a1, b1, _⟩ := pick_ok hb p 4 hp (by omega) k (by omega)
    have c1 := b1 (by omega)
    rw [e1]
    simp only [Option.bind_some]
    obtain ⟨v2, e2, a2, b2, _⟩ := pick_ok hb (p + 1) 3 (by omega) (by omega) k (by omega)
    have c2 := b2 (by omega)
    rw [e2]
    simp only [Option.bind_some]
    obtain ⟨v3, e3, a3, b3, _⟩ := pick_ok hb (p + 1 + 1) 23 (by omega) (by omega) k (by omega)
    have c3 := b3 (by omega)
    rw [e3]
    simp only [Option.bind_some]
    obtain ⟨v4, e4, a4, b4, _⟩ := pick_ok hb (p + 1 + 1 + 1) 10 (by omega) (by omega) k (by omega)
    have c4 := b4 (by omega)
    rw [e4]
    simp only [Option.bind_some]
    have hq : 0 ≤ Int.tdiv (v4 * 4) 10 ∧ Int.tdiv (v4 * 4) 10 < 4 := by
      rw [Int.tdiv_eq_ediv_of_nonneg (by omega)]
      omega
    have e5 : wrap64 (Int.tdiv (wrap64 (v4 * 4)) 10) = Int.tdiv (v4 * 4) 10 := by
      rw [w64 (x := v4 * 4) (by omega) (by omega), w64 (by omega) (by omega)]
    rw [e5, if_pos hq.1, if_pos (by simpa using hq.2), if_pos (by omega)]
    have e6 : wrap64 (((n + 1 : Nat) : Int) - 1) = (n : Int) := by rw [w64 (by omega) (by omega)]; omega
    rw [e6]
    have hm : LvR (rd [v1, v2, -1, v3] (Int.tdiv (v4 * 4) 10)) := by
      have : Int.tdiv (v4 * 4) 10 = 0 ∨ Int.tdiv (v4 * 4) 10 = 1 ∨ Int.tdiv (v4 * 4) 10 = 2 ∨ Int.tdiv (v4 * 4) 10 = 3 := by omega
      rcases this with h | h | h | h <;> rw [h] <;> simp only [rd] <;> unfold LvR <;> simp <;> omega
    obtain ⟨v, q, e7, h1, h2, h3, h4⟩ := levels_l0 hb n (out ++ [rd [v1, v2, -1, v3] (Int.tdiv (v4 * 4) 10)]) (p + 1 + 1 + 1 + 1) k (by omega) (by omega) (by omega) (by simp; omega) (by
      intro x hx'
      rcases List.mem_append.1 hx' with h | h
      · exact hx x h
      · simp at h
        subst h
        exact hm) (by omega)
    exact ⟨v, q, e7, by simp at h1; omega, h2, by omega, by omega⟩
theorem levels_ok {b : List Int} (hb : Bytes b) (p : Int) (hp : 0 ≤ p) (hp' : p ≤ 800000) (k : Nat) (hk : 20 ≤ k) :
    ∃ v q, spec_l13Levels.f k b p = some (v, q) ∧ v.length ≤ 15 ∧ (∀ x ∈ v, LvR x) ∧ p ≤ q ∧ q ≤ p + 100 := by
  obtain ⟨n, e, h0, h1, _⟩ := pick_ok hb p 14 hp (by omega) k (by omega)
  have h2 := h1 (by omega)
  unfold spec_l13Levels.f
  rw [e]
  simp only [Option.bind_some]
  obtain ⟨m, rfl⟩ : ∃ m : Nat, n = m := ⟨n.toNat, by omega⟩
  obtain ⟨v, q, e7, h1, h2, h3, h4⟩ := levels_l0 hb m [] (p + 1) k (by omega) (by omega) (by omega) (by simp; omega) (by simp) (by omega)
  exact ⟨v, q, e7, by simp at h1; omega, h2, by omega, by omega⟩

theorem drawRuns {l : List Int} (h : ∀ x ∈ l, (Lit.int .u8 x).wf = true) (k : Nat) (hk : 20 ≤ k) : ∃ v, spec_DrawRunsOf.f k l = some v ∧ v.length ≤ 15 ∧ ∀ x ∈ v, LvR x := by
  obtain ⟨b, e, hb⟩ := open_ok h
  unfold spec_DrawRunsOf.f
  rw [e]
  simp only [Option.bind_some]
  obtain ⟨v, q, e1, h1, h2, _⟩ := levels_ok hb 0 (by omega) (by omega) k hk
  rw [e1]
  exact ⟨v, rfl, h1, h2⟩
theorem runs_l1 (l : List Int) (x4 : List Rn) (x7 : Int) (r : Rn) (B : Nat) (h7 : 0 ≤ x7) (h7' : x7 < (x4.length : Int)) (hr : rd_T38 x4 x7 = r) (hl : l.length ≤ 80) (hf : r.f1 ≤ (l.length : Int))
    (hj : ∀ k', B ≤ k' → laws_FnRuns.l0 k' l x4 x4 r.f1 (wrap64 (x7 + 1)) = some true) : ∀ (n : Nat) (k : Nat), 0 ≤ r.f1 - n → (∀ t : Int, r.f1 - n ≤ t → t < r.f1 → rd l t < 0 ∨ rd l t = r.f2) → B + n + 1 ≤ k → laws_FnRuns.l1 k l x4 x4 x7 (r.f1 - n) = some true
  | 0, k, h0, hg, hk => by
    obtain ⟨k, rfl⟩ : ∃ m, k = m + 1 := ⟨k - 1, by omega⟩
    simp only [laws_FnRuns.l1]
    rw [if_pos h7, if_pos h7', hr, if_neg (by omega)]
    exact hj k (by omega)
  | n + 1, k, h0, hg, hk => by
    obtain ⟨k, rfl⟩ : ∃ m, k = m + 1 := ⟨k - 1, by omega⟩
    have ih := runs_l1 l x4 x7 r B h7 h7' hr hl hf hj n k (by omega) (fun t g1 g2 => hg t (by omega) g2) (by omega)
    have e : wrap64 (r.f1 - ((n + 1 : Nat) : Int) + 1) = r.f1 - n := by rw [w64 (by omega) (by omega)]; omega
    simp only [laws_FnRuns.l1]
    rw [if_pos h7, if_pos h7', hr, if_pos (by omega), if_pos h0, if_pos (by omega), e, ih]
    rcases hg (r.f1 - ((n + 1 : Nat) : Int)) (by omega) (by omega) with g | g
    · rw [if_neg (by omega)]
    · by_cases h3 : rd l (r.f1 - ((n + 1 : Nat) : Int)) ≥ 0
      · rw [if_pos h3, if_pos g]
      · rw [if_neg h3]
theorem lastLv_snoc (r : Rn) : ∀ (q : List Rn) (p : Option Int), lastLv p (q ++ [r]) = some r.f2
  | [], p => rfl
  | x :: q, p => lastLv_snoc r q _
theorem runs_l0 (l : List Int) (hl : l.length ≤ 80) (hpos : l.length = 0 → False) : ∀ (rs po : List Rn) (s : Int) (k : Nat), (po ++ rs).length ≤ 80 → (po ++ rs ≠ []) → 0 ≤ s → Good l (lastLv none po) s rs (l.length : Int) → 3 * rs.length + (l.length - s.toNat) + 1 ≤ k →
    laws_FnRuns.l0 k l (po ++ rs) (po ++ rs) s (po.length : Int) = some true
  | [], po, s, k, hpl, hne, h0, hg, hk => by
    obtain ⟨k, rfl⟩ : ∃ m, k = m + 1 := ⟨k - 1, by omega⟩
    simp only [Good] at hg
    simp only [laws_FnRuns.l0]
    rw [if_neg (len_end po)]
    have : ((po ++ []).length : Int) ≠ 0 := by
      intro h
      exact hne (List.eq_nil_of_length_eq_zero (by omega))
    rw [if_neg this, hg]
    simp
  | r :: rs, po, s, k, hpl, hne, h0, hg, hk => by
    obtain ⟨k, rfl⟩ : ∃ m, k = m + 2 := ⟨k - 2, by simp at hk; omega⟩
    simp only [Good] at hg
    obtain ⟨g1, g2, g3, g4, g5⟩ := hg
    have hle := good_le l rs _ _ _ g5
    have hpo : (po.length : Int) ≤ 80 := by simp at hpl; omega
    have ih := fun k hk => runs_l0 l hl hpos rs (po ++ [r]) r.f1 k (by simpa using hpl) (by simp) (by omega) (by rw [lastLv_snoc]; exact g5) hk
    simp only [len_snoc, ← app_cons] at ih
    have h1 := runs_l1 l (po ++ r :: rs) (po.length : Int) r (3 * rs.length + (l.length - r.f1.toNat) + 1) (by omega) (len_mid po r rs) (rdRn_mid po r rs) hl hle (fun k' hk' => by rw [w64_len (by omega) (by omega)]; exact ih k' hk') (r.f1 - s).toNat k (by omega) (fun t a b => g3 t (by omega) b) (by simp at hk; omega)
    have e : r.f1 - ((r.f1 - s).toNat : Int) = s := by omega
    rw [e] at h1
    simp only [laws_FnRuns.l0]
    rw [if_pos (len_mid po r rs), if_pos (by omega), if_pos (len_mid po r rs), rdRn_mid, if_neg (by simp), if_pos g1, if_neg (by omega)]
    by_cases hz : (po.length : Int) > 0
    · rw [if_pos hz, w64 (by omega) (by omega), if_pos (by omega), if_pos (by simp; omega)]
      obtain ⟨q, t, rfl⟩ : ∃ q t, po = q ++ [t] := by
        rcases List.eq_nil_or_concat po with h | ⟨q, t, h⟩
        · subst h; simp at hz
        · exact ⟨q, t, by simpa using h⟩
      have e1 : ((q ++ [t]).length : Int) - 1 = (q.length : Int) := by simp
      have e2 : rd_T38 ((q ++ [t]) ++ r :: rs) (q.length : Int) = t := by
        rw [List.append_assoc]
        exact rdRn_mid q t _
      rw [lastLv_snoc] at g4
      rw [e1, e2]
      have e3 : (t.f2 == r.f2) = false := by simpa using g4
      rw [e3]
      simp only [laws_FnRuns.j1]
      rw [if_neg (by simp)]
      exact h1
    · rw [if_neg hz]
      simp only [laws_FnRuns.j1]
      rw [if_neg (by simp)]
      exact h1
theorem FnRuns : laws_FnRuns.Pure := by
  intro l _ _ hl
  refine ⟨2000, ?_⟩
  unfold laws_FnRuns.f
  by_cases h0 : (l.length : Int) > 1048576
  · rw [if_pos h0]
  rw [if_neg h0]
  obtain ⟨v, e, hv, hr⟩ := drawRuns hl 2000 (by omega)
  have hol := runsOf_len v
  rw [e]
  simp only [Option.bind_some]
  rw [implRunsOf v _ (by omega), specRunsOf v (by omega) _ (by omega)]
  simp only [Option.bind_some, if_true]
  by_cases hz : runsOf v = []
  · rw [hz, show (2000 : Nat) = 1999 + 1 from rfl]
    simp only [laws_FnRuns.l0]
    simp
  · have hok : okL v = true := by
      cases h : okL v with
      | true => rfl
      | false => exact absurd (by unfold runsOf; simp [h]) hz
    have hg := good_runs v (fun x hx => (okL_all hok x hx).1)
    have e1 : runsOf v = runGo [] 0 v := by unfold runsOf; rw [if_pos hok]
    rw [← e1] at hg
    exact runs_l0 v (by omega) (fun h => hz (by rw [e1, List.eq_nil_of_length_eq_zero h]; rfl)) (runsOf v) [] 0 2000 (by simpa using hol) (by simpa using hz) (by omega) hg (by omega)

end Go.Proofs.Ytjnmpamnlfabbaa.Pure
