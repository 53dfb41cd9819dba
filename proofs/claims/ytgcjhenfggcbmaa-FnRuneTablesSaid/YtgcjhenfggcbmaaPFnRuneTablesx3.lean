-- Written by a program of this session (wip/tools) out of the translation; its shape is that of the kit print.
import Derived.Test.YtgcjhenfggcbmaaPFnRuneTablesx0
import Derived.Test.YtgcjhenfggcbmaaPFnRuneTablesx2
namespace Go.Proofs.Ytgcjhenfggcbmaa.PFnRuneTables
open Go.RowKit Go.Proofs.YtgcjhenfggcbmaaW.PrintWords Go.Proofs.YtgcjhenfggcbmaaW.PrintLast Go.Proofs.YtgcjhenfggcbmaaW.PrintMore
attribute [local go_sem] max2_int min2_int max_two min_two max_three min_three max_four min_four   -- for this text's walks alone
set_option linter.unusedVariables false
set_option linter.unusedSimpArgs false

def zR : S104 := z104
def cmpR (x : S104) (r : Int) : Int := if x.f0 ≤ r ∧ r ≤ x.f1 then 0 else if x.f0 < r then -1 else if x.f0 > r then 1 else 0
theorem find_1_cmp (x : S104) (r : Int) : impl_find_1.f x.f0 x.f1 x.f2 r = some (cmpR x r) := by
  unfold impl_find_1.f cmp_Compare_int.f cmp_isNaN_int.f cmpR
  by_cases h1 : r ≥ x.f0 <;> by_cases h2 : r ≤ x.f1 <;> by_cases h3 : x.f0 < r <;> by_cases h4 : x.f0 > r <;> simp [h1, h2, h3, h4] <;> omega
/-- ascending reaches, none empty -/
def ascR : List S104 → Bool
  | [] => true
  | [x] => decide (x.f0 ≤ x.f1)
  | x :: y :: r => decide (x.f0 ≤ x.f1) && decide (x.f1 < y.f0) && ascR (y :: r)
theorem ascR_one : ∀ (l : List S104), ascR l = true → ∀ i, i < l.length → (l.getD i z104).f0 ≤ (l.getD i z104).f1
  | [], _, i, h => absurd h (Nat.not_lt_zero _)
  | [x], h, i, hi => by
    have : i = 0 := by simp at hi; omega
    subst this
    simpa [ascR] using h
  | x :: y :: r, h, i, hi => by
    simp only [ascR, Bool.and_eq_true, decide_eq_true_eq] at h
    cases i with
    | zero => simpa using h.1.1
    | succ i => simpa using ascR_one (y :: r) h.2 i (by simpa using hi)
theorem ascR_two : ∀ (l : List S104), ascR l = true → ∀ i j, i < j → j < l.length → (l.getD i z104).f1 < (l.getD j z104).f0
  | [], _, _, _, _, h => absurd h (Nat.not_lt_zero _)
  | [x], h, i, j, hij, hj => by simp at hj; omega
  | x :: y :: r, h, i, j, hij, hj => by
    have h' := h
    simp only [ascR, Bool.and_eq_true, decide_eq_true_eq] at h
    cases j with
    | zero => omega
    | succ j =>
      cases i with
      | zero =>
        cases j with
        | zero => simpa using h.1.2
        | succ j =>
          have h1 := ascR_two (y :: r) h.2 0 (j + 1) (by omega) (by simpa using hj)
          have h2 := ascR_one (y :: r) h.2 0 (by simp)
          simp only [List.getD_cons_zero, List.getD_cons_succ] at h1 h2 ⊢
          omega
      | succ i => simpa using ascR_two (y :: r) h.2 i j (by omega) (by simpa using hj)
def hitR (x : S104) (r : Int) : Bool := decide (x.f0 ≤ r) && decide (r ≤ x.f1)
def lookR (l : List S104) (r other : Int) : Int := ((l.find? fun x => hitR x r).map (·.f2)).getD other
theorem lookR_hit : ∀ (l : List S104) (i : Nat) (r o : Int), i < l.length → hitR (l.getD i z104) r = true → (∀ k, k < i → hitR (l.getD k z104) r = false) → lookR l r o = (l.getD i z104).f2
  | [], _, _, _, h, _, _ => absurd h (Nat.not_lt_zero _)
  | x :: xs, 0, r, o, _, hh, _ => by
    have h1 : hitR x r = true := by simpa using hh
    simp [lookR, List.find?_cons, h1]
  | x :: xs, i + 1, r, o, h, hh, hm => by
    have h1 : hitR x r = false := by simpa using hm 0 (by omega)
    have := lookR_hit xs i r o (by simpa using h) (by simpa using hh) (fun k hk => by simpa using hm (k + 1) (by omega))
    simp only [lookR] at this ⊢
    simpa [List.find?_cons, h1] using this
theorem lookR_miss : ∀ (l : List S104) (r o : Int), (∀ k, k < l.length → hitR (l.getD k z104) r = false) → lookR l r o = o
  | [], _, _, _ => rfl
  | x :: xs, r, o, hm => by
    have h1 : hitR x r = false := by simpa using hm 0 (by simp)
    have := lookR_miss xs r o (fun k hk => by simpa using hm (k + 1) (by simpa using hk))
    simp only [lookR] at this ⊢
    simpa [List.find?_cons, h1] using this
def BsPost (l0 : List S104) (a1 : Int) (w : World) (e : Ending) (w' : World) : Prop :=
  ∃ (i : Nat) (b : Bool), e = .returned (.tuple #[.int .i64 i, .bool b]) ∧ (b = true → i < l0.length ∧ hitR (l0.getD i z104) a1 = true) ∧ (b = false → ∀ k, k < l0.length → hitR (l0.getD k z104) a1 = false) ∧ Below w.heap.size w w'
theorem cmpR_lt {x : S104} {r : Int} (h : x.f0 ≤ x.f1) : cmpR x r < 0 ↔ x.f1 < r := by
  unfold cmpR
  split
  · omega
  · split
    · omega
    · split <;> omega
theorem cmpR_eq {x : S104} {r : Int} (h : x.f0 ≤ x.f1) : cmpR x r = 0 ↔ hitR x r = true := by
  unfold cmpR hitR
  simp only [Bool.and_eq_true, decide_eq_true_eq]
  split
  · omega
  · split
    · omega
    · split <;> omega
theorem bs_none {l0 : List S104} {a1 : Int} {j : Nat} (ha : ascR l0 = true) (hl : ∀ k, k < j → (l0.getD k z104).f1 < a1) (hg : ∀ k, j ≤ k → k < l0.length → ¬ (l0.getD k z104).f1 < a1) (hj : hitR (l0.getD j z104) a1 = false) (k : Nat) (hk : k < l0.length) : hitR (l0.getD k z104) a1 = false := by
  by_cases h1 : k < j
  · have h2 := hl k h1
    unfold hitR
    simp only [Bool.and_eq_false_iff, decide_eq_false_iff_not]
    omega
  · by_cases h2 : k = j
    · subst h2; exact hj
    · have h3 := ascR_two l0 ha j k (by omega) hk
      have h4 := hg j (Nat.le_refl _) (by omega)
      unfold hitR
      simp only [Bool.and_eq_false_iff, decide_eq_false_iff_not]
      omega
set_option maxHeartbeats 4000000 in
set_option maxRecDepth 100000 in
theorem bs_calls (A0 : Option Addr) (c0 : Nat) (l0 : List S104) (a1 : Int) (w : World) (hr0 : Kd.C k104 w A0 l0.length l0) (hc0 : l0.length ≤ c0) (ha : ascR l0 = true) (hsz : l0.length ≤ 1000000) :
    Calls Try.prog 119 #[.slice A0 l0.length c0, .int .i64 a1, .func (.func 120) #[] #[]] w (BsPost l0 a1 w) := by
  have hu104 := Try.underlying104
  have HR0 := Aside0.mk hr0
  have HA := Aside0.mk ha
  clear hr0 ha
  go_enter Try.func119, Try.ntmps119
  go_wp2
  go_loopg [9, 10] l0.length (fun gg v9 v10 wr => ∃ i j : Nat, v9 = .int .i64 i ∧ v10 = .int .i64 j ∧ i ≤ j ∧ j ≤ l0.length ∧ j - i ≤ gg ∧ Aside0 (∀ k, k < i → (l0.getD k z104).f1 < a1) ∧ Aside0 (∀ k, j ≤ k → k < l0.length → ¬ (l0.getD k z104).f1 < a1) ∧ Aside0 (Below w.heap.size w wr))
  case atStart => exact ⟨0, l0.length, rfl, rfl, Nat.zero_le _, Nat.le_refl _, by omega, ⟨fun k hk => absurd hk (Nat.not_lt_zero _)⟩, ⟨fun k h1 h2 => absurd h2 (by omega)⟩, ⟨Below.refl _ _⟩⟩
  case round =>
    obtain ⟨i, j, rfl, rfl, hij, hj, hg, HL, HG, HB⟩ := hrel
    by_cases hlt : i < j
    · have hltz : (i : Int) < (j : Int) := by omega
      obtain ⟨m, hm⟩ : ∃ m : Nat, (m : Int) = ((i : Int) + (j : Int)) / 2 := ⟨(i + j) / 2, by omega⟩
      have hm1 : i ≤ m := by omega
      have hm2 : m < j := by omega
      have p0 : 0 ≤ ((i : Int) + (j : Int)) / 2 := by omega
      have q0 : ((i : Int) + (j : Int)) / 2 < (l0.length : Int) := by omega
      obtain ⟨ad, e0, hx0, hx1, hx2⟩ := at_T104 HR0.out (((i : Int) + (j : Int)) / 2) p0 q0
      have ht : (((i : Int) + (j : Int)) / 2).toNat = (i + j) / 2 := by omega
      rw [ht] at hx0 hx1 hx2
      clear ht
      cases e0
      replace hx0 := (HB.out.cell (World.block_lt_of_cell? w _ hx0)).trans hx0
      replace hx1 := (HB.out.cell (World.block_lt_of_cell? w _ hx1)).trans hx1
      replace hx2 := (HB.out.cell (World.block_lt_of_cell? w _ hx2)).trans hx2
      have hone := ascR_one l0 HA.out m (by omega)
      have Hrd : Aside0 (rd_T104 l0 (((i : Int) + (j : Int)) / 2) = l0.getD m z104) := ⟨by unfold rd_T104; rw [← hm, Int.toNat_natCast]⟩
      generalize hy : rd_T104 l0 (((i : Int) + (j : Int)) / 2) = y at hx0 hx1 hx2 Hrd
      have Hy := Aside0.mk (Hrd.out.symm)
      clear hy Hrd
      have hcall := fun W => impl_find_1.calls y.f0 y.f1 y.f2 a1 _ W (find_1_cmp y a1)
      by_cases hc : cmpR y a1 < 0
      · have hcB : decide (cmpR y a1 < 0) = true := decide_eq_true hc
        have Hup : Aside0 ((l0.getD m z104).f1 < a1) := ⟨by rw [Hy.out]; rw [Hy.out] at hone; exact (cmpR_lt hone).mp hc⟩
        have Hm := Aside0.mk hm
        clear hm hone hc
        have HCall := Aside0.mk hcall
        clear hcall
        go_wp2_with (go_at_call 120; refine (HCall.out _).mono ?_; rintro e w' ⟨rfl, hb⟩)
        go_roundg (gk - 1)
        case measure => omega
        case rel => exact ⟨m + 1, j, by rw [← Hm.out]; go_num, rfl, by omega, by omega, by omega, ⟨fun k hk => by
          by_cases e : k = m
          · subst e; exact Hup.out
          · have h1 := ascR_two l0 HA.out k m (by omega) (by omega)
            have h2 := ascR_one l0 HA.out m (by omega)
            have h3 := Hup.out
            omega⟩, HG, ⟨HB.out.trans (hb.mono HB.out.size)⟩⟩
      · have hcB : decide (cmpR y a1 < 0) = false := decide_eq_false hc
        have Hup : Aside0 (¬ (l0.getD m z104).f1 < a1) := ⟨by rw [Hy.out]; rw [Hy.out] at hone; exact fun h => hc ((cmpR_lt hone).mpr h)⟩
        have Hm := Aside0.mk hm
        clear hm hone hc
        have HCall := Aside0.mk hcall
        clear hcall
        go_wp2_with (go_at_call 120; refine (HCall.out _).mono ?_; rintro e w' ⟨rfl, hb⟩)
        go_roundg (gk - 1)
        case measure => omega
        case rel => exact ⟨i, m, rfl, by rw [← Hm.out], by omega, by omega, by omega, HL, ⟨fun k h1 h2 => by
          by_cases e : k = m
          · subst e; exact Hup.out
          · have h3 := ascR_two l0 HA.out m k (by omega) (by omega)
            have h4 := ascR_one l0 HA.out k (by omega)
            have h5 := Hup.out
            omega⟩, ⟨HB.out.trans (hb.mono HB.out.size)⟩⟩
    · have hltz : ¬ (i : Int) < (j : Int) := by omega
      have hji : j = i := by omega
      subst hji
      by_cases hn : j < l0.length
      · have hnz : (j : Int) < (l0.length : Int) := by omega
        obtain ⟨ad, e0, hx0, hx1, hx2⟩ := at_T104 HR0.out (j : Int) (by omega) (by omega)
        rw [Int.toNat_natCast] at hx0 hx1 hx2
        cases e0
        replace hx0 := (HB.out.cell (World.block_lt_of_cell? w _ hx0)).trans hx0
        replace hx1 := (HB.out.cell (World.block_lt_of_cell? w _ hx1)).trans hx1
        replace hx2 := (HB.out.cell (World.block_lt_of_cell? w _ hx2)).trans hx2
        have hone := ascR_one l0 HA.out j (by omega)
        have Hrd : Aside0 (rd_T104 l0 (j : Int) = l0.getD j z104) := ⟨by unfold rd_T104; rw [Int.toNat_natCast]⟩
        generalize hy : rd_T104 l0 (j : Int) = y at hx0 hx1 hx2 Hrd
        have Hy := Aside0.mk (Hrd.out.symm)
        clear hy Hrd
        have HCall := Aside0.mk (fun W => impl_find_1.calls y.f0 y.f1 y.f2 a1 _ W (find_1_cmp y a1))
        have Hone := Aside0.mk hone
        clear hone
        go_wp2_with (go_at_call 120; refine (HCall.out _).mono ?_; rintro e w' ⟨rfl, hb⟩)
        go_ret2
        refine ⟨j, (cmpR y a1 == 0), rfl, fun hb1 => ⟨hn, ?_⟩, fun hb1 k hk => ?_, HB.out.trans (hb.mono HB.out.size)⟩
        · rw [Hy.out]
          have h1 := Hone.out
          rw [Hy.out] at h1
          exact (cmpR_eq h1).mp (by simpa using hb1)
        · have h1 := Hone.out
          have h2 : ¬ cmpR y a1 = 0 := by simpa using hb1
          have h3 : ¬ hitR (l0.getD j z104) a1 = true := by rw [Hy.out]; rw [Hy.out] at h1; exact fun h => h2 ((cmpR_eq h1).mpr h)
          exact bs_none HA.out HL.out (fun k h4 h5 => by have := HG.out k h4 h5; omega) (by simpa using h3) k hk
      · have hnz : ¬ (j : Int) < (l0.length : Int) := by omega
        go_wp2
        go_ret2
        refine ⟨j, false, rfl, (fun hb1 => by cases hb1), fun _ k hk => ?_, HB.out⟩
        have h1 := HL.out k (by omega)
        unfold hitR
        simp only [Bool.and_eq_false_iff, decide_eq_false_iff_not]
        omega
def impl_find.f (l0 : List S104) (a1 : Int) (a2 : Int) : Option Int := if ascR l0 = true ∧ l0.length ≤ 1000000 then some (lookR l0 a1 a2) else none
theorem asc_hit {l0 : List S104} {a1 : Int} (ha : ascR l0 = true) {i k : Nat} (hi : i < l0.length) (hh : hitR (l0.getD i z104) a1 = true) (hk : k < i) : hitR (l0.getD k z104) a1 = false := by
  have h3 := ascR_two l0 ha k i hk hi
  unfold hitR at hh ⊢
  simp only [Bool.and_eq_true, decide_eq_true_eq] at hh
  simp only [Bool.and_eq_false_iff, decide_eq_false_iff_not]
  omega
set_option maxHeartbeats 4000000 in
set_option maxRecDepth 100000 in
theorem impl_find.calls (A0 : Option Addr) (c0 : Nat) (l0 : List S104) (a1 : Int) (a2 : Int) (r : Int) (w : World) (hr0 : Kd.C k104 w A0 l0.length l0) (hc0 : l0.length ≤ c0) (h : impl_find.f l0 a1 a2 = some r) :
    Calls Try.prog 71 #[.slice A0 l0.length c0, .int .i64 a1, .int .i64 a2] w fun e w' => e = .returned (.int .i64 r) ∧ Below w.heap.size w w' := by
  unfold impl_find.f at h
  split at h
  case isFalse => exact absurd h (by simp)
  case isTrue hs =>
  have H := Aside0.mk (Option.some.inj h)
  clear h
  obtain ⟨ha, hsz⟩ := hs
  have HC := Aside0.mk (fun W => bs_calls A0 c0 l0 a1 W)
  have HR0 := Aside0.mk hr0
  have HA := Aside0.mk ha
  have hu104 := Try.underlying104
  clear hr0 ha
  go_enter Try.func71, Try.ntmps71
  go_wp2_with (fail)
  refine (HC.out _ HR0.out hc0 HA.out hsz).mono ?_
  rintro e w' ⟨i, b, rfl, ht, hf, hb⟩
  have HT := Aside0.mk ht
  have HF := Aside0.mk hf
  clear ht hf
  cases b with
  | true =>
    obtain ⟨hi, hh⟩ := HT.out rfl
    have Hh := Aside0.mk hh
    obtain ⟨ad, e0, hx0, hx1, hx2⟩ := at_T104 HR0.out (i : Int) (by omega) (by omega)
    rw [Int.toNat_natCast] at hx0 hx1 hx2
    cases e0
    replace hx0 := (hb.cell (World.block_lt_of_cell? w _ hx0)).trans hx0
    replace hx1 := (hb.cell (World.block_lt_of_cell? w _ hx1)).trans hx1
    replace hx2 := (hb.cell (World.block_lt_of_cell? w _ hx2)).trans hx2
    have hiz : (i : Int) < (l0.length : Int) := by omega
    clear hh
    go_wp2
    go_ret
    refine ⟨?_, hb⟩
    rw [← H.out, lookR_hit l0 i a1 a2 hi Hh.out (fun k hk => asc_hit HA.out hi Hh.out hk)]
    simp [rd_T104]
  | false =>
    go_wp2
    go_ret
    refine ⟨?_, hb⟩
    rw [← H.out, lookR_miss l0 a1 a2 (HF.out (by trivial))]
    rfl


/-! ### impl_bidiReaches: function 72 -/
def impl_bidiReaches.f  : Option ((List (S104))) := some (([(⟨9, 9, 11⟩ : S104), (⟨32, 32, 12⟩ : S104), (⟨35, 37, 6⟩ : S104), (⟨43, 43, 5⟩ : S104), (⟨44, 44, 8⟩ : S104), (⟨45, 45, 5⟩ : S104), (⟨46, 47, 8⟩ : S104), (⟨48, 57, 4⟩ : S104), (⟨58, 58, 8⟩ : S104), (⟨65, 90, 1⟩ : S104), (⟨97, 122, 1⟩ : S104), (⟨173, 173, 10⟩ : S104), (⟨768, 879, 9⟩ : S104), (⟨1488, 1514, 2⟩ : S104), (⟨1569, 1610, 3⟩ : S104), (⟨1632, 1641, 7⟩ : S104), (⟨8203, 8203, 10⟩ : S104), (⟨8205, 8205, 10⟩ : S104), (⟨8234, 8234, 14⟩ : S104), (⟨8235, 8235, 15⟩ : S104), (⟨8236, 8236, 16⟩ : S104), (⟨8237, 8237, 17⟩ : S104), (⟨8238, 8238, 18⟩ : S104), (⟨8294, 8294, 19⟩ : S104), (⟨8295, 8295, 20⟩ : S104), (⟨8296, 8296, 21⟩ : S104), (⟨8297, 8297, 22⟩ : S104), (⟨19968, 40959, 1⟩ : S104)] : List (S104)))
set_option maxHeartbeats 8000000 in
set_option maxRecDepth 100000 in
theorem impl_bidiReaches.calls  (r : List (S104)) (w : World) (h : impl_bidiReaches.f  = some r) :
    Calls Try.prog 72 #[] w fun e w' => ∃ v0_ : Value, e = .returned (v0_) ∧ Kd.R k104 104 w' w.heap.size (fun _ => True) v0_ r ∧ Below w.heap.size w w' := by
  have hu104 := Try.underlying104
  have HB := Aside0.mk (Below.refl w.heap.size w)
  have H : (some (([(⟨9, 9, 11⟩ : S104), (⟨32, 32, 12⟩ : S104), (⟨35, 37, 6⟩ : S104), (⟨43, 43, 5⟩ : S104), (⟨44, 44, 8⟩ : S104), (⟨45, 45, 5⟩ : S104), (⟨46, 47, 8⟩ : S104), (⟨48, 57, 4⟩ : S104), (⟨58, 58, 8⟩ : S104), (⟨65, 90, 1⟩ : S104), (⟨97, 122, 1⟩ : S104), (⟨173, 173, 10⟩ : S104), (⟨768, 879, 9⟩ : S104), (⟨1488, 1514, 2⟩ : S104), (⟨1569, 1610, 3⟩ : S104), (⟨1632, 1641, 7⟩ : S104), (⟨8203, 8203, 10⟩ : S104), (⟨8205, 8205, 10⟩ : S104), (⟨8234, 8234, 14⟩ : S104), (⟨8235, 8235, 15⟩ : S104), (⟨8236, 8236, 16⟩ : S104), (⟨8237, 8237, 17⟩ : S104), (⟨8238, 8238, 18⟩ : S104), (⟨8294, 8294, 19⟩ : S104), (⟨8295, 8295, 20⟩ : S104), (⟨8296, 8296, 21⟩ : S104), (⟨8297, 8297, 22⟩ : S104), (⟨19968, 40959, 1⟩ : S104)] : List (S104)))) = some r := h
  clear h
  obtain ⟨y179, hy179⟩ : ∃ y_ : List (S104), y_ = (([(⟨9, 9, 11⟩ : S104), (⟨32, 32, 12⟩ : S104), (⟨35, 37, 6⟩ : S104), (⟨43, 43, 5⟩ : S104), (⟨44, 44, 8⟩ : S104), (⟨45, 45, 5⟩ : S104), (⟨46, 47, 8⟩ : S104), (⟨48, 57, 4⟩ : S104), (⟨58, 58, 8⟩ : S104), (⟨65, 90, 1⟩ : S104), (⟨97, 122, 1⟩ : S104), (⟨173, 173, 10⟩ : S104), (⟨768, 879, 9⟩ : S104), (⟨1488, 1514, 2⟩ : S104), (⟨1569, 1610, 3⟩ : S104), (⟨1632, 1641, 7⟩ : S104), (⟨8203, 8203, 10⟩ : S104), (⟨8205, 8205, 10⟩ : S104), (⟨8234, 8234, 14⟩ : S104), (⟨8235, 8235, 15⟩ : S104), (⟨8236, 8236, 16⟩ : S104), (⟨8237, 8237, 17⟩ : S104), (⟨8238, 8238, 18⟩ : S104), (⟨8294, 8294, 19⟩ : S104), (⟨8295, 8295, 20⟩ : S104), (⟨8296, 8296, 21⟩ : S104), (⟨8297, 8297, 22⟩ : S104), (⟨19968, 40959, 1⟩ : S104)] : List (S104))) := ⟨_, rfl⟩
  replace H : (some y179) = some r := by first | (rw [hy179]; with_reducible exact H) | (have H2_ := (Option.bind_some _ _).symm.trans H; rw [hy179]; with_reducible exact H2_) | (have H2_ := (Option.bind_some _ _).symm.trans H; with_reducible exact H2_) | with_reducible exact H | (rw [hy179]; exact H) | exact H
  have Ny179 := Aside0.mk hy179
  clear hy179
  obtain rfl := Option.some.inj H
  go_enter Try.func72, Try.ntmps72
  go_wp2_with (first | ((with_reducible refine gate_dst (N := 29) rfl ?_); refine Kd.R_lit k104 _ 104 ?hg (N := 29) ?hd (xs := ([(⟨9, 9, 11⟩ : S104), (⟨32, 32, 12⟩ : S104), (⟨35, 37, 6⟩ : S104), (⟨43, 43, 5⟩ : S104), (⟨44, 44, 8⟩ : S104), (⟨45, 45, 5⟩ : S104), (⟨46, 47, 8⟩ : S104), (⟨48, 57, 4⟩ : S104), (⟨58, 58, 8⟩ : S104), (⟨65, 90, 1⟩ : S104), (⟨97, 122, 1⟩ : S104), (⟨173, 173, 10⟩ : S104), (⟨768, 879, 9⟩ : S104), (⟨1488, 1514, 2⟩ : S104), (⟨1569, 1610, 3⟩ : S104), (⟨1632, 1641, 7⟩ : S104), (⟨8203, 8203, 10⟩ : S104), (⟨8205, 8205, 10⟩ : S104), (⟨8234, 8234, 14⟩ : S104), (⟨8235, 8235, 15⟩ : S104), (⟨8236, 8236, 16⟩ : S104), (⟨8237, 8237, 17⟩ : S104), (⟨8238, 8238, 18⟩ : S104), (⟨8294, 8294, 19⟩ : S104), (⟨8295, 8295, 20⟩ : S104), (⟨8296, 8296, 21⟩ : S104), (⟨8297, 8297, 22⟩ : S104), (⟨19968, 40959, 1⟩ : S104)] : List (S104))) (inner := [.int .i64 9, .int .i64 9, .int .i64 11, .int .i64 32, .int .i64 32, .int .i64 12, .int .i64 35, .int .i64 37, .int .i64 6, .int .i64 43, .int .i64 43, .int .i64 5, .int .i64 44, .int .i64 44, .int .i64 8, .int .i64 45, .int .i64 45, .int .i64 5, .int .i64 46, .int .i64 47, .int .i64 8, .int .i64 48, .int .i64 57, .int .i64 4, .int .i64 58, .int .i64 58, .int .i64 8, .int .i64 65, .int .i64 90, .int .i64 1, .int .i64 97, .int .i64 122, .int .i64 1, .int .i64 173, .int .i64 173, .int .i64 10, .int .i64 768, .int .i64 879, .int .i64 9, .int .i64 1488, .int .i64 1514, .int .i64 2, .int .i64 1569, .int .i64 1610, .int .i64 3, .int .i64 1632, .int .i64 1641, .int .i64 7, .int .i64 8203, .int .i64 8203, .int .i64 10, .int .i64 8205, .int .i64 8205, .int .i64 10, .int .i64 8234, .int .i64 8234, .int .i64 14, .int .i64 8235, .int .i64 8235, .int .i64 15, .int .i64 8236, .int .i64 8236, .int .i64 16, .int .i64 8237, .int .i64 8237, .int .i64 17, .int .i64 8238, .int .i64 8238, .int .i64 18, .int .i64 8294, .int .i64 8294, .int .i64 19, .int .i64 8295, .int .i64 8295, .int .i64 20, .int .i64 8296, .int .i64 8296, .int .i64 21, .int .i64 8297, .int .i64 8297, .int .i64 22, .int .i64 19968, .int .i64 40959, .int .i64 1]) (ok := fun _ => True) (okp := fun _ => True) ?hr ?hp (fun _ hk => hk) trivial (Below.refl _ _) (Nat.le_refl _) (by simp) ?_; (case hd => rfl); (case hg => rfl); (case hr => first | (go_simp; done) | (go_simp; rfl)); (case hp => exact (Reps.c3 (show Kd.M k104 _ _ _ (⟨9, 9, 11⟩ : S104) [.int .i64 9, .int .i64 9, .int .i64 11] from (k104_mkM _ _ _ (⟨9, 9, 11⟩ : S104) )) (Reps.c3 (show Kd.M k104 _ _ _ (⟨32, 32, 12⟩ : S104) [.int .i64 32, .int .i64 32, .int .i64 12] from (k104_mkM _ _ _ (⟨32, 32, 12⟩ : S104) )) (Reps.c3 (show Kd.M k104 _ _ _ (⟨35, 37, 6⟩ : S104) [.int .i64 35, .int .i64 37, .int .i64 6] from (k104_mkM _ _ _ (⟨35, 37, 6⟩ : S104) )) (Reps.c3 (show Kd.M k104 _ _ _ (⟨43, 43, 5⟩ : S104) [.int .i64 43, .int .i64 43, .int .i64 5] from (k104_mkM _ _ _ (⟨43, 43, 5⟩ : S104) )) (Reps.c3 (show Kd.M k104 _ _ _ (⟨44, 44, 8⟩ : S104) [.int .i64 44, .int .i64 44, .int .i64 8] from (k104_mkM _ _ _ (⟨44, 44, 8⟩ : S104) )) (Reps.c3 (show Kd.M k104 _ _ _ (⟨45, 45, 5⟩ : S104) [.int .i64 45, .int .i64 45, .int .i64 5] from (k104_mkM _ _ _ (⟨45, 45, 5⟩ : S104) )) (Reps.c3 (show Kd.M k104 _ _ _ (⟨46, 47, 8⟩ : S104) [.int .i64 46, .int .i64 47, .int .i64 8] from (k104_mkM _ _ _ (⟨46, 47, 8⟩ : S104) )) (Reps.c3 (show Kd.M k104 _ _ _ (⟨48, 57, 4⟩ : S104) [.int .i64 48, .int .i64 57, .int .i64 4] from (k104_mkM _ _ _ (⟨48, 57, 4⟩ : S104) )) (Reps.c3 (show Kd.M k104 _ _ _ (⟨58, 58, 8⟩ : S104) [.int .i64 58, .int .i64 58, .int .i64 8] from (k104_mkM _ _ _ (⟨58, 58, 8⟩ : S104) )) (Reps.c3 (show Kd.M k104 _ _ _ (⟨65, 90, 1⟩ : S104) [.int .i64 65, .int .i64 90, .int .i64 1] from (k104_mkM _ _ _ (⟨65, 90, 1⟩ : S104) )) (Reps.c3 (show Kd.M k104 _ _ _ (⟨97, 122, 1⟩ : S104) [.int .i64 97, .int .i64 122, .int .i64 1] from (k104_mkM _ _ _ (⟨97, 122, 1⟩ : S104) )) (Reps.c3 (show Kd.M k104 _ _ _ (⟨173, 173, 10⟩ : S104) [.int .i64 173, .int .i64 173, .int .i64 10] from (k104_mkM _ _ _ (⟨173, 173, 10⟩ : S104) )) (Reps.c3 (show Kd.M k104 _ _ _ (⟨768, 879, 9⟩ : S104) [.int .i64 768, .int .i64 879, .int .i64 9] from (k104_mkM _ _ _ (⟨768, 879, 9⟩ : S104) )) (Reps.c3 (show Kd.M k104 _ _ _ (⟨1488, 1514, 2⟩ : S104) [.int .i64 1488, .int .i64 1514, .int .i64 2] from (k104_mkM _ _ _ (⟨1488, 1514, 2⟩ : S104) )) (Reps.c3 (show Kd.M k104 _ _ _ (⟨1569, 1610, 3⟩ : S104) [.int .i64 1569, .int .i64 1610, .int .i64 3] from (k104_mkM _ _ _ (⟨1569, 1610, 3⟩ : S104) )) (Reps.c3 (show Kd.M k104 _ _ _ (⟨1632, 1641, 7⟩ : S104) [.int .i64 1632, .int .i64 1641, .int .i64 7] from (k104_mkM _ _ _ (⟨1632, 1641, 7⟩ : S104) )) (Reps.c3 (show Kd.M k104 _ _ _ (⟨8203, 8203, 10⟩ : S104) [.int .i64 8203, .int .i64 8203, .int .i64 10] from (k104_mkM _ _ _ (⟨8203, 8203, 10⟩ : S104) )) (Reps.c3 (show Kd.M k104 _ _ _ (⟨8205, 8205, 10⟩ : S104) [.int .i64 8205, .int .i64 8205, .int .i64 10] from (k104_mkM _ _ _ (⟨8205, 8205, 10⟩ : S104) )) (Reps.c3 (show Kd.M k104 _ _ _ (⟨8234, 8234, 14⟩ : S104) [.int .i64 8234, .int .i64 8234, .int .i64 14] from (k104_mkM _ _ _ (⟨8234, 8234, 14⟩ : S104) )) (Reps.c3 (show Kd.M k104 _ _ _ (⟨8235, 8235, 15⟩ : S104) [.int .i64 8235, .int .i64 8235, .int .i64 15] from (k104_mkM _ _ _ (⟨8235, 8235, 15⟩ : S104) )) (Reps.c3 (show Kd.M k104 _ _ _ (⟨8236, 8236, 16⟩ : S104) [.int .i64 8236, .int .i64 8236, .int .i64 16] from (k104_mkM _ _ _ (⟨8236, 8236, 16⟩ : S104) )) (Reps.c3 (show Kd.M k104 _ _ _ (⟨8237, 8237, 17⟩ : S104) [.int .i64 8237, .int .i64 8237, .int .i64 17] from (k104_mkM _ _ _ (⟨8237, 8237, 17⟩ : S104) )) (Reps.c3 (show Kd.M k104 _ _ _ (⟨8238, 8238, 18⟩ : S104) [.int .i64 8238, .int .i64 8238, .int .i64 18] from (k104_mkM _ _ _ (⟨8238, 8238, 18⟩ : S104) )) (Reps.c3 (show Kd.M k104 _ _ _ (⟨8294, 8294, 19⟩ : S104) [.int .i64 8294, .int .i64 8294, .int .i64 19] from (k104_mkM _ _ _ (⟨8294, 8294, 19⟩ : S104) )) (Reps.c3 (show Kd.M k104 _ _ _ (⟨8295, 8295, 20⟩ : S104) [.int .i64 8295, .int .i64 8295, .int .i64 20] from (k104_mkM _ _ _ (⟨8295, 8295, 20⟩ : S104) )) (Reps.c3 (show Kd.M k104 _ _ _ (⟨8296, 8296, 21⟩ : S104) [.int .i64 8296, .int .i64 8296, .int .i64 21] from (k104_mkM _ _ _ (⟨8296, 8296, 21⟩ : S104) )) (Reps.c3 (show Kd.M k104 _ _ _ (⟨8297, 8297, 22⟩ : S104) [.int .i64 8297, .int .i64 8297, .int .i64 22] from (k104_mkM _ _ _ (⟨8297, 8297, 22⟩ : S104) )) (Reps.c3 (show Kd.M k104 _ _ _ (⟨19968, 40959, 1⟩ : S104) [.int .i64 19968, .int .i64 40959, .int .i64 1] from (k104_mkM _ _ _ (⟨19968, 40959, 1⟩ : S104) )) (Reps.none _ _)))))))))))))))))))))))))))))); intro v180 w1 ho2 hb hg_ hnew_; clear hg_ hnew_; (first | rw [← Ny179.out] at ho2 | (simp only [Int.reduceToNat] at ho2; rw [← Ny179.out] at ho2)); have n0_ := Aside0.mk (Kd.R_lower ho2 (below_size (by repeat (first | (with_reducible first | exact HB.out | apply below_alloc | apply pw_below_drewN | apply below_drew1) | exact HB.out)))); have n1_ := Aside0.mk (below_step (by repeat (first | (with_reducible first | exact HB.out | apply below_alloc | apply pw_below_drewN | apply below_drew1) | exact HB.out)) hb); clear HB; have HO181 := n0_; have HB := n1_; clear n0_ n1_; clear hb ho2))
  go_ret
  exact ⟨_, by first | rfl | (simp [errW_none, errW_some] <;> rfl) | (simp [*, errW_none, errW_some] <;> rfl), by (with_reducible repeat (first | apply Kd.R_alloc | apply Kd.R_drewN | apply Kd.R_drew)); exact HO181.out, by repeat (first | (with_reducible first | exact HB.out | apply below_alloc | apply pw_below_drewN | apply below_drew1) | exact HB.out)⟩

/-! ### impl_RuneBidi: function 27 -/
def impl_RuneBidi.f (a0 : Int) : Option (Int) := (impl_bidiReaches.f).bind fun t182 => ((impl_find.f t182 a0 13).bind fun t185 => (some t185))
set_option maxHeartbeats 8000000 in
set_option maxRecDepth 100000 in
theorem impl_RuneBidi.calls (a0 : Int) (r : Int) (w : World) (h : impl_RuneBidi.f a0 = some r) :
    Calls Try.prog 27 #[.int .i64 a0] w fun e w' => e = .returned (.int .i64 r) ∧ Below w.heap.size w w' := by
  have HB := Aside0.mk (Below.refl w.heap.size w)
  have H : ((impl_bidiReaches.f).bind fun t182 => ((impl_find.f t182 a0 13).bind fun t185 => (some t185))) = some r := h
  clear h
  replace H := Option.bind_eq_some_iff.mp H
  obtain ⟨t182, A20, H⟩ := H
  replace H : ((impl_find.f t182 a0 13).bind fun t185 => (some t185)) = some r := H
  have A2 := Aside0.mk A20
  clear A20
  replace H := Option.bind_eq_some_iff.mp H
  obtain ⟨t185, A30, H⟩ := H
  replace H : (some t185) = some r := H
  have A3 := Aside0.mk A30
  clear A30
  obtain rfl := Option.some.inj H
  go_enter Try.func27, Try.ntmps27
  go_wp2_with (first | ((with_reducible refine gate_callee (f := 72) rfl ?_); refine goesL_ (some 3) rfl rfl Try.func72 (by kernel_rfl) rfl #[] rfl (by (try simp only [List.map_toArray, List.map_cons, List.map_nil]); first | done | rfl | (simp only [List.length_drop, List.length_take]; rfl)) ?_; (with_reducible refine (impl_bidiReaches.calls  t182 _ A2.out).mono ?_); rintro e w4 ⟨v183, rfl, ho0, hb⟩; refine ⟨_, rfl, ?_⟩; have n0_ := Aside0.mk (Kd.R_lower ho0 (below_size (by repeat (first | (with_reducible first | exact HB.out | apply below_alloc | apply pw_below_drewN | apply below_drew1) | exact HB.out)))); have n1_ := Aside0.mk (below_step (by repeat (first | (with_reducible first | exact HB.out | apply below_alloc | apply pw_below_drewN | apply below_drew1) | exact HB.out)) hb); clear HB; have HO184 := n0_; have HB := n1_; clear n0_ n1_; (try clear hb); (try clear hb2); (try clear hk); (try clear hi); (try clear ho0); obtain ⟨Ao5, co5, eo5⟩ := Kd.R_slice HO184.out; subst eo5) | ((with_reducible refine gate_callee (f := 71) rfl ?_); refine goesL_ (some 5) rfl rfl Try.func71 (by kernel_rfl) rfl #[.slice Ao5 t182.length co5, .int .i64 a0, .int .i64 13] rfl (by (try simp only [List.map_toArray, List.map_cons, List.map_nil]); first | done | rfl | (simp only [List.length_drop, List.length_take]; rfl)) ?_; (with_reducible refine (impl_find.calls _ _ t182 a0 13 t185 _ ?side1 ?side2 A3.out).mono ?_); (case side1 => repeat (first | exact (Kd.R_reads' HO184.out).2.2 | (with_reducible refine Kd.C_alloc ?_ _) | (with_reducible refine Kd.C_drewN ?_ _) | (with_reducible refine Kd.C_drew ?_))); (case side2 => exact (Kd.R_reads' HO184.out).2.1); rintro e w6 ⟨rfl, hb⟩; refine ⟨_, rfl, ?_⟩; have n0_ := Aside0.mk (Kd.R_below (by (with_reducible repeat (first | apply Kd.R_alloc | apply Kd.R_drewN | apply Kd.R_drew)); exact HO184.out) hb); have n1_ := Aside0.mk (below_step (by repeat (first | (with_reducible first | exact HB.out | apply below_alloc | apply pw_below_drewN | apply below_drew1) | exact HB.out)) hb); clear HO184; clear HB; have HO184 := n0_; have HB := n1_; clear n0_ n1_; (try clear hb); (try clear hb2); (try clear hk); (try clear hi)))
  go_ret
  exact ⟨by first | rfl | (simp [errW_none, errW_some] <;> rfl) | (simp [*, errW_none, errW_some] <;> rfl), by repeat (first | (with_reducible first | exact HB.out | apply below_alloc | apply pw_below_drewN | apply below_drew1) | exact HB.out)⟩

/-! ### impl_lineReaches: function 73 -/
def impl_lineReaches.f  : Option ((List (S104))) := some (([(⟨9, 9, 14⟩ : S104), (⟨10, 10, 4⟩ : S104), (⟨32, 32, 3⟩ : S104), (⟨33, 33, 10⟩ : S104), (⟨34, 34, 11⟩ : S104), (⟨40, 40, 8⟩ : S104), (⟨41, 41, 9⟩ : S104), (⟨44, 44, 13⟩ : S104), (⟨45, 45, 12⟩ : S104), (⟨46, 47, 13⟩ : S104), (⟨48, 57, 2⟩ : S104), (⟨58, 59, 13⟩ : S104), (⟨63, 63, 10⟩ : S104), (⟨91, 91, 8⟩ : S104), (⟨93, 93, 9⟩ : S104), (⟨123, 123, 8⟩ : S104), (⟨125, 125, 9⟩ : S104), (⟨160, 160, 5⟩ : S104), (⟨173, 173, 14⟩ : S104), (⟨1632, 1641, 2⟩ : S104), (⟨8203, 8203, 6⟩ : S104), (⟨8205, 8205, 7⟩ : S104), (⟨19968, 40959, 15⟩ : S104)] : List (S104)))
set_option maxHeartbeats 8000000 in
set_option maxRecDepth 100000 in
theorem impl_lineReaches.calls  (r : List (S104)) (w : World) (h : impl_lineReaches.f  = some r) :
    Calls Try.prog 73 #[] w fun e w' => ∃ v0_ : Value, e = .returned (v0_) ∧ Kd.R k104 104 w' w.heap.size (fun _ => True) v0_ r ∧ Below w.heap.size w w' := by
  have hu104 := Try.underlying104
  have HB := Aside0.mk (Below.refl w.heap.size w)
  have H : (some (([(⟨9, 9, 14⟩ : S104), (⟨10, 10, 4⟩ : S104), (⟨32, 32, 3⟩ : S104), (⟨33, 33, 10⟩ : S104), (⟨34, 34, 11⟩ : S104), (⟨40, 40, 8⟩ : S104), (⟨41, 41, 9⟩ : S104), (⟨44, 44, 13⟩ : S104), (⟨45, 45, 12⟩ : S104), (⟨46, 47, 13⟩ : S104), (⟨48, 57, 2⟩ : S104), (⟨58, 59, 13⟩ : S104), (⟨63, 63, 10⟩ : S104), (⟨91, 91, 8⟩ : S104), (⟨93, 93, 9⟩ : S104), (⟨123, 123, 8⟩ : S104), (⟨125, 125, 9⟩ : S104), (⟨160, 160, 5⟩ : S104), (⟨173, 173, 14⟩ : S104), (⟨1632, 1641, 2⟩ : S104), (⟨8203, 8203, 6⟩ : S104), (⟨8205, 8205, 7⟩ : S104), (⟨19968, 40959, 15⟩ : S104)] : List (S104)))) = some r := h
  clear h
  obtain ⟨y186, hy186⟩ : ∃ y_ : List (S104), y_ = (([(⟨9, 9, 14⟩ : S104), (⟨10, 10, 4⟩ : S104), (⟨32, 32, 3⟩ : S104), (⟨33, 33, 10⟩ : S104), (⟨34, 34, 11⟩ : S104), (⟨40, 40, 8⟩ : S104), (⟨41, 41, 9⟩ : S104), (⟨44, 44, 13⟩ : S104), (⟨45, 45, 12⟩ : S104), (⟨46, 47, 13⟩ : S104), (⟨48, 57, 2⟩ : S104), (⟨58, 59, 13⟩ : S104), (⟨63, 63, 10⟩ : S104), (⟨91, 91, 8⟩ : S104), (⟨93, 93, 9⟩ : S104), (⟨123, 123, 8⟩ : S104), (⟨125, 125, 9⟩ : S104), (⟨160, 160, 5⟩ : S104), (⟨173, 173, 14⟩ : S104), (⟨1632, 1641, 2⟩ : S104), (⟨8203, 8203, 6⟩ : S104), (⟨8205, 8205, 7⟩ : S104), (⟨19968, 40959, 15⟩ : S104)] : List (S104))) := ⟨_, rfl⟩
  replace H : (some y186) = some r := by first | (rw [hy186]; with_reducible exact H) | (have H2_ := (Option.bind_some _ _).symm.trans H; rw [hy186]; with_reducible exact H2_) | (have H2_ := (Option.bind_some _ _).symm.trans H; with_reducible exact H2_) | with_reducible exact H | (rw [hy186]; exact H) | exact H
  have Ny186 := Aside0.mk hy186
  clear hy186
  obtain rfl := Option.some.inj H
  go_enter Try.func73, Try.ntmps73
  go_wp2_with (first | ((with_reducible refine gate_dst (N := 24) rfl ?_); refine Kd.R_lit k104 _ 104 ?hg (N := 24) ?hd (xs := ([(⟨9, 9, 14⟩ : S104), (⟨10, 10, 4⟩ : S104), (⟨32, 32, 3⟩ : S104), (⟨33, 33, 10⟩ : S104), (⟨34, 34, 11⟩ : S104), (⟨40, 40, 8⟩ : S104), (⟨41, 41, 9⟩ : S104), (⟨44, 44, 13⟩ : S104), (⟨45, 45, 12⟩ : S104), (⟨46, 47, 13⟩ : S104), (⟨48, 57, 2⟩ : S104), (⟨58, 59, 13⟩ : S104), (⟨63, 63, 10⟩ : S104), (⟨91, 91, 8⟩ : S104), (⟨93, 93, 9⟩ : S104), (⟨123, 123, 8⟩ : S104), (⟨125, 125, 9⟩ : S104), (⟨160, 160, 5⟩ : S104), (⟨173, 173, 14⟩ : S104), (⟨1632, 1641, 2⟩ : S104), (⟨8203, 8203, 6⟩ : S104), (⟨8205, 8205, 7⟩ : S104), (⟨19968, 40959, 15⟩ : S104)] : List (S104))) (inner := [.int .i64 9, .int .i64 9, .int .i64 14, .int .i64 10, .int .i64 10, .int .i64 4, .int .i64 32, .int .i64 32, .int .i64 3, .int .i64 33, .int .i64 33, .int .i64 10, .int .i64 34, .int .i64 34, .int .i64 11, .int .i64 40, .int .i64 40, .int .i64 8, .int .i64 41, .int .i64 41, .int .i64 9, .int .i64 44, .int .i64 44, .int .i64 13, .int .i64 45, .int .i64 45, .int .i64 12, .int .i64 46, .int .i64 47, .int .i64 13, .int .i64 48, .int .i64 57, .int .i64 2, .int .i64 58, .int .i64 59, .int .i64 13, .int .i64 63, .int .i64 63, .int .i64 10, .int .i64 91, .int .i64 91, .int .i64 8, .int .i64 93, .int .i64 93, .int .i64 9, .int .i64 123, .int .i64 123, .int .i64 8, .int .i64 125, .int .i64 125, .int .i64 9, .int .i64 160, .int .i64 160, .int .i64 5, .int .i64 173, .int .i64 173, .int .i64 14, .int .i64 1632, .int .i64 1641, .int .i64 2, .int .i64 8203, .int .i64 8203, .int .i64 6, .int .i64 8205, .int .i64 8205, .int .i64 7, .int .i64 19968, .int .i64 40959, .int .i64 15]) (ok := fun _ => True) (okp := fun _ => True) ?hr ?hp (fun _ hk => hk) trivial (Below.refl _ _) (Nat.le_refl _) (by simp) ?_; (case hd => rfl); (case hg => rfl); (case hr => first | (go_simp; done) | (go_simp; rfl)); (case hp => exact (Reps.c3 (show Kd.M k104 _ _ _ (⟨9, 9, 14⟩ : S104) [.int .i64 9, .int .i64 9, .int .i64 14] from (k104_mkM _ _ _ (⟨9, 9, 14⟩ : S104) )) (Reps.c3 (show Kd.M k104 _ _ _ (⟨10, 10, 4⟩ : S104) [.int .i64 10, .int .i64 10, .int .i64 4] from (k104_mkM _ _ _ (⟨10, 10, 4⟩ : S104) )) (Reps.c3 (show Kd.M k104 _ _ _ (⟨32, 32, 3⟩ : S104) [.int .i64 32, .int .i64 32, .int .i64 3] from (k104_mkM _ _ _ (⟨32, 32, 3⟩ : S104) )) (Reps.c3 (show Kd.M k104 _ _ _ (⟨33, 33, 10⟩ : S104) [.int .i64 33, .int .i64 33, .int .i64 10] from (k104_mkM _ _ _ (⟨33, 33, 10⟩ : S104) )) (Reps.c3 (show Kd.M k104 _ _ _ (⟨34, 34, 11⟩ : S104) [.int .i64 34, .int .i64 34, .int .i64 11] from (k104_mkM _ _ _ (⟨34, 34, 11⟩ : S104) )) (Reps.c3 (show Kd.M k104 _ _ _ (⟨40, 40, 8⟩ : S104) [.int .i64 40, .int .i64 40, .int .i64 8] from (k104_mkM _ _ _ (⟨40, 40, 8⟩ : S104) )) (Reps.c3 (show Kd.M k104 _ _ _ (⟨41, 41, 9⟩ : S104) [.int .i64 41, .int .i64 41, .int .i64 9] from (k104_mkM _ _ _ (⟨41, 41, 9⟩ : S104) )) (Reps.c3 (show Kd.M k104 _ _ _ (⟨44, 44, 13⟩ : S104) [.int .i64 44, .int .i64 44, .int .i64 13] from (k104_mkM _ _ _ (⟨44, 44, 13⟩ : S104) )) (Reps.c3 (show Kd.M k104 _ _ _ (⟨45, 45, 12⟩ : S104) [.int .i64 45, .int .i64 45, .int .i64 12] from (k104_mkM _ _ _ (⟨45, 45, 12⟩ : S104) )) (Reps.c3 (show Kd.M k104 _ _ _ (⟨46, 47, 13⟩ : S104) [.int .i64 46, .int .i64 47, .int .i64 13] from (k104_mkM _ _ _ (⟨46, 47, 13⟩ : S104) )) (Reps.c3 (show Kd.M k104 _ _ _ (⟨48, 57, 2⟩ : S104) [.int .i64 48, .int .i64 57, .int .i64 2] from (k104_mkM _ _ _ (⟨48, 57, 2⟩ : S104) )) (Reps.c3 (show Kd.M k104 _ _ _ (⟨58, 59, 13⟩ : S104) [.int .i64 58, .int .i64 59, .int .i64 13] from (k104_mkM _ _ _ (⟨58, 59, 13⟩ : S104) )) (Reps.c3 (show Kd.M k104 _ _ _ (⟨63, 63, 10⟩ : S104) [.int .i64 63, .int .i64 63, .int .i64 10] from (k104_mkM _ _ _ (⟨63, 63, 10⟩ : S104) )) (Reps.c3 (show Kd.M k104 _ _ _ (⟨91, 91, 8⟩ : S104) [.int .i64 91, .int .i64 91, .int .i64 8] from (k104_mkM _ _ _ (⟨91, 91, 8⟩ : S104) )) (Reps.c3 (show Kd.M k104 _ _ _ (⟨93, 93, 9⟩ : S104) [.int .i64 93, .int .i64 93, .int .i64 9] from (k104_mkM _ _ _ (⟨93, 93, 9⟩ : S104) )) (Reps.c3 (show Kd.M k104 _ _ _ (⟨123, 123, 8⟩ : S104) [.int .i64 123, .int .i64 123, .int .i64 8] from (k104_mkM _ _ _ (⟨123, 123, 8⟩ : S104) )) (Reps.c3 (show Kd.M k104 _ _ _ (⟨125, 125, 9⟩ : S104) [.int .i64 125, .int .i64 125, .int .i64 9] from (k104_mkM _ _ _ (⟨125, 125, 9⟩ : S104) )) (Reps.c3 (show Kd.M k104 _ _ _ (⟨160, 160, 5⟩ : S104) [.int .i64 160, .int .i64 160, .int .i64 5] from (k104_mkM _ _ _ (⟨160, 160, 5⟩ : S104) )) (Reps.c3 (show Kd.M k104 _ _ _ (⟨173, 173, 14⟩ : S104) [.int .i64 173, .int .i64 173, .int .i64 14] from (k104_mkM _ _ _ (⟨173, 173, 14⟩ : S104) )) (Reps.c3 (show Kd.M k104 _ _ _ (⟨1632, 1641, 2⟩ : S104) [.int .i64 1632, .int .i64 1641, .int .i64 2] from (k104_mkM _ _ _ (⟨1632, 1641, 2⟩ : S104) )) (Reps.c3 (show Kd.M k104 _ _ _ (⟨8203, 8203, 6⟩ : S104) [.int .i64 8203, .int .i64 8203, .int .i64 6] from (k104_mkM _ _ _ (⟨8203, 8203, 6⟩ : S104) )) (Reps.c3 (show Kd.M k104 _ _ _ (⟨8205, 8205, 7⟩ : S104) [.int .i64 8205, .int .i64 8205, .int .i64 7] from (k104_mkM _ _ _ (⟨8205, 8205, 7⟩ : S104) )) (Reps.c3 (show Kd.M k104 _ _ _ (⟨19968, 40959, 15⟩ : S104) [.int .i64 19968, .int .i64 40959, .int .i64 15] from (k104_mkM _ _ _ (⟨19968, 40959, 15⟩ : S104) )) (Reps.none _ _))))))))))))))))))))))))); intro v187 w1 ho2 hb hg_ hnew_; clear hg_ hnew_; (first | rw [← Ny186.out] at ho2 | (simp only [Int.reduceToNat] at ho2; rw [← Ny186.out] at ho2)); have n0_ := Aside0.mk (Kd.R_lower ho2 (below_size (by repeat (first | (with_reducible first | exact HB.out | apply below_alloc | apply pw_below_drewN | apply below_drew1) | exact HB.out)))); have n1_ := Aside0.mk (below_step (by repeat (first | (with_reducible first | exact HB.out | apply below_alloc | apply pw_below_drewN | apply below_drew1) | exact HB.out)) hb); clear HB; have HO188 := n0_; have HB := n1_; clear n0_ n1_; clear hb ho2))
  go_ret
  exact ⟨_, by first | rfl | (simp [errW_none, errW_some] <;> rfl) | (simp [*, errW_none, errW_some] <;> rfl), by (with_reducible repeat (first | apply Kd.R_alloc | apply Kd.R_drewN | apply Kd.R_drew)); exact HO188.out, by repeat (first | (with_reducible first | exact HB.out | apply below_alloc | apply pw_below_drewN | apply below_drew1) | exact HB.out)⟩

/-! ### impl_RuneLine: function 28 -/
def impl_RuneLine.j0 : Nat → Int → Bool → Option (Int)
  | 0, _, _ => none
  | k + 1, x0, x11 => if x11 = true then (some 7) else ((impl_lineReaches.f).bind fun t190 => ((impl_find.f t190 x0 1).bind fun t193 => (some t193)))
def impl_RuneLine.f (k : Nat) (a0 : Int) : Option (Int) := (impl_RuneBidi.f a0).bind fun t189 => (if t189 = 9 then (impl_RuneLine.j0 k a0 true) else (impl_RuneLine.j0 k a0 (decide (t189 ≥ 14))))
theorem impl_RuneLine.mono_l : ∀ k, (∀ y0 y1, LeO (impl_RuneLine.j0 k y0 y1) (impl_RuneLine.j0 (k + 1) y0 y1))
  | 0 => fun _ _ r h => by simp [impl_RuneLine.j0] at h
  | k + 1 => by
    have ih0 := impl_RuneLine.mono_l k
    · intro y0 y1
      unfold impl_RuneLine.j0
      repeat' first
      | (with_reducible exact ih0 _ _)
      | (with_reducible exact LeO.refl _)
      | (with_reducible exact LeO.none _)
      | (with_reducible refine LeO.ite ?_ ?_)
      | (with_reducible refine LeO.bind ?_ (fun _ => ?_))
      | exact ih0 _ _
      | exact LeO.none _
      | refine LeO.ite ?_ ?_
      | refine LeO.bind ?_ (fun _ => ?_)
theorem impl_RuneLine.mono : ∀ a0 k, LeO (impl_RuneLine.f k a0) (impl_RuneLine.f (k + 1) a0) := by
  intro a0 k
  have ih0 := impl_RuneLine.mono_l k
  unfold impl_RuneLine.f
  repeat' first
      | (with_reducible exact ih0 _ _)
      | (with_reducible exact LeO.refl _)
      | (with_reducible exact LeO.none _)
      | (with_reducible refine LeO.ite ?_ ?_)
      | (with_reducible refine LeO.bind ?_ (fun _ => ?_))
      | exact ih0 _ _
      | exact LeO.none _
      | refine LeO.ite ?_ ?_
      | refine LeO.bind ?_ (fun _ => ?_)
set_option maxHeartbeats 8000000 in
set_option maxRecDepth 100000 in
theorem impl_RuneLine.calls (k : Nat) (a0 : Int) (r : Int) (w : World) (h : impl_RuneLine.f k a0 = some r) :
    Calls Try.prog 28 #[.int .i64 a0] w fun e w' => e = .returned (.int .i64 r) ∧ Below w.heap.size w w' := by
  have HB := Aside0.mk (Below.refl w.heap.size w)
  have H : ((impl_RuneBidi.f a0).bind fun t189 => (if t189 = 9 then (impl_RuneLine.j0 k a0 true) else (impl_RuneLine.j0 k a0 (decide (t189 ≥ 14))))) = some r := h
  clear h
  replace H := Option.bind_eq_some_iff.mp H
  obtain ⟨t189, A20, H⟩ := H
  replace H : (if t189 = 9 then (impl_RuneLine.j0 k a0 true) else (impl_RuneLine.j0 k a0 (decide (t189 ≥ 14)))) = some r := H
  have A2 := Aside0.mk A20
  clear A20
  have HC3 := Aside0.mk H
  clear H
  go_enter Try.func28, Try.ntmps28
  go_upto_region 2 with (first | ((with_reducible refine gate_callee (f := 27) rfl ?_); refine goesL_ (some 5) rfl rfl Try.func27 (by kernel_rfl) rfl #[.int .i64 a0] rfl (by (try simp only [List.map_toArray, List.map_cons, List.map_nil]); first | done | rfl | (simp only [List.length_drop, List.length_take]; rfl)) ?_; (with_reducible refine (impl_RuneBidi.calls a0 t189 _ A2.out).mono ?_); rintro e w4 ⟨rfl, hb⟩; refine ⟨_, rfl, ?_⟩; have n0_ := Aside0.mk (below_step (by repeat (first | (with_reducible first | exact HB.out | apply below_alloc | apply pw_below_drewN | apply below_drew1) | exact HB.out)) hb); clear HB; have HB := n0_; clear n0_; (try clear hb); (try clear hb2); (try clear hk); (try clear hi)))
  (try simp only [Act.put, List.setIfInBounds_toArray, List.set_cons_zero, List.set_cons_succ])
  go_cut [11] (fun v11 wc => ∃ (kq : Nat) (x11_2 : Bool), v11 = .bool x11_2 ∧ Aside0 (impl_RuneLine.j0 kq a0 x11_2 = some r) ∧ Aside0 (kq ≤ k) ∧ Aside0 (Below w.heap.size w wc))
  case first =>
    have H := HC3.out
    clear HC3
    by_cases c5 : t189 = 9
    · rw [if_pos c5] at H
      have c5b0 : (t189 == 9) = true := beq_iff_eq.mpr c5
      have c5b1 : (t189 != 9) = false := bne_eq_false_iff_eq.mpr c5
      clear c5
      (first | rw [c5b0] | (simp only [i64_w, i32_w]; rw [c5b0]) | skip)
      have H' := Aside0.mk H
      clear H
      go_wp2
      go_meet
      case rel => exact ⟨_, (true), (by first | rfl | (simp; done) | (simp [*]; done)), H', ⟨by first | omega | exact Nat.le_refl _⟩, ⟨by repeat (first | (with_reducible first | exact HB.out | apply below_alloc | apply pw_below_drewN | apply below_drew1) | exact HB.out)⟩⟩
    · rw [if_neg c5] at H
      have c5b0 : (t189 == 9) = false := beq_eq_false_iff_ne.mpr c5
      have c5b1 : (t189 != 9) = true := bne_iff_ne.mpr c5
      (first | rw [c5b0] | (simp only [i64_w, i32_w]; rw [c5b0]) | skip)
      have H' := Aside0.mk H
      clear H
      go_wp2
      go_meet
      case rel => exact ⟨_, (decide (t189 ≥ 14)), (by first | rfl | (simp; done) | (simp [*]; done)), H', ⟨by first | omega | exact Nat.le_refl _⟩, ⟨by repeat (first | (with_reducible first | exact HB.out | apply below_alloc | apply pw_below_drewN | apply below_drew1) | exact HB.out)⟩⟩
  case rest =>
    clear HC3
    try clear c2
    try clear p2
    try clear c5
    try clear c5b0
    try clear c5b1
    obtain ⟨kq, x11_2, rfl, HA, HJ2, HB⟩ := hcut
    cases kq with
    | zero => exact absurd HA.out (by simp [impl_RuneLine.j0])
    | succ kj2 =>
      have H := HA.out
      clear HA
      simp only [impl_RuneLine.j0] at H
      by_cases c6 : x11_2 = true
      · subst c6
        have H1 : (some 7) = some r := by rw [if_pos rfl] at H; exact H
        clear H
        have H := H1
        clear H1
        obtain rfl := Option.some.inj H
        go_wp2
        go_ret
        exact ⟨by first | rfl | (simp [errW_none, errW_some] <;> rfl) | (simp [*, errW_none, errW_some] <;> rfl), by repeat (first | (with_reducible first | exact HB.out | apply below_alloc | apply pw_below_drewN | apply below_drew1) | exact HB.out)⟩
      · replace c6 := Bool.eq_false_iff.mpr c6
        subst c6
        have H1 : ((impl_lineReaches.f).bind fun t190 => ((impl_find.f t190 a0 1).bind fun t193 => (some t193))) = some r := by rw [if_neg (show ¬ (false = true) by decide)] at H; exact H
        clear H
        have H := H1
        clear H1
        replace H := Option.bind_eq_some_iff.mp H
        obtain ⟨t190, A70, H⟩ := H
        replace H : ((impl_find.f t190 a0 1).bind fun t193 => (some t193)) = some r := H
        have A7 := Aside0.mk A70
        clear A70
        replace H := Option.bind_eq_some_iff.mp H
        obtain ⟨t193, A80, H⟩ := H
        replace H : (some t193) = some r := H
        have A8 := Aside0.mk A80
        clear A80
        obtain rfl := Option.some.inj H
        go_wp2_with (first | ((with_reducible refine gate_callee (f := 73) rfl ?_); refine goesL_ (some 12) rfl rfl Try.func73 (by kernel_rfl) rfl #[] rfl (by (try simp only [List.map_toArray, List.map_cons, List.map_nil]); first | done | rfl | (simp only [List.length_drop, List.length_take]; rfl)) ?_; (with_reducible refine (impl_lineReaches.calls  t190 _ A7.out).mono ?_); rintro e w9 ⟨v191, rfl, ho0, hb⟩; refine ⟨_, rfl, ?_⟩; have n0_ := Aside0.mk (Kd.R_lower ho0 (below_size (by repeat (first | (with_reducible first | exact HB.out | apply below_alloc | apply pw_below_drewN | apply below_drew1) | exact HB.out)))); have n1_ := Aside0.mk (below_step (by repeat (first | (with_reducible first | exact HB.out | apply below_alloc | apply pw_below_drewN | apply below_drew1) | exact HB.out)) hb); clear HB; have HO192 := n0_; have HB := n1_; clear n0_ n1_; (try clear hb); (try clear hb2); (try clear hk); (try clear hi); (try clear ho0); obtain ⟨Ao10, co10, eo10⟩ := Kd.R_slice HO192.out; subst eo10) | ((with_reducible refine gate_callee (f := 71) rfl ?_); refine goesL_ (some 14) rfl rfl Try.func71 (by kernel_rfl) rfl #[.slice Ao10 t190.length co10, .int .i64 a0, .int .i64 1] rfl (by (try simp only [List.map_toArray, List.map_cons, List.map_nil]); first | done | rfl | (simp only [List.length_drop, List.length_take]; rfl)) ?_; (with_reducible refine (impl_find.calls _ _ t190 a0 1 t193 _ ?side1 ?side2 A8.out).mono ?_); (case side1 => repeat (first | exact (Kd.R_reads' HO192.out).2.2 | (with_reducible refine Kd.C_alloc ?_ _) | (with_reducible refine Kd.C_drewN ?_ _) | (with_reducible refine Kd.C_drew ?_))); (case side2 => exact (Kd.R_reads' HO192.out).2.1); rintro e w11 ⟨rfl, hb⟩; refine ⟨_, rfl, ?_⟩; have n0_ := Aside0.mk (Kd.R_below (by (with_reducible repeat (first | apply Kd.R_alloc | apply Kd.R_drewN | apply Kd.R_drew)); exact HO192.out) hb); have n1_ := Aside0.mk (below_step (by repeat (first | (with_reducible first | exact HB.out | apply below_alloc | apply pw_below_drewN | apply below_drew1) | exact HB.out)) hb); clear HO192; clear HB; have HO192 := n0_; have HB := n1_; clear n0_ n1_; (try clear hb); (try clear hb2); (try clear hk); (try clear hi)))
        go_ret
        exact ⟨by first | rfl | (simp [errW_none, errW_some] <;> rfl) | (simp [*, errW_none, errW_some] <;> rfl), by repeat (first | (with_reducible first | exact HB.out | apply below_alloc | apply pw_below_drewN | apply below_drew1) | exact HB.out)⟩

end Go.Proofs.Ytgcjhenfggcbmaa.PFnRuneTables
