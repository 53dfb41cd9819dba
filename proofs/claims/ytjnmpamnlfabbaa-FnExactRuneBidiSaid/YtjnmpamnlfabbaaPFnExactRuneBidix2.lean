-- Written by a program of this session (wip/tools) out of the translation; its shape is that of the kit print.
import Derived.Test.YtjnmpamnlfabbaaPFnExactRuneBidix0
import Derived.Test.YtjnmpamnlfabbaaPFnExactRuneBidix1
namespace Go.Proofs.Ytjnmpamnlfabbaa.PFnExactRuneBidi
open Go.RowKit Go.Proofs.YtjnmpamnlfabbaaW.PrintWords Go.Proofs.YtjnmpamnlfabbaaW.PrintLast Go.Proofs.YtjnmpamnlfabbaaW.PrintMore
attribute [local go_sem] max2_int min2_int max_two min_two max_three min_three max_four min_four   -- for this text's walks alone
set_option linter.unusedVariables false
set_option linter.unusedSimpArgs false

/-! ### impl_find_1: function 79 -/
def impl_find_1.f (a0_0 : Int) (a0_1 : Int) (a0_2 : Int) (a1 : Int) : Option (Int) := if a1 ≥ a0_0 then (if a1 ≤ a0_1 then (some 0) else ((cmp_Compare_int.f a0_0 a1).bind fun t119 => (some t119))) else ((cmp_Compare_int.f a0_0 a1).bind fun t120 => (some t120))
set_option maxHeartbeats 8000000 in
set_option maxRecDepth 100000 in
theorem impl_find_1.calls (a0_0 : Int) (a0_1 : Int) (a0_2 : Int) (a1 : Int) (r : Int) (w : World) (h : impl_find_1.f a0_0 a0_1 a0_2 a1 = some r) :
    Calls Try.prog 79 #[.agg #[.int .i64 a0_0, .int .i64 a0_1, .int .i64 a0_2], .int .i64 a1] w fun e w' => e = .returned (.int .i64 r) ∧ Below w.heap.size w w' := by
  have hu83 := Try.underlying83
  have HB := Aside0.mk (Below.refl w.heap.size w)
  have H : (if a1 ≥ a0_0 then (if a1 ≤ a0_1 then (some 0) else ((cmp_Compare_int.f a0_0 a1).bind fun t119 => (some t119))) else ((cmp_Compare_int.f a0_0 a1).bind fun t120 => (some t120))) = some r := h
  clear h
  by_cases c3 : a1 ≥ a0_0
  · rw [if_pos c3] at H
    have c3b0 : decide (a0_0 ≤ a1) = true := decide_eq_true c3
    clear c3
    by_cases c4 : a1 ≤ a0_1
    · rw [if_pos c4] at H
      have c4b0 : decide (a1 ≤ a0_1) = true := decide_eq_true c4
      clear c4
      obtain rfl := Option.some.inj H
      go_enter Try.func79, Try.ntmps79
      go_wp2_with (first | ((with_reducible refine gate_dst (N := 2) rfl ?_); refine box_event ?hg (N := 2) ?hd (cs := #[.int .i64 a0_0, .int .i64 a0_1, .int .i64 a0_2]) (t := 83) ?hr ?_; (case hd => rfl); (case hg => rfl); (case hr => first | (go_simp; done) | (go_simp; rfl)); intro gb118 hg w5 hbox hb; have n0_ := Aside0.mk (below_step (by repeat (first | (with_reducible first | exact HB.out | apply below_alloc | apply pw_below_drewN | apply below_drew1) | exact HB.out)) hb); have n1_ := Aside0.mk (hbox); have n2_ := Aside0.mk ((by rw [hg]; exact (below_size (by repeat (first | (with_reducible first | exact HB.out | apply below_alloc | apply pw_below_drewN | apply below_drew1) | exact HB.out))) : w.heap.size ≤ gb118)); have n3_ := Aside0.mk ((by rw [hg]; exact (below_size (by repeat (first | (with_reducible first | exact HB.out | apply below_alloc | apply pw_below_drewN | apply below_drew1) | exact HB.out))) : w.heap.size ≤ gb118)); clear HB; have HB := n0_; have BK118 := n1_; have GW118 := n2_; have GE118 := n3_; clear n0_ n1_ n2_ n3_; clear hb hbox hg; have hcz6_0 : w5.cell? ⟨gb118, 0, none⟩ = some (.int .i64 a0_0) := (blk_cell BK118.out 0).trans rfl; have hcz6_1 : w5.cell? ⟨gb118, 1, none⟩ = some (.int .i64 a0_1) := (blk_cell BK118.out 1).trans rfl; have hcz6_2 : w5.cell? ⟨gb118, 2, none⟩ = some (.int .i64 a0_2) := (blk_cell BK118.out 2).trans rfl; have hfz6_0 := blk_frozen BK118.out 0; have hfz6_1 := blk_frozen BK118.out 1; have hfz6_2 := blk_frozen BK118.out 2))
      go_ret
      exact ⟨by first | rfl | (simp [errW_none, errW_some] <;> rfl) | (simp [*, errW_none, errW_some] <;> rfl), by repeat (first | (with_reducible first | exact HB.out | apply below_alloc | apply pw_below_drewN | apply below_drew1 | refine below_set ?_ GE118.out) | exact HB.out)⟩
    · rw [if_neg c4] at H
      have c4b0 : decide (a1 ≤ a0_1) = false := decide_eq_false c4
      clear c4
      replace H := Option.bind_eq_some_iff.mp H
      obtain ⟨t119, A70, H⟩ := H
      replace H : (some t119) = some r := H
      have A7 := Aside0.mk A70
      clear A70
      obtain rfl := Option.some.inj H
      go_enter Try.func79, Try.ntmps79
      go_wp2_with (first | ((with_reducible refine gate_dst (N := 2) rfl ?_); refine box_event ?hg (N := 2) ?hd (cs := #[.int .i64 a0_0, .int .i64 a0_1, .int .i64 a0_2]) (t := 83) ?hr ?_; (case hd => rfl); (case hg => rfl); (case hr => first | (go_simp; done) | (go_simp; rfl)); intro gb118 hg w8 hbox hb; have n0_ := Aside0.mk (below_step (by repeat (first | (with_reducible first | exact HB.out | apply below_alloc | apply pw_below_drewN | apply below_drew1) | exact HB.out)) hb); have n1_ := Aside0.mk (hbox); have n2_ := Aside0.mk ((by rw [hg]; exact (below_size (by repeat (first | (with_reducible first | exact HB.out | apply below_alloc | apply pw_below_drewN | apply below_drew1) | exact HB.out))) : w.heap.size ≤ gb118)); have n3_ := Aside0.mk ((by rw [hg]; exact (below_size (by repeat (first | (with_reducible first | exact HB.out | apply below_alloc | apply pw_below_drewN | apply below_drew1) | exact HB.out))) : w.heap.size ≤ gb118)); clear HB; have HB := n0_; have BK118 := n1_; have GW118 := n2_; have GE118 := n3_; clear n0_ n1_ n2_ n3_; clear hb hbox hg; have hcz9_0 : w8.cell? ⟨gb118, 0, none⟩ = some (.int .i64 a0_0) := (blk_cell BK118.out 0).trans rfl; have hcz9_1 : w8.cell? ⟨gb118, 1, none⟩ = some (.int .i64 a0_1) := (blk_cell BK118.out 1).trans rfl; have hcz9_2 : w8.cell? ⟨gb118, 2, none⟩ = some (.int .i64 a0_2) := (blk_cell BK118.out 2).trans rfl; have hfz9_0 := blk_frozen BK118.out 0; have hfz9_1 := blk_frozen BK118.out 1; have hfz9_2 := blk_frozen BK118.out 2) | ((with_reducible refine gate_callee (f := 80) rfl ?_); refine goesL_ (some 18) rfl rfl Try.func80 (by kernel_rfl) rfl #[.int .i64 a0_0, .int .i64 a1] rfl (by (try simp only [List.map_toArray, List.map_cons, List.map_nil]); first | done | rfl | (simp only [List.length_drop, List.length_take]; rfl)) ?_; (with_reducible refine (cmp_Compare_int.calls a0_0 a1 t119 _ A7.out).mono ?_); rintro e w' ⟨rfl, ⟨nd, rfl⟩⟩; refine ⟨_, rfl, ?_⟩))
      go_ret
      exact ⟨by first | rfl | (simp [errW_none, errW_some] <;> rfl) | (simp [*, errW_none, errW_some] <;> rfl), by repeat (first | (with_reducible first | exact HB.out | apply below_alloc | apply pw_below_drewN | apply below_drew1 | refine below_set ?_ GE118.out) | exact HB.out)⟩
  · rw [if_neg c3] at H
    have c3b0 : decide (a0_0 ≤ a1) = false := decide_eq_false c3
    clear c3
    replace H := Option.bind_eq_some_iff.mp H
    obtain ⟨t120, A100, H⟩ := H
    replace H : (some t120) = some r := H
    have A10 := Aside0.mk A100
    clear A100
    obtain rfl := Option.some.inj H
    go_enter Try.func79, Try.ntmps79
    go_wp2_with (first | ((with_reducible refine gate_dst (N := 2) rfl ?_); refine box_event ?hg (N := 2) ?hd (cs := #[.int .i64 a0_0, .int .i64 a0_1, .int .i64 a0_2]) (t := 83) ?hr ?_; (case hd => rfl); (case hg => rfl); (case hr => first | (go_simp; done) | (go_simp; rfl)); intro gb118 hg w11 hbox hb; have n0_ := Aside0.mk (below_step (by repeat (first | (with_reducible first | exact HB.out | apply below_alloc | apply pw_below_drewN | apply below_drew1) | exact HB.out)) hb); have n1_ := Aside0.mk (hbox); have n2_ := Aside0.mk ((by rw [hg]; exact (below_size (by repeat (first | (with_reducible first | exact HB.out | apply below_alloc | apply pw_below_drewN | apply below_drew1) | exact HB.out))) : w.heap.size ≤ gb118)); have n3_ := Aside0.mk ((by rw [hg]; exact (below_size (by repeat (first | (with_reducible first | exact HB.out | apply below_alloc | apply pw_below_drewN | apply below_drew1) | exact HB.out))) : w.heap.size ≤ gb118)); clear HB; have HB := n0_; have BK118 := n1_; have GW118 := n2_; have GE118 := n3_; clear n0_ n1_ n2_ n3_; clear hb hbox hg; have hcz12_0 : w11.cell? ⟨gb118, 0, none⟩ = some (.int .i64 a0_0) := (blk_cell BK118.out 0).trans rfl; have hcz12_1 : w11.cell? ⟨gb118, 1, none⟩ = some (.int .i64 a0_1) := (blk_cell BK118.out 1).trans rfl; have hcz12_2 : w11.cell? ⟨gb118, 2, none⟩ = some (.int .i64 a0_2) := (blk_cell BK118.out 2).trans rfl; have hfz12_0 := blk_frozen BK118.out 0; have hfz12_1 := blk_frozen BK118.out 1; have hfz12_2 := blk_frozen BK118.out 2) | ((with_reducible refine gate_callee (f := 80) rfl ?_); refine goesL_ (some 18) rfl rfl Try.func80 (by kernel_rfl) rfl #[.int .i64 a0_0, .int .i64 a1] rfl (by (try simp only [List.map_toArray, List.map_cons, List.map_nil]); first | done | rfl | (simp only [List.length_drop, List.length_take]; rfl)) ?_; (with_reducible refine (cmp_Compare_int.calls a0_0 a1 t120 _ A10.out).mono ?_); rintro e w' ⟨rfl, ⟨nd, rfl⟩⟩; refine ⟨_, rfl, ?_⟩))
    go_ret
    exact ⟨by first | rfl | (simp [errW_none, errW_some] <;> rfl) | (simp [*, errW_none, errW_some] <;> rfl), by repeat (first | (with_reducible first | exact HB.out | apply below_alloc | apply pw_below_drewN | apply below_drew1 | refine below_set ?_ GE118.out) | exact HB.out)⟩

def zR : S83 := z83
def cmpR (x : S83) (r : Int) : Int := if x.f0 ≤ r ∧ r ≤ x.f1 then 0 else if x.f0 < r then -1 else if x.f0 > r then 1 else 0
theorem find_1_cmp (x : S83) (r : Int) : impl_find_1.f x.f0 x.f1 x.f2 r = some (cmpR x r) := by
  unfold impl_find_1.f cmp_Compare_int.f cmp_isNaN_int.f cmpR
  by_cases h1 : r ≥ x.f0 <;> by_cases h2 : r ≤ x.f1 <;> by_cases h3 : x.f0 < r <;> by_cases h4 : x.f0 > r <;> simp [h1, h2, h3, h4] <;> omega
/-- ascending reaches, none empty -/
def ascR : List S83 → Bool
  | [] => true
  | [x] => decide (x.f0 ≤ x.f1)
  | x :: y :: r => decide (x.f0 ≤ x.f1) && decide (x.f1 < y.f0) && ascR (y :: r)
theorem ascR_one : ∀ (l : List S83), ascR l = true → ∀ i, i < l.length → (l.getD i z83).f0 ≤ (l.getD i z83).f1
  | [], _, i, h => absurd h (Nat.not_lt_zero _)
  | [x], h, i, hi => by
    have : i = 0 := by simp at hi; omega
    subst this
    simpa [ascR] using h
  | x :: y :: r, h, i, hi => by
    simp only [ascR, Bool.and_eq_true, decide_eq_true_eq] at h
    cases i with
    | zero => simpa using h.1.1
    | succ i => simpa using ascR_one (y :: r) h.2 i (by simpa using hi)
theorem ascR_two : ∀ (l : List S83), ascR l = true → ∀ i j, i < j → j < l.length → (l.getD i z83).f1 < (l.getD j z83).f0
  | [], _, _, _, _, h => absurd h (Nat.not_lt_zero _)
  | [x], h, i, j, hij, hj => by simp at hj; omega
  | x :: y :: r, h, i, j, hij, hj => by
    have h' := h
    simp only [ascR, Bool.and_eq_true, decide_eq_true_eq] at h
    cases j with
    | zero => omega
    | succ j =>
      cases i with
      | zero =>
        cases j with
        | zero => simpa using h.1.2
        | succ j =>
          have h1 := ascR_two (y :: r) h.2 0 (j + 1) (by omega) (by simpa using hj)
          have h2 := ascR_one (y :: r) h.2 0 (by simp)
          simp only [List.getD_cons_zero, List.getD_cons_succ] at h1 h2 ⊢
          omega
      | succ i => simpa using ascR_two (y :: r) h.2 i j (by omega) (by simpa using hj)
def hitR (x : S83) (r : Int) : Bool := decide (x.f0 ≤ r) && decide (r ≤ x.f1)
def lookR (l : List S83) (r other : Int) : Int := ((l.find? fun x => hitR x r).map (·.f2)).getD other
theorem lookR_hit : ∀ (l : List S83) (i : Nat) (r o : Int), i < l.length → hitR (l.getD i z83) r = true → (∀ k, k < i → hitR (l.getD k z83) r = false) → lookR l r o = (l.getD i z83).f2
  | [], _, _, _, h, _, _ => absurd h (Nat.not_lt_zero _)
  | x :: xs, 0, r, o, _, hh, _ => by
    have h1 : hitR x r = true := by simpa using hh
    simp [lookR, List.find?_cons, h1]
  | x :: xs, i + 1, r, o, h, hh, hm => by
    have h1 : hitR x r = false := by simpa using hm 0 (by omega)
    have := lookR_hit xs i r o (by simpa using h) (by simpa using hh) (fun k hk => by simpa using hm (k + 1) (by omega))
    simp only [lookR] at this ⊢
    simpa [List.find?_cons, h1] using this
theorem lookR_miss : ∀ (l : List S83) (r o : Int), (∀ k, k < l.length → hitR (l.getD k z83) r = false) → lookR l r o = o
  | [], _, _, _ => rfl
  | x :: xs, r, o, hm => by
    have h1 : hitR x r = false := by simpa using hm 0 (by simp)
    have := lookR_miss xs r o (fun k hk => by simpa using hm (k + 1) (by simpa using hk))
    simp only [lookR] at this ⊢
    simpa [List.find?_cons, h1] using this
def BsPost (l0 : List S83) (a1 : Int) (w : World) (e : Ending) (w' : World) : Prop :=
  ∃ (i : Nat) (b : Bool), e = .returned (.tuple #[.int .i64 i, .bool b]) ∧ (b = true → i < l0.length ∧ hitR (l0.getD i z83) a1 = true) ∧ (b = false → ∀ k, k < l0.length → hitR (l0.getD k z83) a1 = false) ∧ Below w.heap.size w w'
theorem cmpR_lt {x : S83} {r : Int} (h : x.f0 ≤ x.f1) : cmpR x r < 0 ↔ x.f1 < r := by
  unfold cmpR
  split
  · omega
  · split
    · omega
    · split <;> omega
theorem cmpR_eq {x : S83} {r : Int} (h : x.f0 ≤ x.f1) : cmpR x r = 0 ↔ hitR x r = true := by
  unfold cmpR hitR
  simp only [Bool.and_eq_true, decide_eq_true_eq]
  split
  · omega
  · split
    · omega
    · split <;> omega
theorem bs_none {l0 : List S83} {a1 : Int} {j : Nat} (ha : ascR l0 = true) (hl : ∀ k, k < j → (l0.getD k z83).f1 < a1) (hg : ∀ k, j ≤ k → k < l0.length → ¬ (l0.getD k z83).f1 < a1) (hj : hitR (l0.getD j z83) a1 = false) (k : Nat) (hk : k < l0.length) : hitR (l0.getD k z83) a1 = false := by
  by_cases h1 : k < j
  · have h2 := hl k h1
    unfold hitR
    simp only [Bool.and_eq_false_iff, decide_eq_false_iff_not]
    omega
  · by_cases h2 : k = j
    · subst h2; exact hj
    · have h3 := ascR_two l0 ha j k (by omega) hk
      have h4 := hg j (Nat.le_refl _) (by omega)
      unfold hitR
      simp only [Bool.and_eq_false_iff, decide_eq_false_iff_not]
      omega
set_option maxHeartbeats 4000000 in
set_option maxRecDepth 100000 in
theorem bs_calls (A0 : Option Addr) (c0 : Nat) (l0 : List S83) (a1 : Int) (w : World) (hr0 : Kd.C k83 w A0 l0.length l0) (hc0 : l0.length ≤ c0) (ha : ascR l0 = true) (hsz : l0.length ≤ 1000000) :
    Calls Try.prog 78 #[.slice A0 l0.length c0, .int .i64 a1, .func (.func 79) #[] #[]] w (BsPost l0 a1 w) := by
  have hu83 := Try.underlying83
  have HR0 := Aside0.mk hr0
  have HA := Aside0.mk ha
  clear hr0 ha
  go_enter Try.func78, Try.ntmps78
  go_wp2
  go_loopg [9, 10] l0.length (fun gg v9 v10 wr => ∃ i j : Nat, v9 = .int .i64 i ∧ v10 = .int .i64 j ∧ i ≤ j ∧ j ≤ l0.length ∧ j - i ≤ gg ∧ Aside0 (∀ k, k < i → (l0.getD k z83).f1 < a1) ∧ Aside0 (∀ k, j ≤ k → k < l0.length → ¬ (l0.getD k z83).f1 < a1) ∧ Aside0 (Below w.heap.size w wr))
  case atStart => exact ⟨0, l0.length, rfl, rfl, Nat.zero_le _, Nat.le_refl _, by omega, ⟨fun k hk => absurd hk (Nat.not_lt_zero _)⟩, ⟨fun k h1 h2 => absurd h2 (by omega)⟩, ⟨Below.refl _ _⟩⟩
  case round =>
    obtain ⟨i, j, rfl, rfl, hij, hj, hg, HL, HG, HB⟩ := hrel
    by_cases hlt : i < j
    · have hltz : (i : Int) < (j : Int) := by omega
      obtain ⟨m, hm⟩ : ∃ m : Nat, (m : Int) = ((i : Int) + (j : Int)) / 2 := ⟨(i + j) / 2, by omega⟩
      have hm1 : i ≤ m := by omega
      have hm2 : m < j := by omega
      have p0 : 0 ≤ ((i : Int) + (j : Int)) / 2 := by omega
      have q0 : ((i : Int) + (j : Int)) / 2 < (l0.length : Int) := by omega
      obtain ⟨ad, e0, hx0, hx1, hx2⟩ := at_T83 HR0.out (((i : Int) + (j : Int)) / 2) p0 q0
      have ht : (((i : Int) + (j : Int)) / 2).toNat = (i + j) / 2 := by omega
      rw [ht] at hx0 hx1 hx2
      clear ht
      cases e0
      replace hx0 := (HB.out.cell (World.block_lt_of_cell? w _ hx0)).trans hx0
      replace hx1 := (HB.out.cell (World.block_lt_of_cell? w _ hx1)).trans hx1
      replace hx2 := (HB.out.cell (World.block_lt_of_cell? w _ hx2)).trans hx2
      have hone := ascR_one l0 HA.out m (by omega)
      have Hrd : Aside0 (rd_T83 l0 (((i : Int) + (j : Int)) / 2) = l0.getD m z83) := ⟨by unfold rd_T83; rw [← hm, Int.toNat_natCast]⟩
      generalize hy : rd_T83 l0 (((i : Int) + (j : Int)) / 2) = y at hx0 hx1 hx2 Hrd
      have Hy := Aside0.mk (Hrd.out.symm)
      clear hy Hrd
      have hcall := fun W => impl_find_1.calls y.f0 y.f1 y.f2 a1 _ W (find_1_cmp y a1)
      by_cases hc : cmpR y a1 < 0
      · have hcB : decide (cmpR y a1 < 0) = true := decide_eq_true hc
        have Hup : Aside0 ((l0.getD m z83).f1 < a1) := ⟨by rw [Hy.out]; rw [Hy.out] at hone; exact (cmpR_lt hone).mp hc⟩
        have Hm := Aside0.mk hm
        clear hm hone hc
        have HCall := Aside0.mk hcall
        clear hcall
        go_wp2_with (go_at_call 79; refine (HCall.out _).mono ?_; rintro e w' ⟨rfl, hb⟩)
        go_roundg (gk - 1)
        case measure => omega
        case rel => exact ⟨m + 1, j, by rw [← Hm.out]; go_num, rfl, by omega, by omega, by omega, ⟨fun k hk => by
          by_cases e : k = m
          · subst e; exact Hup.out
          · have h1 := ascR_two l0 HA.out k m (by omega) (by omega)
            have h2 := ascR_one l0 HA.out m (by omega)
            have h3 := Hup.out
            omega⟩, HG, ⟨HB.out.trans (hb.mono HB.out.size)⟩⟩
      · have hcB : decide (cmpR y a1 < 0) = false := decide_eq_false hc
        have Hup : Aside0 (¬ (l0.getD m z83).f1 < a1) := ⟨by rw [Hy.out]; rw [Hy.out] at hone; exact fun h => hc ((cmpR_lt hone).mpr h)⟩
        have Hm := Aside0.mk hm
        clear hm hone hc
        have HCall := Aside0.mk hcall
        clear hcall
        go_wp2_with (go_at_call 79; refine (HCall.out _).mono ?_; rintro e w' ⟨rfl, hb⟩)
        go_roundg (gk - 1)
        case measure => omega
        case rel => exact ⟨i, m, rfl, by rw [← Hm.out], by omega, by omega, by omega, HL, ⟨fun k h1 h2 => by
          by_cases e : k = m
          · subst e; exact Hup.out
          · have h3 := ascR_two l0 HA.out m k (by omega) (by omega)
            have h4 := ascR_one l0 HA.out k (by omega)
            have h5 := Hup.out
            omega⟩, ⟨HB.out.trans (hb.mono HB.out.size)⟩⟩
    · have hltz : ¬ (i : Int) < (j : Int) := by omega
      have hji : j = i := by omega
      subst hji
      by_cases hn : j < l0.length
      · have hnz : (j : Int) < (l0.length : Int) := by omega
        obtain ⟨ad, e0, hx0, hx1, hx2⟩ := at_T83 HR0.out (j : Int) (by omega) (by omega)
        rw [Int.toNat_natCast] at hx0 hx1 hx2
        cases e0
        replace hx0 := (HB.out.cell (World.block_lt_of_cell? w _ hx0)).trans hx0
        replace hx1 := (HB.out.cell (World.block_lt_of_cell? w _ hx1)).trans hx1
        replace hx2 := (HB.out.cell (World.block_lt_of_cell? w _ hx2)).trans hx2
        have hone := ascR_one l0 HA.out j (by omega)
        have Hrd : Aside0 (rd_T83 l0 (j : Int) = l0.getD j z83) := ⟨by unfold rd_T83; rw [Int.toNat_natCast]⟩
        generalize hy : rd_T83 l0 (j : Int) = y at hx0 hx1 hx2 Hrd
        have Hy := Aside0.mk (Hrd.out.symm)
        clear hy Hrd
        have HCall := Aside0.mk (fun W => impl_find_1.calls y.f0 y.f1 y.f2 a1 _ W (find_1_cmp y a1))
        have Hone := Aside0.mk hone
        clear hone
        go_wp2_with (go_at_call 79; refine (HCall.out _).mono ?_; rintro e w' ⟨rfl, hb⟩)
        go_ret2
        refine ⟨j, (cmpR y a1 == 0), rfl, fun hb1 => ⟨hn, ?_⟩, fun hb1 k hk => ?_, HB.out.trans (hb.mono HB.out.size)⟩
        · rw [Hy.out]
          have h1 := Hone.out
          rw [Hy.out] at h1
          exact (cmpR_eq h1).mp (by simpa using hb1)
        · have h1 := Hone.out
          have h2 : ¬ cmpR y a1 = 0 := by simpa using hb1
          have h3 : ¬ hitR (l0.getD j z83) a1 = true := by rw [Hy.out]; rw [Hy.out] at h1; exact fun h => h2 ((cmpR_eq h1).mpr h)
          exact bs_none HA.out HL.out (fun k h4 h5 => by have := HG.out k h4 h5; omega) (by simpa using h3) k hk
      · have hnz : ¬ (j : Int) < (l0.length : Int) := by omega
        go_wp2
        go_ret2
        refine ⟨j, false, rfl, (fun hb1 => by cases hb1), fun _ k hk => ?_, HB.out⟩
        have h1 := HL.out k (by omega)
        unfold hitR
        simp only [Bool.and_eq_false_iff, decide_eq_false_iff_not]
        omega
def impl_find.f (l0 : List S83) (a1 : Int) (a2 : Int) : Option Int := if ascR l0 = true ∧ l0.length ≤ 1000000 then some (lookR l0 a1 a2) else none
theorem asc_hit {l0 : List S83} {a1 : Int} (ha : ascR l0 = true) {i k : Nat} (hi : i < l0.length) (hh : hitR (l0.getD i z83) a1 = true) (hk : k < i) : hitR (l0.getD k z83) a1 = false := by
  have h3 := ascR_two l0 ha k i hk hi
  unfold hitR at hh ⊢
  simp only [Bool.and_eq_true, decide_eq_true_eq] at hh
  simp only [Bool.and_eq_false_iff, decide_eq_false_iff_not]
  omega
set_option maxHeartbeats 4000000 in
set_option maxRecDepth 100000 in
theorem impl_find.calls (A0 : Option Addr) (c0 : Nat) (l0 : List S83) (a1 : Int) (a2 : Int) (r : Int) (w : World) (hr0 : Kd.C k83 w A0 l0.length l0) (hc0 : l0.length ≤ c0) (h : impl_find.f l0 a1 a2 = some r) :
    Calls Try.prog 62 #[.slice A0 l0.length c0, .int .i64 a1, .int .i64 a2] w fun e w' => e = .returned (.int .i64 r) ∧ Below w.heap.size w w' := by
  unfold impl_find.f at h
  split at h
  case isFalse => exact absurd h (by simp)
  case isTrue hs =>
  have H := Aside0.mk (Option.some.inj h)
  clear h
  obtain ⟨ha, hsz⟩ := hs
  have HC := Aside0.mk (fun W => bs_calls A0 c0 l0 a1 W)
  have HR0 := Aside0.mk hr0
  have HA := Aside0.mk ha
  have hu83 := Try.underlying83
  clear hr0 ha
  go_enter Try.func62, Try.ntmps62
  go_wp2_with (fail)
  refine (HC.out _ HR0.out hc0 HA.out hsz).mono ?_
  rintro e w' ⟨i, b, rfl, ht, hf, hb⟩
  have HT := Aside0.mk ht
  have HF := Aside0.mk hf
  clear ht hf
  cases b with
  | true =>
    obtain ⟨hi, hh⟩ := HT.out rfl
    have Hh := Aside0.mk hh
    obtain ⟨ad, e0, hx0, hx1, hx2⟩ := at_T83 HR0.out (i : Int) (by omega) (by omega)
    rw [Int.toNat_natCast] at hx0 hx1 hx2
    cases e0
    replace hx0 := (hb.cell (World.block_lt_of_cell? w _ hx0)).trans hx0
    replace hx1 := (hb.cell (World.block_lt_of_cell? w _ hx1)).trans hx1
    replace hx2 := (hb.cell (World.block_lt_of_cell? w _ hx2)).trans hx2
    have hiz : (i : Int) < (l0.length : Int) := by omega
    clear hh
    go_wp2
    go_ret
    refine ⟨?_, hb⟩
    rw [← H.out, lookR_hit l0 i a1 a2 hi Hh.out (fun k hk => asc_hit HA.out hi Hh.out hk)]
    simp [rd_T83]
  | false =>
    go_wp2
    go_ret
    refine ⟨?_, hb⟩
    rw [← H.out, lookR_miss l0 a1 a2 (HF.out (by trivial))]
    rfl


/-! ### impl_bidiReaches: function 63 -/
def impl_bidiReaches.f  : Option ((List (S83))) := some (([(⟨9, 9, 11⟩ : S83), (⟨32, 32, 12⟩ : S83), (⟨35, 37, 6⟩ : S83), (⟨43, 43, 5⟩ : S83), (⟨44, 44, 8⟩ : S83), (⟨45, 45, 5⟩ : S83), (⟨46, 47, 8⟩ : S83), (⟨48, 57, 4⟩ : S83), (⟨58, 58, 8⟩ : S83), (⟨65, 90, 1⟩ : S83), (⟨97, 122, 1⟩ : S83), (⟨173, 173, 10⟩ : S83), (⟨768, 879, 9⟩ : S83), (⟨1488, 1514, 2⟩ : S83), (⟨1569, 1610, 3⟩ : S83), (⟨1632, 1641, 7⟩ : S83), (⟨8203, 8203, 10⟩ : S83), (⟨8205, 8205, 10⟩ : S83), (⟨8234, 8234, 14⟩ : S83), (⟨8235, 8235, 15⟩ : S83), (⟨8236, 8236, 16⟩ : S83), (⟨8237, 8237, 17⟩ : S83), (⟨8238, 8238, 18⟩ : S83), (⟨8294, 8294, 19⟩ : S83), (⟨8295, 8295, 20⟩ : S83), (⟨8296, 8296, 21⟩ : S83), (⟨8297, 8297, 22⟩ : S83), (⟨19968, 40959, 1⟩ : S83)] : List (S83)))
set_option maxHeartbeats 8000000 in
set_option maxRecDepth 100000 in
theorem impl_bidiReaches.calls  (r : List (S83)) (w : World) (h : impl_bidiReaches.f  = some r) :
    Calls Try.prog 63 #[] w fun e w' => ∃ v0_ : Value, e = .returned (v0_) ∧ Kd.R k83 83 w' w.heap.size (fun _ => True) v0_ r ∧ Below w.heap.size w w' := by
  have hu83 := Try.underlying83
  have HB := Aside0.mk (Below.refl w.heap.size w)
  have H : (some (([(⟨9, 9, 11⟩ : S83), (⟨32, 32, 12⟩ : S83), (⟨35, 37, 6⟩ : S83), (⟨43, 43, 5⟩ : S83), (⟨44, 44, 8⟩ : S83), (⟨45, 45, 5⟩ : S83), (⟨46, 47, 8⟩ : S83), (⟨48, 57, 4⟩ : S83), (⟨58, 58, 8⟩ : S83), (⟨65, 90, 1⟩ : S83), (⟨97, 122, 1⟩ : S83), (⟨173, 173, 10⟩ : S83), (⟨768, 879, 9⟩ : S83), (⟨1488, 1514, 2⟩ : S83), (⟨1569, 1610, 3⟩ : S83), (⟨1632, 1641, 7⟩ : S83), (⟨8203, 8203, 10⟩ : S83), (⟨8205, 8205, 10⟩ : S83), (⟨8234, 8234, 14⟩ : S83), (⟨8235, 8235, 15⟩ : S83), (⟨8236, 8236, 16⟩ : S83), (⟨8237, 8237, 17⟩ : S83), (⟨8238, 8238, 18⟩ : S83), (⟨8294, 8294, 19⟩ : S83), (⟨8295, 8295, 20⟩ : S83), (⟨8296, 8296, 21⟩ : S83), (⟨8297, 8297, 22⟩ : S83), (⟨19968, 40959, 1⟩ : S83)] : List (S83)))) = some r := h
  clear h
  obtain ⟨y121, hy121⟩ : ∃ y_ : List (S83), y_ = (([(⟨9, 9, 11⟩ : S83), (⟨32, 32, 12⟩ : S83), (⟨35, 37, 6⟩ : S83), (⟨43, 43, 5⟩ : S83), (⟨44, 44, 8⟩ : S83), (⟨45, 45, 5⟩ : S83), (⟨46, 47, 8⟩ : S83), (⟨48, 57, 4⟩ : S83), (⟨58, 58, 8⟩ : S83), (⟨65, 90, 1⟩ : S83), (⟨97, 122, 1⟩ : S83), (⟨173, 173, 10⟩ : S83), (⟨768, 879, 9⟩ : S83), (⟨1488, 1514, 2⟩ : S83), (⟨1569, 1610, 3⟩ : S83), (⟨1632, 1641, 7⟩ : S83), (⟨8203, 8203, 10⟩ : S83), (⟨8205, 8205, 10⟩ : S83), (⟨8234, 8234, 14⟩ : S83), (⟨8235, 8235, 15⟩ : S83), (⟨8236, 8236, 16⟩ : S83), (⟨8237, 8237, 17⟩ : S83), (⟨8238, 8238, 18⟩ : S83), (⟨8294, 8294, 19⟩ : S83), (⟨8295, 8295, 20⟩ : S83), (⟨8296, 8296, 21⟩ : S83), (⟨8297, 8297, 22⟩ : S83), (⟨19968, 40959, 1⟩ : S83)] : List (S83))) := ⟨_, rfl⟩
  replace H : (some y121) = some r := by first | (rw [hy121]; with_reducible exact H) | (have H2_ := (Option.bind_some _ _).symm.trans H; rw [hy121]; with_reducible exact H2_) | (have H2_ := (Option.bind_some _ _).symm.trans H; with_reducible exact H2_) | with_reducible exact H | (rw [hy121]; exact H) | exact H
  have Ny121 := Aside0.mk hy121
  clear hy121
  obtain rfl := Option.some.inj H
  go_enter Try.func63, Try.ntmps63
  go_wp2_with (first | ((with_reducible refine gate_dst (N := 29) rfl ?_); refine Kd.R_lit k83 _ 83 ?hg (N := 29) ?hd (xs := ([(⟨9, 9, 11⟩ : S83), (⟨32, 32, 12⟩ : S83), (⟨35, 37, 6⟩ : S83), (⟨43, 43, 5⟩ : S83), (⟨44, 44, 8⟩ : S83), (⟨45, 45, 5⟩ : S83), (⟨46, 47, 8⟩ : S83), (⟨48, 57, 4⟩ : S83), (⟨58, 58, 8⟩ : S83), (⟨65, 90, 1⟩ : S83), (⟨97, 122, 1⟩ : S83), (⟨173, 173, 10⟩ : S83), (⟨768, 879, 9⟩ : S83), (⟨1488, 1514, 2⟩ : S83), (⟨1569, 1610, 3⟩ : S83), (⟨1632, 1641, 7⟩ : S83), (⟨8203, 8203, 10⟩ : S83), (⟨8205, 8205, 10⟩ : S83), (⟨8234, 8234, 14⟩ : S83), (⟨8235, 8235, 15⟩ : S83), (⟨8236, 8236, 16⟩ : S83), (⟨8237, 8237, 17⟩ : S83), (⟨8238, 8238, 18⟩ : S83), (⟨8294, 8294, 19⟩ : S83), (⟨8295, 8295, 20⟩ : S83), (⟨8296, 8296, 21⟩ : S83), (⟨8297, 8297, 22⟩ : S83), (⟨19968, 40959, 1⟩ : S83)] : List (S83))) (inner := [.int .i64 9, .int .i64 9, .int .i64 11, .int .i64 32, .int .i64 32, .int .i64 12, .int .i64 35, .int .i64 37, .int .i64 6, .int .i64 43, .int .i64 43, .int .i64 5, .int .i64 44, .int .i64 44, .int .i64 8, .int .i64 45, .int .i64 45, .int .i64 5, .int .i64 46, .int .i64 47, .int .i64 8, .int .i64 48, .int .i64 57, .int .i64 4, .int .i64 58, .int .i64 58, .int .i64 8, .int .i64 65, .int .i64 90, .int .i64 1, .int .i64 97, .int .i64 122, .int .i64 1, .int .i64 173, .int .i64 173, .int .i64 10, .int .i64 768, .int .i64 879, .int .i64 9, .int .i64 1488, .int .i64 1514, .int .i64 2, .int .i64 1569, .int .i64 1610, .int .i64 3, .int .i64 1632, .int .i64 1641, .int .i64 7, .int .i64 8203, .int .i64 8203, .int .i64 10, .int .i64 8205, .int .i64 8205, .int .i64 10, .int .i64 8234, .int .i64 8234, .int .i64 14, .int .i64 8235, .int .i64 8235, .int .i64 15, .int .i64 8236, .int .i64 8236, .int .i64 16, .int .i64 8237, .int .i64 8237, .int .i64 17, .int .i64 8238, .int .i64 8238, .int .i64 18, .int .i64 8294, .int .i64 8294, .int .i64 19, .int .i64 8295, .int .i64 8295, .int .i64 20, .int .i64 8296, .int .i64 8296, .int .i64 21, .int .i64 8297, .int .i64 8297, .int .i64 22, .int .i64 19968, .int .i64 40959, .int .i64 1]) (ok := fun _ => True) (okp := fun _ => True) ?hr ?hp (fun _ hk => hk) trivial (Below.refl _ _) (Nat.le_refl _) (by simp) ?_; (case hd => rfl); (case hg => rfl); (case hr => first | (go_simp; done) | (go_simp; rfl)); (case hp => exact (Reps.c3 (show Kd.M k83 _ _ _ (⟨9, 9, 11⟩ : S83) [.int .i64 9, .int .i64 9, .int .i64 11] from (k83_mkM _ _ _ (⟨9, 9, 11⟩ : S83) )) (Reps.c3 (show Kd.M k83 _ _ _ (⟨32, 32, 12⟩ : S83) [.int .i64 32, .int .i64 32, .int .i64 12] from (k83_mkM _ _ _ (⟨32, 32, 12⟩ : S83) )) (Reps.c3 (show Kd.M k83 _ _ _ (⟨35, 37, 6⟩ : S83) [.int .i64 35, .int .i64 37, .int .i64 6] from (k83_mkM _ _ _ (⟨35, 37, 6⟩ : S83) )) (Reps.c3 (show Kd.M k83 _ _ _ (⟨43, 43, 5⟩ : S83) [.int .i64 43, .int .i64 43, .int .i64 5] from (k83_mkM _ _ _ (⟨43, 43, 5⟩ : S83) )) (Reps.c3 (show Kd.M k83 _ _ _ (⟨44, 44, 8⟩ : S83) [.int .i64 44, .int .i64 44, .int .i64 8] from (k83_mkM _ _ _ (⟨44, 44, 8⟩ : S83) )) (Reps.c3 (show Kd.M k83 _ _ _ (⟨45, 45, 5⟩ : S83) [.int .i64 45, .int .i64 45, .int .i64 5] from (k83_mkM _ _ _ (⟨45, 45, 5⟩ : S83) )) (Reps.c3 (show Kd.M k83 _ _ _ (⟨46, 47, 8⟩ : S83) [.int .i64 46, .int .i64 47, .int .i64 8] from (k83_mkM _ _ _ (⟨46, 47, 8⟩ : S83) )) (Reps.c3 (show Kd.M k83 _ _ _ (⟨48, 57, 4⟩ : S83) [.int .i64 48, .int .i64 57, .int .i64 4] from (k83_mkM _ _ _ (⟨48, 57, 4⟩ : S83) )) (Reps.c3 (show Kd.M k83 _ _ _ (⟨58, 58, 8⟩ : S83) [.int .i64 58, .int .i64 58, .int .i64 8] from (k83_mkM _ _ _ (⟨58, 58, 8⟩ : S83) )) (Reps.c3 (show Kd.M k83 _ _ _ (⟨65, 90, 1⟩ : S83) [.int .i64 65, .int .i64 90, .int .i64 1] from (k83_mkM _ _ _ (⟨65, 90, 1⟩ : S83) )) (Reps.c3 (show Kd.M k83 _ _ _ (⟨97, 122, 1⟩ : S83) [.int .i64 97, .int .i64 122, .int .i64 1] from (k83_mkM _ _ _ (⟨97, 122, 1⟩ : S83) )) (Reps.c3 (show Kd.M k83 _ _ _ (⟨173, 173, 10⟩ : S83) [.int .i64 173, .int .i64 173, .int .i64 10] from (k83_mkM _ _ _ (⟨173, 173, 10⟩ : S83) )) (Reps.c3 (show Kd.M k83 _ _ _ (⟨768, 879, 9⟩ : S83) [.int .i64 768, .int .i64 879, .int .i64 9] from (k83_mkM _ _ _ (⟨768, 879, 9⟩ : S83) )) (Reps.c3 (show Kd.M k83 _ _ _ (⟨1488, 1514, 2⟩ : S83) [.int .i64 1488, .int .i64 1514, .int .i64 2] from (k83_mkM _ _ _ (⟨1488, 1514, 2⟩ : S83) )) (Reps.c3 (show Kd.M k83 _ _ _ (⟨1569, 1610, 3⟩ : S83) [.int .i64 1569, .int .i64 1610, .int .i64 3] from (k83_mkM _ _ _ (⟨1569, 1610, 3⟩ : S83) )) (Reps.c3 (show Kd.M k83 _ _ _ (⟨1632, 1641, 7⟩ : S83) [.int .i64 1632, .int .i64 1641, .int .i64 7] from (k83_mkM _ _ _ (⟨1632, 1641, 7⟩ : S83) )) (Reps.c3 (show Kd.M k83 _ _ _ (⟨8203, 8203, 10⟩ : S83) [.int .i64 8203, .int .i64 8203, .int .i64 10] from (k83_mkM _ _ _ (⟨8203, 8203, 10⟩ : S83) )) (Reps.c3 (show Kd.M k83 _ _ _ (⟨8205, 8205, 10⟩ : S83) [.int .i64 8205, .int .i64 8205, .int .i64 10] from (k83_mkM _ _ _ (⟨8205, 8205, 10⟩ : S83) )) (Reps.c3 (show Kd.M k83 _ _ _ (⟨8234, 8234, 14⟩ : S83) [.int .i64 8234, .int .i64 8234, .int .i64 14] from (k83_mkM _ _ _ (⟨8234, 8234, 14⟩ : S83) )) (Reps.c3 (show Kd.M k83 _ _ _ (⟨8235, 8235, 15⟩ : S83) [.int .i64 8235, .int .i64 8235, .int .i64 15] from (k83_mkM _ _ _ (⟨8235, 8235, 15⟩ : S83) )) (Reps.c3 (show Kd.M k83 _ _ _ (⟨8236, 8236, 16⟩ : S83) [.int .i64 8236, .int .i64 8236, .int .i64 16] from (k83_mkM _ _ _ (⟨8236, 8236, 16⟩ : S83) )) (Reps.c3 (show Kd.M k83 _ _ _ (⟨8237, 8237, 17⟩ : S83) [.int .i64 8237, .int .i64 8237, .int .i64 17] from (k83_mkM _ _ _ (⟨8237, 8237, 17⟩ : S83) )) (Reps.c3 (show Kd.M k83 _ _ _ (⟨8238, 8238, 18⟩ : S83) [.int .i64 8238, .int .i64 8238, .int .i64 18] from (k83_mkM _ _ _ (⟨8238, 8238, 18⟩ : S83) )) (Reps.c3 (show Kd.M k83 _ _ _ (⟨8294, 8294, 19⟩ : S83) [.int .i64 8294, .int .i64 8294, .int .i64 19] from (k83_mkM _ _ _ (⟨8294, 8294, 19⟩ : S83) )) (Reps.c3 (show Kd.M k83 _ _ _ (⟨8295, 8295, 20⟩ : S83) [.int .i64 8295, .int .i64 8295, .int .i64 20] from (k83_mkM _ _ _ (⟨8295, 8295, 20⟩ : S83) )) (Reps.c3 (show Kd.M k83 _ _ _ (⟨8296, 8296, 21⟩ : S83) [.int .i64 8296, .int .i64 8296, .int .i64 21] from (k83_mkM _ _ _ (⟨8296, 8296, 21⟩ : S83) )) (Reps.c3 (show Kd.M k83 _ _ _ (⟨8297, 8297, 22⟩ : S83) [.int .i64 8297, .int .i64 8297, .int .i64 22] from (k83_mkM _ _ _ (⟨8297, 8297, 22⟩ : S83) )) (Reps.c3 (show Kd.M k83 _ _ _ (⟨19968, 40959, 1⟩ : S83) [.int .i64 19968, .int .i64 40959, .int .i64 1] from (k83_mkM _ _ _ (⟨19968, 40959, 1⟩ : S83) )) (Reps.none _ _)))))))))))))))))))))))))))))); intro v122 w1 ho2 hb hg_ hnew_; clear hg_ hnew_; (first | rw [← Ny121.out] at ho2 | (simp only [Int.reduceToNat] at ho2; rw [← Ny121.out] at ho2)); have n0_ := Aside0.mk (Kd.R_lower ho2 (below_size (by repeat (first | (with_reducible first | exact HB.out | apply below_alloc | apply pw_below_drewN | apply below_drew1) | exact HB.out)))); have n1_ := Aside0.mk (below_step (by repeat (first | (with_reducible first | exact HB.out | apply below_alloc | apply pw_below_drewN | apply below_drew1) | exact HB.out)) hb); clear HB; have HO123 := n0_; have HB := n1_; clear n0_ n1_; clear hb ho2))
  go_ret
  exact ⟨_, by first | rfl | (simp [errW_none, errW_some] <;> rfl) | (simp [*, errW_none, errW_some] <;> rfl), by (with_reducible repeat (first | apply Kd.R_alloc | apply Kd.R_drewN | apply Kd.R_drew)); exact HO123.out, by repeat (first | (with_reducible first | exact HB.out | apply below_alloc | apply pw_below_drewN | apply below_drew1) | exact HB.out)⟩

/-! ### impl_RuneBidi: function 34 -/
def impl_RuneBidi.f (a0 : Int) : Option (Int) := (impl_bidiReaches.f).bind fun t124 => ((impl_find.f t124 a0 13).bind fun t127 => (some t127))
set_option maxHeartbeats 8000000 in
set_option maxRecDepth 100000 in
theorem impl_RuneBidi.calls (a0 : Int) (r : Int) (w : World) (h : impl_RuneBidi.f a0 = some r) :
    Calls Try.prog 34 #[.int .i64 a0] w fun e w' => e = .returned (.int .i64 r) ∧ Below w.heap.size w w' := by
  have HB := Aside0.mk (Below.refl w.heap.size w)
  have H : ((impl_bidiReaches.f).bind fun t124 => ((impl_find.f t124 a0 13).bind fun t127 => (some t127))) = some r := h
  clear h
  replace H := Option.bind_eq_some_iff.mp H
  obtain ⟨t124, A20, H⟩ := H
  replace H : ((impl_find.f t124 a0 13).bind fun t127 => (some t127)) = some r := H
  have A2 := Aside0.mk A20
  clear A20
  replace H := Option.bind_eq_some_iff.mp H
  obtain ⟨t127, A30, H⟩ := H
  replace H : (some t127) = some r := H
  have A3 := Aside0.mk A30
  clear A30
  obtain rfl := Option.some.inj H
  go_enter Try.func34, Try.ntmps34
  go_wp2_with (first | ((with_reducible refine gate_callee (f := 63) rfl ?_); refine goesL_ (some 3) rfl rfl Try.func63 (by kernel_rfl) rfl #[] rfl (by (try simp only [List.map_toArray, List.map_cons, List.map_nil]); first | done | rfl | (simp only [List.length_drop, List.length_take]; rfl)) ?_; (with_reducible refine (impl_bidiReaches.calls  t124 _ A2.out).mono ?_); rintro e w4 ⟨v125, rfl, ho0, hb⟩; refine ⟨_, rfl, ?_⟩; have n0_ := Aside0.mk (Kd.R_lower ho0 (below_size (by repeat (first | (with_reducible first | exact HB.out | apply below_alloc | apply pw_below_drewN | apply below_drew1) | exact HB.out)))); have n1_ := Aside0.mk (below_step (by repeat (first | (with_reducible first | exact HB.out | apply below_alloc | apply pw_below_drewN | apply below_drew1) | exact HB.out)) hb); clear HB; have HO126 := n0_; have HB := n1_; clear n0_ n1_; (try clear hb); (try clear hb2); (try clear hk); (try clear hi); (try clear ho0); obtain ⟨Ao5, co5, eo5⟩ := Kd.R_slice HO126.out; subst eo5) | ((with_reducible refine gate_callee (f := 62) rfl ?_); refine goesL_ (some 5) rfl rfl Try.func62 (by kernel_rfl) rfl #[.slice Ao5 t124.length co5, .int .i64 a0, .int .i64 13] rfl (by (try simp only [List.map_toArray, List.map_cons, List.map_nil]); first | done | rfl | (simp only [List.length_drop, List.length_take]; rfl)) ?_; (with_reducible refine (impl_find.calls _ _ t124 a0 13 t127 _ ?side1 ?side2 A3.out).mono ?_); (case side1 => repeat (first | exact (Kd.R_reads' HO126.out).2.2 | (with_reducible refine Kd.C_alloc ?_ _) | (with_reducible refine Kd.C_drewN ?_ _) | (with_reducible refine Kd.C_drew ?_))); (case side2 => exact (Kd.R_reads' HO126.out).2.1); rintro e w6 ⟨rfl, hb⟩; refine ⟨_, rfl, ?_⟩; have n0_ := Aside0.mk (Kd.R_below (by (with_reducible repeat (first | apply Kd.R_alloc | apply Kd.R_drewN | apply Kd.R_drew)); exact HO126.out) hb); have n1_ := Aside0.mk (below_step (by repeat (first | (with_reducible first | exact HB.out | apply below_alloc | apply pw_below_drewN | apply below_drew1) | exact HB.out)) hb); clear HO126; clear HB; have HO126 := n0_; have HB := n1_; clear n0_ n1_; (try clear hb); (try clear hb2); (try clear hk); (try clear hi)))
  go_ret
  exact ⟨by first | rfl | (simp [errW_none, errW_some] <;> rfl) | (simp [*, errW_none, errW_some] <;> rfl), by repeat (first | (with_reducible first | exact HB.out | apply below_alloc | apply pw_below_drewN | apply below_drew1) | exact HB.out)⟩

/-! ### laws_FnExactRuneBidi: function 10 -/
def laws_FnExactRuneBidi.f (k : Nat) (a0 : Int) : Option (Bool) := (spec_RuneBidi.f k a0).bind fun t128 => ((impl_RuneBidi.f a0).bind fun t129 => (if t129 = t128 then (some true) else (some false)))
theorem laws_FnExactRuneBidi.mono : ∀ a0 k, LeO (laws_FnExactRuneBidi.f k a0) (laws_FnExactRuneBidi.f (k + 1) a0) := by
  intro a0 k
  unfold laws_FnExactRuneBidi.f
  repeat' first
      | (with_reducible exact spec_RuneBidi.mono _ _)
      | (with_reducible exact LeO.refl _)
      | (with_reducible exact LeO.none _)
      | (with_reducible refine LeO.ite ?_ ?_)
      | (with_reducible refine LeO.bind ?_ (fun _ => ?_))
      | exact spec_RuneBidi.mono _ _
      | exact LeO.none _
      | refine LeO.ite ?_ ?_
      | refine LeO.bind ?_ (fun _ => ?_)
set_option maxHeartbeats 8000000 in
set_option maxRecDepth 100000 in
theorem laws_FnExactRuneBidi.calls (k : Nat) (a0 : Int) (r : Bool) (w : World) (h : laws_FnExactRuneBidi.f k a0 = some r) :
    Calls Try.prog 10 #[.int .i64 a0] w fun e w' => e = .returned (.bool r) ∧ Below w.heap.size w w' := by
  have HB := Aside0.mk (Below.refl w.heap.size w)
  have H : ((spec_RuneBidi.f k a0).bind fun t128 => ((impl_RuneBidi.f a0).bind fun t129 => (if t129 = t128 then (some true) else (some false)))) = some r := h
  clear h
  replace H := Option.bind_eq_some_iff.mp H
  obtain ⟨t128, A20, H⟩ := H
  replace H : ((impl_RuneBidi.f a0).bind fun t129 => (if t129 = t128 then (some true) else (some false))) = some r := H
  have A2 := Aside0.mk A20
  clear A20
  replace H := Option.bind_eq_some_iff.mp H
  obtain ⟨t129, A30, H⟩ := H
  replace H : (if t129 = t128 then (some true) else (some false)) = some r := H
  have A3 := Aside0.mk A30
  clear A30
  by_cases c4 : t129 = t128
  · rw [if_pos c4] at H
    have c4b0 : (t129 == t128) = true := beq_iff_eq.mpr c4
    have c4b1 : (t129 != t128) = false := bne_eq_false_iff_eq.mpr c4
    clear c4
    obtain rfl := Option.some.inj H
    go_enter Try.func10, Try.ntmps10
    go_wp2_with (first | ((with_reducible refine gate_callee (f := 33) rfl ?_); refine goesL_ (some 6) rfl rfl Try.func33 (by kernel_rfl) rfl #[.int .i64 a0] rfl (by (try simp only [List.map_toArray, List.map_cons, List.map_nil]); first | done | rfl | (simp only [List.length_drop, List.length_take]; rfl)) ?_; (with_reducible refine (spec_RuneBidi.calls k a0 t128 _ A2.out).mono ?_); rintro e w5 ⟨rfl, hb⟩; refine ⟨_, rfl, ?_⟩; have n0_ := Aside0.mk (below_step (by repeat (first | (with_reducible first | exact HB.out | apply below_alloc | apply pw_below_drewN | apply below_drew1) | exact HB.out)) hb); clear HB; have HB := n0_; clear n0_; (try clear hb); (try clear hb2); (try clear hk); (try clear hi)) | ((with_reducible refine gate_callee (f := 34) rfl ?_); refine goesL_ (some 8) rfl rfl Try.func34 (by kernel_rfl) rfl #[.int .i64 a0] rfl (by (try simp only [List.map_toArray, List.map_cons, List.map_nil]); first | done | rfl | (simp only [List.length_drop, List.length_take]; rfl)) ?_; (with_reducible refine (impl_RuneBidi.calls a0 t129 _ A3.out).mono ?_); rintro e w6 ⟨rfl, hb⟩; refine ⟨_, rfl, ?_⟩; have n0_ := Aside0.mk (below_step (by repeat (first | (with_reducible first | exact HB.out | apply below_alloc | apply pw_below_drewN | apply below_drew1) | exact HB.out)) hb); clear HB; have HB := n0_; clear n0_; (try clear hb); (try clear hb2); (try clear hk); (try clear hi)))
    go_ret
    exact ⟨by first | rfl | (simp [errW_none, errW_some] <;> rfl) | (simp [*, errW_none, errW_some] <;> rfl), by repeat (first | (with_reducible first | exact HB.out | apply below_alloc | apply pw_below_drewN | apply below_drew1) | exact HB.out)⟩
  · rw [if_neg c4] at H
    have c4b0 : (t129 == t128) = false := beq_eq_false_iff_ne.mpr c4
    have c4b1 : (t129 != t128) = true := bne_iff_ne.mpr c4
    obtain rfl := Option.some.inj H
    go_enter Try.func10, Try.ntmps10
    go_wp2_with (first | ((with_reducible refine gate_callee (f := 33) rfl ?_); refine goesL_ (some 6) rfl rfl Try.func33 (by kernel_rfl) rfl #[.int .i64 a0] rfl (by (try simp only [List.map_toArray, List.map_cons, List.map_nil]); first | done | rfl | (simp only [List.length_drop, List.length_take]; rfl)) ?_; (with_reducible refine (spec_RuneBidi.calls k a0 t128 _ A2.out).mono ?_); rintro e w7 ⟨rfl, hb⟩; refine ⟨_, rfl, ?_⟩; have n0_ := Aside0.mk (below_step (by repeat (first | (with_reducible first | exact HB.out | apply below_alloc | apply pw_below_drewN | apply below_drew1) | exact HB.out)) hb); clear HB; have HB := n0_; clear n0_; (try clear hb); (try clear hb2); (try clear hk); (try clear hi)) | ((with_reducible refine gate_callee (f := 34) rfl ?_); refine goesL_ (some 8) rfl rfl Try.func34 (by kernel_rfl) rfl #[.int .i64 a0] rfl (by (try simp only [List.map_toArray, List.map_cons, List.map_nil]); first | done | rfl | (simp only [List.length_drop, List.length_take]; rfl)) ?_; (with_reducible refine (impl_RuneBidi.calls a0 t129 _ A3.out).mono ?_); rintro e w8 ⟨rfl, hb⟩; refine ⟨_, rfl, ?_⟩; have n0_ := Aside0.mk (below_step (by repeat (first | (with_reducible first | exact HB.out | apply below_alloc | apply pw_below_drewN | apply below_drew1) | exact HB.out)) hb); clear HB; have HB := n0_; clear n0_; (try clear hb); (try clear hb2); (try clear hk); (try clear hi)))
    go_ret
    exact ⟨by first | rfl | (simp [errW_none, errW_some] <;> rfl) | (simp [*, errW_none, errW_some] <;> rfl), by repeat (first | (with_reducible first | exact HB.out | apply below_alloc | apply pw_below_drewN | apply below_drew1) | exact HB.out)⟩

/-- THE ONE PURE STATEMENT of laws_FnExactRuneBidi: yours. -/
def laws_FnExactRuneBidi.Pure : Prop := ∀ (a0 : Int), (Lit.int .i64 a0).wf = true → ∃ k, laws_FnExactRuneBidi.f k a0 = some true
theorem laws_FnExactRuneBidi.walk (P : laws_FnExactRuneBidi.Pure) (a0 : Int) (w : World) (w0 : (Lit.int .i64 a0).wf = true) :
    Calls Try.prog 10 #[.int .i64 a0] w fun e w' => e = .returned (.bool true) ∧ Below w.heap.size w w' := by
  obtain ⟨k, h⟩ := P a0 w0
  refine (laws_FnExactRuneBidi.calls k a0 true w h).mono ?_
  rintro e w' ⟨rfl, hd⟩
  exact ⟨rfl, hd⟩

end Go.Proofs.Ytjnmpamnlfabbaa.PFnExactRuneBidi
