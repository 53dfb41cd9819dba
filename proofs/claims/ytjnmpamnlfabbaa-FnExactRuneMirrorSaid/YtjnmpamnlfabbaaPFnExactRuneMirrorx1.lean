-- Written by a program of this session (wip/tools) out of the translation; its shape is that of the kit print.
import Derived.Test.YtjnmpamnlfabbaaPFnExactRuneMirrorx0
namespace Go.Proofs.Ytjnmpamnlfabbaa.PFnExactRuneMirror
open Go.RowKit Go.Proofs.YtjnmpamnlfabbaaW.PrintWords Go.Proofs.YtjnmpamnlfabbaaW.PrintLast Go.Proofs.YtjnmpamnlfabbaaW.PrintMore
attribute [local go_sem] max2_int min2_int max_two min_two max_three min_three max_four min_four   -- for this text's walks alone
set_option linter.unusedVariables false
set_option linter.unusedSimpArgs false

/-! ### spec_RuneMate: function 15 -/
def spec_RuneMate.l0 : Nat → Int → List Int → Int → Option (Int)
  | 0, _, _, _ => none
  | k + 1, x0, x3, x4 => if x4 < (x3.length : Int) then (if 0 ≤ x4 then (if (rd x3 x4) = x0 then (if 0 ≤ (wrap64 ((wrap64 (x4 + 1)) - (wrap64 (2 * (Int.tmod x4 2))))) then (if (wrap64 ((wrap64 (x4 + 1)) - (wrap64 (2 * (Int.tmod x4 2))))) < (x3.length : Int) then (some (rd x3 (wrap64 ((wrap64 (x4 + 1)) - (wrap64 (2 * (Int.tmod x4 2))))))) else (none)) else (none)) else (spec_RuneMate.l0 k x0 x3 (wrap64 (x4 + 1)))) else (none)) else (some 0)
def spec_RuneMate.f (k : Nat) (a0 : Int) : Option (Int) := spec_RuneMate.l0 k a0 (([40, 41, 91, 93, 123, 125] : List Int)) 0
theorem spec_RuneMate.mono_l : ∀ k, (∀ y0 y1 y2, LeO (spec_RuneMate.l0 k y0 y1 y2) (spec_RuneMate.l0 (k + 1) y0 y1 y2))
  | 0 => fun _ _ _ r h => by simp [spec_RuneMate.l0] at h
  | k + 1 => by
    have ih0 := spec_RuneMate.mono_l k
    · intro y0 y1 y2
      unfold spec_RuneMate.l0
      repeat' first
      | (with_reducible exact ih0 _ _ _)
      | (with_reducible exact LeO.refl _)
      | (with_reducible exact LeO.none _)
      | (with_reducible refine LeO.ite ?_ ?_)
      | (with_reducible refine LeO.bind ?_ (fun _ => ?_))
      | exact ih0 _ _ _
      | exact LeO.none _
      | refine LeO.ite ?_ ?_
      | refine LeO.bind ?_ (fun _ => ?_)
theorem spec_RuneMate.mono : ∀ a0 k, LeO (spec_RuneMate.f k a0) (spec_RuneMate.f (k + 1) a0) := by
  intro a0 k
  have ih0 := spec_RuneMate.mono_l k
  unfold spec_RuneMate.f
  repeat' first
      | (with_reducible exact ih0 _ _ _)
      | (with_reducible exact LeO.refl _)
      | (with_reducible exact LeO.none _)
      | (with_reducible refine LeO.ite ?_ ?_)
      | (with_reducible refine LeO.bind ?_ (fun _ => ?_))
      | exact ih0 _ _ _
      | exact LeO.none _
      | refine LeO.ite ?_ ?_
      | refine LeO.bind ?_ (fun _ => ?_)
set_option maxHeartbeats 8000000 in
set_option maxRecDepth 100000 in
theorem spec_RuneMate.calls (k : Nat) (a0 : Int) (r : Int) (w : World) (h : spec_RuneMate.f k a0 = some r) :
    Calls Try.prog 15 #[.int .i64 a0] w fun e w' => e = .returned (.int .i64 r) ∧ Below w.heap.size w w' := by
  have HB := Aside0.mk (Below.refl w.heap.size w)
  have H : (spec_RuneMate.l0 k a0 (([40, 41, 91, 93, 123, 125] : List Int)) 0) = some r := h
  clear h
  obtain ⟨y101, hy101⟩ : ∃ y_ : List Int, y_ = (([40, 41, 91, 93, 123, 125] : List Int)) := ⟨_, rfl⟩
  replace H : (spec_RuneMate.l0 k a0 y101 0) = some r := by first | (rw [hy101]; with_reducible exact H) | (have H2_ := (Option.bind_some _ _).symm.trans H; rw [hy101]; with_reducible exact H2_) | (have H2_ := (Option.bind_some _ _).symm.trans H; with_reducible exact H2_) | with_reducible exact H | (rw [hy101]; exact H) | exact H
  have Ny101 := Aside0.mk hy101
  clear hy101
  have H' := Aside0.mk H
  clear H
  go_enter Try.func15, Try.ntmps15
  go_wp2_with (first | ((with_reducible refine gate_dst (N := 5) rfl ?_); refine Kd.R_lit (Kd.int .i64) _ 3 ?hg (N := 5) ?hd (xs := ([40, 41, 91, 93, 123, 125] : List Int)) (inner := [.int .i64 40, .int .i64 41, .int .i64 91, .int .i64 93, .int .i64 123, .int .i64 125]) (ok := fun _ => True) (okp := fun _ => True) ?hr ?hp (fun _ hk => hk) trivial (Below.refl _ _) (Nat.le_refl _) (by simp) ?_; (case hd => rfl); (case hg => rfl); (case hr => first | (go_simp; done) | (go_simp; rfl)); (case hp => exact (Reps.one (show Kd.M (Kd.int .i64) _ _ _ 40 [.int .i64 40] from rfl) (Reps.one (show Kd.M (Kd.int .i64) _ _ _ 41 [.int .i64 41] from rfl) (Reps.one (show Kd.M (Kd.int .i64) _ _ _ 91 [.int .i64 91] from rfl) (Reps.one (show Kd.M (Kd.int .i64) _ _ _ 93 [.int .i64 93] from rfl) (Reps.one (show Kd.M (Kd.int .i64) _ _ _ 123 [.int .i64 123] from rfl) (Reps.one (show Kd.M (Kd.int .i64) _ _ _ 125 [.int .i64 125] from rfl) (Reps.none _ _)))))))); intro v102 w2 ho3 hb hg_ hnew_; clear hg_ hnew_; (first | rw [← Ny101.out] at ho3 | (simp only [Int.reduceToNat] at ho3; rw [← Ny101.out] at ho3)); have n0_ := Aside0.mk (Kd.R_lower ho3 (below_size (by repeat (first | (with_reducible first | exact HB.out | apply below_alloc | apply pw_below_drewN | apply below_drew1) | exact HB.out)))); have n1_ := Aside0.mk (below_step (by repeat (first | (with_reducible first | exact HB.out | apply below_alloc | apply pw_below_drewN | apply below_drew1) | exact HB.out)) hb); clear HB; have HO103 := n0_; have HB := n1_; clear n0_ n1_; clear hb ho3))
  go_loopg [4] k (fun kq v4 w' => ∃ (x4_1 : Int), v4 = .int .i64 x4_1 ∧ Aside0 (spec_RuneMate.l0 kq a0 y101 x4_1 = some r) ∧ Aside0 (kq ≤ k) ∧ Aside0 (Kd.R (Kd.int .i64) 3 w' w.heap.size (fun _ => True) v102 y101) ∧ Aside0 (Below w.heap.size w w'))
  case atStart => exact ⟨(0), (by first | rfl | (simp; done) | (simp [*]; done)), H', ⟨Nat.le_refl _⟩, ⟨by (with_reducible repeat (first | apply Kd.R_alloc | apply Kd.R_drewN | apply Kd.R_drew)); exact HO103.out⟩, ⟨by repeat (first | (with_reducible first | exact HB.out | apply below_alloc | apply pw_below_drewN | apply below_drew1) | exact HB.out)⟩⟩
  case round =>
    clear H'
    try clear c1
    try clear p2
    obtain ⟨x4_1, rfl, HA, HK1, HO_3, HB⟩ := hrel
    cases gk with
    | zero => exact absurd HA.out (by simp [spec_RuneMate.l0])
    | succ k1 =>
      have H := HA.out
      clear HA
      simp only [spec_RuneMate.l0] at H
      by_cases c4 : x4_1 < (y101.length : Int)
      · rw [if_pos c4] at H
        have c4b0 : decide (x4_1 < (y101.length : Int)) = true := decide_eq_true c4
        clear c4
        by_cases c5 : 0 ≤ x4_1
        · rw [if_pos c5] at H
          have c5b0 : decide (0 ≤ x4_1) = true := decide_eq_true c5
          clear c5
          by_cases c6 : (rd y101 x4_1) = a0
          · rw [if_pos c6] at H
            have c6b0 : ((rd y101 x4_1) == a0) = true := beq_iff_eq.mpr c6
            have c6b1 : ((rd y101 x4_1) != a0) = false := bne_eq_false_iff_eq.mpr c6
            clear c6
            obtain ⟨ji7, hji7⟩ : ∃ j_ : Int, (wrap64 ((wrap64 (x4_1 + 1)) - (wrap64 (2 * (Int.tmod x4_1 2))))) = j_ := ⟨_, rfl⟩
            replace H : (if 0 ≤ (ji7) then (if (ji7) < (y101.length : Int) then (some (rd y101 (ji7))) else (none)) else (none)) = some r := by first | (rw [hji7] at H; exact H) | (simp only [hji7] at H ⊢; exact H)
            have hji7w : (IntKind.i64.wrap ((wrap64 (x4_1 + 1)) - (wrap64 (2 * (Int.tmod x4_1 2))))) = ji7 := (i64_w _).trans hji7
            by_cases c8 : 0 ≤ (ji7)
            · rw [if_pos c8] at H
              have c8b0 : decide (0 ≤ (ji7)) = true := decide_eq_true c8
              clear c8
              by_cases c9 : (ji7) < (y101.length : Int)
              · rw [if_pos c9] at H
                have c9b0 : decide ((ji7) < (y101.length : Int)) = true := decide_eq_true c9
                clear c9
                obtain rfl := Option.some.inj H
                obtain ⟨Ao10, co10, eo10⟩ := Kd.R_slice HO_3.out
                subst eo10
                have p104 : 0 ≤ (x4_1 : Int) := of_decide_eq_true (by first | (with_reducible assumption) | assumption)
                have q104 : x4_1 < (y101.length : Int) := of_decide_eq_true (by first | (with_reducible assumption) | assumption)
                obtain ⟨ad104, e104, hx104_0⟩ := Kd.at_int (Kd.R_reads' HO_3.out).2.2 x4_1 p104 q104
                cases e104
                replace p104 := eq_true p104
                replace q104 := eq_true q104
                have p105 : 0 ≤ ((ji7) : Int) := of_decide_eq_true (by first | (with_reducible assumption) | assumption)
                have q105 : (ji7) < (y101.length : Int) := of_decide_eq_true (by first | (with_reducible assumption) | assumption)
                obtain ⟨ad105, e105, hx105_0⟩ := Kd.at_int (Kd.R_reads' HO_3.out).2.2 (ji7) p105 q105
                obtain rfl : ad104 = ad105 := (by injection e105)
                replace p105 := eq_true p105
                replace q105 := eq_true q105
                go_wp2
                go_ret
                exact ⟨by first | rfl | (simp [errW_none, errW_some] <;> rfl) | (simp only [← hji7]; first | rfl | (simp [errW_none, errW_some] <;> rfl)) | (simp [*, errW_none, errW_some] <;> rfl), by repeat (first | (with_reducible first | exact HB.out | apply below_alloc | apply pw_below_drewN | apply below_drew1) | exact HB.out)⟩
              · rw [if_neg c9] at H
                exact absurd H (by simp)
            · rw [if_neg c8] at H
              exact absurd H (by simp)
          · rw [if_neg c6] at H
            have c6b0 : ((rd y101 x4_1) == a0) = false := beq_eq_false_iff_ne.mpr c6
            have c6b1 : ((rd y101 x4_1) != a0) = true := bne_iff_ne.mpr c6
            have H' := Aside0.mk H
            clear H
            obtain ⟨Ao11, co11, eo11⟩ := Kd.R_slice HO_3.out
            subst eo11
            have p104 : 0 ≤ (x4_1 : Int) := of_decide_eq_true (by first | (with_reducible assumption) | assumption)
            have q104 : x4_1 < (y101.length : Int) := of_decide_eq_true (by first | (with_reducible assumption) | assumption)
            obtain ⟨ad104, e104, hx104_0⟩ := Kd.at_int (Kd.R_reads' HO_3.out).2.2 x4_1 p104 q104
            cases e104
            replace p104 := eq_true p104
            replace q104 := eq_true q104
            go_wp2
            go_roundg k1
            case measure => have := HK1.out; omega
            case rel => exact ⟨(wrap64 (x4_1 + 1)), (by first | rfl | (simp; done) | (simp [*]; done)), H', ⟨by have := HK1.out; omega⟩, ⟨by (with_reducible repeat (first | apply Kd.R_alloc | apply Kd.R_drewN | apply Kd.R_drew)); exact HO_3.out⟩, ⟨by repeat (first | (with_reducible first | exact HB.out | apply below_alloc | apply pw_below_drewN | apply below_drew1) | exact HB.out)⟩⟩
        · rw [if_neg c5] at H
          exact absurd H (by simp)
      · rw [if_neg c4] at H
        have c4b0 : decide (x4_1 < (y101.length : Int)) = false := decide_eq_false c4
        clear c4
        obtain rfl := Option.some.inj H
        obtain ⟨Ao12, co12, eo12⟩ := Kd.R_slice HO_3.out
        subst eo12
        go_wp2
        go_ret
        exact ⟨by first | rfl | (simp [errW_none, errW_some] <;> rfl) | (simp [*, errW_none, errW_some] <;> rfl), by repeat (first | (with_reducible first | exact HB.out | apply below_alloc | apply pw_below_drewN | apply below_drew1) | exact HB.out)⟩

/-! ### spec_RuneMirror: function 17 -/
def spec_RuneMirror.f (k : Nat) (a0 : Int) : Option (Int) := (spec_RuneMate.f k a0).bind fun t106 => (if t106 = 0 then (if a0 = 60 then (some 62) else (if a0 = 62 then (some 60) else (some a0))) else ((spec_RuneMate.f k a0).bind fun t107 => (some t107)))
theorem spec_RuneMirror.mono : ∀ a0 k, LeO (spec_RuneMirror.f k a0) (spec_RuneMirror.f (k + 1) a0) := by
  intro a0 k
  unfold spec_RuneMirror.f
  repeat' first
      | (with_reducible exact spec_RuneMate.mono _ _)
      | (with_reducible exact LeO.refl _)
      | (with_reducible exact LeO.none _)
      | (with_reducible refine LeO.ite ?_ ?_)
      | (with_reducible refine LeO.bind ?_ (fun _ => ?_))
      | exact spec_RuneMate.mono _ _
      | exact LeO.none _
      | refine LeO.ite ?_ ?_
      | refine LeO.bind ?_ (fun _ => ?_)
set_option maxHeartbeats 8000000 in
set_option maxRecDepth 100000 in
theorem spec_RuneMirror.calls (k : Nat) (a0 : Int) (r : Int) (w : World) (h : spec_RuneMirror.f k a0 = some r) :
    Calls Try.prog 17 #[.int .i64 a0] w fun e w' => e = .returned (.int .i64 r) ∧ Below w.heap.size w w' := by
  have HB := Aside0.mk (Below.refl w.heap.size w)
  have H : ((spec_RuneMate.f k a0).bind fun t106 => (if t106 = 0 then (if a0 = 60 then (some 62) else (if a0 = 62 then (some 60) else (some a0))) else ((spec_RuneMate.f k a0).bind fun t107 => (some t107)))) = some r := h
  clear h
  replace H := Option.bind_eq_some_iff.mp H
  obtain ⟨t106, A20, H⟩ := H
  replace H : (if t106 = 0 then (if a0 = 60 then (some 62) else (if a0 = 62 then (some 60) else (some a0))) else ((spec_RuneMate.f k a0).bind fun t107 => (some t107))) = some r := H
  have A2 := Aside0.mk A20
  clear A20
  by_cases c3 : t106 = 0
  · rw [if_pos c3] at H
    have c3b0 : (t106 == 0) = true := beq_iff_eq.mpr c3
    have c3b1 : (t106 != 0) = false := bne_eq_false_iff_eq.mpr c3
    clear c3
    by_cases c4 : a0 = 60
    · rw [if_pos c4] at H
      have c4b0 : (a0 == 60) = true := beq_iff_eq.mpr c4
      have c4b1 : (a0 != 60) = false := bne_eq_false_iff_eq.mpr c4
      clear c4
      obtain rfl := Option.some.inj H
      go_enter Try.func17, Try.ntmps17
      go_wp2_with (first | ((with_reducible refine gate_callee (f := 15) rfl ?_); refine goesL_ (some 5) rfl rfl Try.func15 (by kernel_rfl) rfl #[.int .i64 a0] rfl (by (try simp only [List.map_toArray, List.map_cons, List.map_nil]); first | done | rfl | (simp only [List.length_drop, List.length_take]; rfl)) ?_; (with_reducible refine (spec_RuneMate.calls k a0 t106 _ A2.out).mono ?_); rintro e w5 ⟨rfl, hb⟩; refine ⟨_, rfl, ?_⟩; have n0_ := Aside0.mk (below_step (by repeat (first | (with_reducible first | exact HB.out | apply below_alloc | apply pw_below_drewN | apply below_drew1) | exact HB.out)) hb); clear HB; have HB := n0_; clear n0_; (try clear hb); (try clear hb2); (try clear hk); (try clear hi)))
      go_ret
      exact ⟨by first | rfl | (simp [errW_none, errW_some] <;> rfl) | (simp [*, errW_none, errW_some] <;> rfl), by repeat (first | (with_reducible first | exact HB.out | apply below_alloc | apply pw_below_drewN | apply below_drew1) | exact HB.out)⟩
    · rw [if_neg c4] at H
      have c4b0 : (a0 == 60) = false := beq_eq_false_iff_ne.mpr c4
      have c4b1 : (a0 != 60) = true := bne_iff_ne.mpr c4
      by_cases c6 : a0 = 62
      · rw [if_pos c6] at H
        have c6b0 : (a0 == 62) = true := beq_iff_eq.mpr c6
        have c6b1 : (a0 != 62) = false := bne_eq_false_iff_eq.mpr c6
        clear c6
        obtain rfl := Option.some.inj H
        go_enter Try.func17, Try.ntmps17
        go_wp2_with (first | ((with_reducible refine gate_callee (f := 15) rfl ?_); refine goesL_ (some 5) rfl rfl Try.func15 (by kernel_rfl) rfl #[.int .i64 a0] rfl (by (try simp only [List.map_toArray, List.map_cons, List.map_nil]); first | done | rfl | (simp only [List.length_drop, List.length_take]; rfl)) ?_; (with_reducible refine (spec_RuneMate.calls k a0 t106 _ A2.out).mono ?_); rintro e w7 ⟨rfl, hb⟩; refine ⟨_, rfl, ?_⟩; have n0_ := Aside0.mk (below_step (by repeat (first | (with_reducible first | exact HB.out | apply below_alloc | apply pw_below_drewN | apply below_drew1) | exact HB.out)) hb); clear HB; have HB := n0_; clear n0_; (try clear hb); (try clear hb2); (try clear hk); (try clear hi)))
        go_ret
        exact ⟨by first | rfl | (simp [errW_none, errW_some] <;> rfl) | (simp [*, errW_none, errW_some] <;> rfl), by repeat (first | (with_reducible first | exact HB.out | apply below_alloc | apply pw_below_drewN | apply below_drew1) | exact HB.out)⟩
      · rw [if_neg c6] at H
        have c6b0 : (a0 == 62) = false := beq_eq_false_iff_ne.mpr c6
        have c6b1 : (a0 != 62) = true := bne_iff_ne.mpr c6
        obtain rfl := Option.some.inj H
        go_enter Try.func17, Try.ntmps17
        go_wp2_with (first | ((with_reducible refine gate_callee (f := 15) rfl ?_); refine goesL_ (some 5) rfl rfl Try.func15 (by kernel_rfl) rfl #[.int .i64 a0] rfl (by (try simp only [List.map_toArray, List.map_cons, List.map_nil]); first | done | rfl | (simp only [List.length_drop, List.length_take]; rfl)) ?_; (with_reducible refine (spec_RuneMate.calls k a0 t106 _ A2.out).mono ?_); rintro e w8 ⟨rfl, hb⟩; refine ⟨_, rfl, ?_⟩; have n0_ := Aside0.mk (below_step (by repeat (first | (with_reducible first | exact HB.out | apply below_alloc | apply pw_below_drewN | apply below_drew1) | exact HB.out)) hb); clear HB; have HB := n0_; clear n0_; (try clear hb); (try clear hb2); (try clear hk); (try clear hi)))
        go_ret
        exact ⟨by first | rfl | (simp [errW_none, errW_some] <;> rfl) | (simp [*, errW_none, errW_some] <;> rfl), by repeat (first | (with_reducible first | exact HB.out | apply below_alloc | apply pw_below_drewN | apply below_drew1) | exact HB.out)⟩
  · rw [if_neg c3] at H
    have c3b0 : (t106 == 0) = false := beq_eq_false_iff_ne.mpr c3
    have c3b1 : (t106 != 0) = true := bne_iff_ne.mpr c3
    replace H := Option.bind_eq_some_iff.mp H
    obtain ⟨t107, A90, H⟩ := H
    replace H : (some t107) = some r := H
    have A9 := Aside0.mk A90
    clear A90
    obtain rfl := Option.some.inj H
    go_enter Try.func17, Try.ntmps17
    go_wp2_with (first | ((with_reducible refine gate_callee (f := 15) rfl ?_); refine goesL_ (some 5) rfl rfl Try.func15 (by kernel_rfl) rfl #[.int .i64 a0] rfl (by (try simp only [List.map_toArray, List.map_cons, List.map_nil]); first | done | rfl | (simp only [List.length_drop, List.length_take]; rfl)) ?_; (with_reducible refine (spec_RuneMate.calls k a0 t106 _ A2.out).mono ?_); rintro e w10 ⟨rfl, hb⟩; refine ⟨_, rfl, ?_⟩; have n0_ := Aside0.mk (below_step (by repeat (first | (with_reducible first | exact HB.out | apply below_alloc | apply pw_below_drewN | apply below_drew1) | exact HB.out)) hb); clear HB; have HB := n0_; clear n0_; (try clear hb); (try clear hb2); (try clear hk); (try clear hi)) | ((with_reducible refine gate_callee (f := 15) rfl ?_); refine goesL_ (some 8) rfl rfl Try.func15 (by kernel_rfl) rfl #[.int .i64 a0] rfl (by (try simp only [List.map_toArray, List.map_cons, List.map_nil]); first | done | rfl | (simp only [List.length_drop, List.length_take]; rfl)) ?_; (with_reducible refine (spec_RuneMate.calls k a0 t107 _ A9.out).mono ?_); rintro e w11 ⟨rfl, hb⟩; refine ⟨_, rfl, ?_⟩; have n0_ := Aside0.mk (below_step (by repeat (first | (with_reducible first | exact HB.out | apply below_alloc | apply pw_below_drewN | apply below_drew1) | exact HB.out)) hb); clear HB; have HB := n0_; clear n0_; (try clear hb); (try clear hb2); (try clear hk); (try clear hi)))
    go_ret
    exact ⟨by first | rfl | (simp [errW_none, errW_some] <;> rfl) | (simp [*, errW_none, errW_some] <;> rfl), by repeat (first | (with_reducible first | exact HB.out | apply below_alloc | apply pw_below_drewN | apply below_drew1) | exact HB.out)⟩

/-- A key of a map's literal, at the operation: as 'm[k] = v'. -/
theorem wpList_insert_own {H : Type} {P : Program} (w : World) {ops : Array Oper} {rest : List Oper} {o : Oper} {a : Act} {Q : Exit → Act → World → Prop}
    (hg : o.guard = none) (m x v : Operand) (t : TypeId) (hop : o.op = Op.insert t m x v)
    (k e : TypeId) (K : Go.Maps.Keyed P k) (ht : P.underlying t = some (.map k e)) (R : Value → Option (DataW H × List MemPlace)) (b n : Nat) (D : DataW H)
    (hm : a.eval m = .map (some b)) (hown : w.ownsMap P k R b n D) (hn : n < maxLen) (key val : Value) (kl : Lit) (hx : a.eval x = key) (hv : a.eval v = val) (hkey : keyOf P k key = some kl)
    (d : DataW H) (ps : List MemPlace) (hval : R val = some (d, ps))
    (hK : ∀ w', w'.ownsMap P k R b (n + 1) (D.put kl d) → w.grownBy w' (some b) → wpList P ops Q rest (a.put o.dst undef) w') :
    wpList P ops Q (o :: rest) a w := by
  refine wpList_plain hg fun K' hK' => ?_
  obtain ⟨w', hrun, r1, r2⟩ := hown.update K ht hn hkey hval
  unfold Oper.wp
  simp [execOp, hop, hm, hx, hv, hrun, Result.andThen]
  exact hK' _ _ (hK w' r1 r2)
/-- the other one of a bracket's two -/
def mate (x : Int) : Int := if x = 40 then 41 else if x = 41 then 40 else if x = 91 then 93 else if x = 93 then 91 else if x = 123 then 125 else if x = 125 then 123 else 0
def inI64 (x : Int) : Bool := decide (-9223372036854775808 ≤ x) && decide (x ≤ 9223372036854775807)
theorem inI64_wf {x : Int} (h : inI64 x = true) : (Lit.int .i64 x).wf = true := by
  simp only [inI64, Bool.and_eq_true, decide_eq_true_eq] at h
  exact Go.WalkArith.wf_i64 h
def impl_RuneMate.f (a0 : Int) : Option Int := if inI64 a0 = true then some (mate a0) else none
def mateD : DataW Unit := ((((((.map [] : DataW Unit).put (.int .i64 40) (.lit (.int .i64 41)) : DataW Unit).put (.int .i64 41) (.lit (.int .i64 40)) : DataW Unit).put (.int .i64 91) (.lit (.int .i64 93)) : DataW Unit).put (.int .i64 93) (.lit (.int .i64 91)) : DataW Unit).put (.int .i64 123) (.lit (.int .i64 125)) : DataW Unit).put (.int .i64 125) (.lit (.int .i64 123))
theorem mateD_at (x c : Int) (h : mateD.atKey (.int .i64 x) (.lit (.int .i64 0)) = .lit (.int .i64 c)) : c = mate x := by
  have e : mateD = .map [(.int .i64 40, .lit (.int .i64 41)), (.int .i64 41, .lit (.int .i64 40)), (.int .i64 91, .lit (.int .i64 93)), (.int .i64 93, .lit (.int .i64 91)), (.int .i64 123, .lit (.int .i64 125)), (.int .i64 125, .lit (.int .i64 123))] := by rfl
  rw [e] at h
  unfold mate
  simp only [DataW.atKey, List.find?, Lit.sameKey] at h
  by_cases h1 : x = 40
  · subst h1; simp at h; subst h; decide
  by_cases h2 : x = 41
  · subst h2; simp at h; subst h; decide
  by_cases h3 : x = 91
  · subst h3; simp at h; subst h; decide
  by_cases h4 : x = 93
  · subst h4; simp at h; subst h; decide
  by_cases h5 : x = 123
  · subst h5; simp at h; subst h; decide
  by_cases h6 : x = 125
  · subst h6; simp at h; subst h; decide
  have g1 : ¬ (40 = x) := fun h => h1 h.symm
  have g2 : ¬ (41 = x) := fun h => h2 h.symm
  have g3 : ¬ (91 = x) := fun h => h3 h.symm
  have g4 : ¬ (93 = x) := fun h => h4 h.symm
  have g5 : ¬ (123 = x) := fun h => h5 h.symm
  have g6 : ¬ (125 = x) := fun h => h6 h.symm
  simp [g1, g2, g3, g4, g5, g6] at h
  simp [h1, h2, h3, h4, h5, h6, h]
theorem gv_zero3 (w : World) : (zeroValue 3).run Try.prog w = .ok (.int .i64 0) w := by kernel_rfl
set_option maxHeartbeats 2000000 in
set_option maxRecDepth 100000 in
theorem impl_RuneMate.calls (a0 : Int) (r : Int) (w : World) (h : impl_RuneMate.f a0 = some r) :
    Calls Try.prog 16 #[.int .i64 a0] w fun e w' => e = .returned (.int .i64 r) ∧ Below w.heap.size w w' := by
  unfold impl_RuneMate.f at h
  split at h
  case isFalse => exact absurd h (by simp)
  case isTrue hb =>
  have H := Aside0.mk (Option.some.inj h)
  clear h
  have K3 : Go.Maps.Keyed Try.prog 3 := Go.Maps.int_keyed Try.underlying3
  have key : keyOf Try.prog 3 (.int .i64 a0) = some (.int .i64 a0) := Go.Maps.keyOf_int_mk Try.underlying3 (inI64_wf hb)
  have HKey := Aside0.mk key
  clear key hb
  have hmm := @run_makeMap Try.prog
  have hown0 : (w.alloc (.map #[] 0)).ownsMap Try.prog 3 (plainElem (H := Unit) Try.prog 3) w.heap.size 0 (.map []) := World.ownsMap_made _ _ _ _
  have hB0 : Below w.heap.size w (w.alloc (.map #[] 0)) := (Below.refl _ _).alloc (Nat.le_refl _) _
  go_enter Try.func16, Try.ntmps16
  go_wp2_with (first
    | ((with_reducible refine gate_ (.insert 55 (.tmp 4) (.const (.int .i64 40)) (.const (.int .i64 41))) rfl ?_); refine wpList_insert_own _ rfl _ _ _ 55 rfl 3 3 K3 Try.underlying55 _ w.heap.size 0 _ rfl hown0 (by unfold maxLen; omega) _ _ _ rfl rfl (Go.Maps.keyOf_int_mk Try.underlying3 (by decide)) _ [] (plainElem_int Try.underlying3 (by decide)) ?_; intro w1 hown1 hgrow1; have hB1 := hB0.grown hgrow1 hB0.size (fun j e => by cases e; exact Nat.le_refl _); clear hown0 hgrow1 hB0)
    | ((with_reducible refine gate_ (.insert 55 (.tmp 4) (.const (.int .i64 41)) (.const (.int .i64 40))) rfl ?_); refine wpList_insert_own _ rfl _ _ _ 55 rfl 3 3 K3 Try.underlying55 _ w.heap.size 1 _ rfl hown1 (by unfold maxLen; omega) _ _ _ rfl rfl (Go.Maps.keyOf_int_mk Try.underlying3 (by decide)) _ [] (plainElem_int Try.underlying3 (by decide)) ?_; intro w2 hown2 hgrow2; have hB2 := hB1.grown hgrow2 hB1.size (fun j e => by cases e; exact Nat.le_refl _); clear hown1 hgrow2 hB1)
    | ((with_reducible refine gate_ (.insert 55 (.tmp 4) (.const (.int .i64 91)) (.const (.int .i64 93))) rfl ?_); refine wpList_insert_own _ rfl _ _ _ 55 rfl 3 3 K3 Try.underlying55 _ w.heap.size 2 _ rfl hown2 (by unfold maxLen; omega) _ _ _ rfl rfl (Go.Maps.keyOf_int_mk Try.underlying3 (by decide)) _ [] (plainElem_int Try.underlying3 (by decide)) ?_; intro w3 hown3 hgrow3; have hB3 := hB2.grown hgrow3 hB2.size (fun j e => by cases e; exact Nat.le_refl _); clear hown2 hgrow3 hB2)
    | ((with_reducible refine gate_ (.insert 55 (.tmp 4) (.const (.int .i64 93)) (.const (.int .i64 91))) rfl ?_); refine wpList_insert_own _ rfl _ _ _ 55 rfl 3 3 K3 Try.underlying55 _ w.heap.size 3 _ rfl hown3 (by unfold maxLen; omega) _ _ _ rfl rfl (Go.Maps.keyOf_int_mk Try.underlying3 (by decide)) _ [] (plainElem_int Try.underlying3 (by decide)) ?_; intro w4 hown4 hgrow4; have hB4 := hB3.grown hgrow4 hB3.size (fun j e => by cases e; exact Nat.le_refl _); clear hown3 hgrow4 hB3)
    | ((with_reducible refine gate_ (.insert 55 (.tmp 4) (.const (.int .i64 123)) (.const (.int .i64 125))) rfl ?_); refine wpList_insert_own _ rfl _ _ _ 55 rfl 3 3 K3 Try.underlying55 _ w.heap.size 4 _ rfl hown4 (by unfold maxLen; omega) _ _ _ rfl rfl (Go.Maps.keyOf_int_mk Try.underlying3 (by decide)) _ [] (plainElem_int Try.underlying3 (by decide)) ?_; intro w5 hown5 hgrow5; have hB5 := hB4.grown hgrow5 hB4.size (fun j e => by cases e; exact Nat.le_refl _); clear hown4 hgrow5 hB4)
    | ((with_reducible refine gate_ (.insert 55 (.tmp 4) (.const (.int .i64 125)) (.const (.int .i64 123))) rfl ?_); refine wpList_insert_own _ rfl _ _ _ 55 rfl 3 3 K3 Try.underlying55 _ w.heap.size 5 _ rfl hown5 (by unfold maxLen; omega) _ _ _ rfl rfl (Go.Maps.keyOf_int_mk Try.underlying3 (by decide)) _ [] (plainElem_int Try.underlying3 (by decide)) ?_; intro w6 hown6 hgrow6; have hB6 := hB5.grown hgrow6 hB5.size (fun j e => by cases e; exact Nat.le_refl _); clear hown5 hgrow6 hB5)
    | ((with_reducible refine gate_dst (N := 8) rfl ?_); refine wpList_lookup_own_int _ rfl _ _ 55 rfl 3 3 .i64 K3 Try.underlying55 Try.underlying3 (gv_zero3 _) w.heap.size 6 _ rfl hown6 _ _ rfl HKey.out ?_; intro c hat hwc; have Hat := Aside0.mk hat; clear hat))
  go_ret
  exact ⟨by rw [← H.out, ← mateD_at a0 c Hat.out]; rfl, hB6⟩


/-! ### impl_RuneMirror: function 18 -/
def impl_RuneMirror.f (a0 : Int) : Option (Int) := (impl_RuneMate.f a0).bind fun t108 => (if t108 = 0 then (if a0 = 60 then (some 62) else (if a0 = 62 then (some 60) else (some a0))) else (some t108))
set_option maxHeartbeats 8000000 in
set_option maxRecDepth 100000 in
theorem impl_RuneMirror.calls (a0 : Int) (r : Int) (w : World) (h : impl_RuneMirror.f a0 = some r) :
    Calls Try.prog 18 #[.int .i64 a0] w fun e w' => e = .returned (.int .i64 r) ∧ Below w.heap.size w w' := by
  have HB := Aside0.mk (Below.refl w.heap.size w)
  have H : ((impl_RuneMate.f a0).bind fun t108 => (if t108 = 0 then (if a0 = 60 then (some 62) else (if a0 = 62 then (some 60) else (some a0))) else (some t108))) = some r := h
  clear h
  replace H := Option.bind_eq_some_iff.mp H
  obtain ⟨t108, A20, H⟩ := H
  replace H : (if t108 = 0 then (if a0 = 60 then (some 62) else (if a0 = 62 then (some 60) else (some a0))) else (some t108)) = some r := H
  have A2 := Aside0.mk A20
  clear A20
  by_cases c3 : t108 = 0
  · rw [if_pos c3] at H
    have c3b0 : (t108 == 0) = true := beq_iff_eq.mpr c3
    have c3b1 : (t108 != 0) = false := bne_eq_false_iff_eq.mpr c3
    clear c3
    by_cases c4 : a0 = 60
    · rw [if_pos c4] at H
      have c4b0 : (a0 == 60) = true := beq_iff_eq.mpr c4
      have c4b1 : (a0 != 60) = false := bne_eq_false_iff_eq.mpr c4
      clear c4
      obtain rfl := Option.some.inj H
      go_enter Try.func18, Try.ntmps18
      go_wp2_with (first | ((with_reducible refine gate_callee (f := 16) rfl ?_); refine goesL_ (some 5) rfl rfl Try.func16 (by kernel_rfl) rfl #[.int .i64 a0] rfl (by (try simp only [List.map_toArray, List.map_cons, List.map_nil]); first | done | rfl | (simp only [List.length_drop, List.length_take]; rfl)) ?_; (with_reducible refine (impl_RuneMate.calls a0 t108 _ A2.out).mono ?_); rintro e w5 ⟨rfl, hb⟩; refine ⟨_, rfl, ?_⟩; have n0_ := Aside0.mk (below_step (by repeat (first | (with_reducible first | exact HB.out | apply below_alloc | apply pw_below_drewN | apply below_drew1) | exact HB.out)) hb); clear HB; have HB := n0_; clear n0_; (try clear hb); (try clear hb2); (try clear hk); (try clear hi)))
      go_ret
      exact ⟨by first | rfl | (simp [errW_none, errW_some] <;> rfl) | (simp [*, errW_none, errW_some] <;> rfl), by repeat (first | (with_reducible first | exact HB.out | apply below_alloc | apply pw_below_drewN | apply below_drew1) | exact HB.out)⟩
    · rw [if_neg c4] at H
      have c4b0 : (a0 == 60) = false := beq_eq_false_iff_ne.mpr c4
      have c4b1 : (a0 != 60) = true := bne_iff_ne.mpr c4
      by_cases c6 : a0 = 62
      · rw [if_pos c6] at H
        have c6b0 : (a0 == 62) = true := beq_iff_eq.mpr c6
        have c6b1 : (a0 != 62) = false := bne_eq_false_iff_eq.mpr c6
        clear c6
        obtain rfl := Option.some.inj H
        go_enter Try.func18, Try.ntmps18
        go_wp2_with (first | ((with_reducible refine gate_callee (f := 16) rfl ?_); refine goesL_ (some 5) rfl rfl Try.func16 (by kernel_rfl) rfl #[.int .i64 a0] rfl (by (try simp only [List.map_toArray, List.map_cons, List.map_nil]); first | done | rfl | (simp only [List.length_drop, List.length_take]; rfl)) ?_; (with_reducible refine (impl_RuneMate.calls a0 t108 _ A2.out).mono ?_); rintro e w7 ⟨rfl, hb⟩; refine ⟨_, rfl, ?_⟩; have n0_ := Aside0.mk (below_step (by repeat (first | (with_reducible first | exact HB.out | apply below_alloc | apply pw_below_drewN | apply below_drew1) | exact HB.out)) hb); clear HB; have HB := n0_; clear n0_; (try clear hb); (try clear hb2); (try clear hk); (try clear hi)))
        go_ret
        exact ⟨by first | rfl | (simp [errW_none, errW_some] <;> rfl) | (simp [*, errW_none, errW_some] <;> rfl), by repeat (first | (with_reducible first | exact HB.out | apply below_alloc | apply pw_below_drewN | apply below_drew1) | exact HB.out)⟩
      · rw [if_neg c6] at H
        have c6b0 : (a0 == 62) = false := beq_eq_false_iff_ne.mpr c6
        have c6b1 : (a0 != 62) = true := bne_iff_ne.mpr c6
        obtain rfl := Option.some.inj H
        go_enter Try.func18, Try.ntmps18
        go_wp2_with (first | ((with_reducible refine gate_callee (f := 16) rfl ?_); refine goesL_ (some 5) rfl rfl Try.func16 (by kernel_rfl) rfl #[.int .i64 a0] rfl (by (try simp only [List.map_toArray, List.map_cons, List.map_nil]); first | done | rfl | (simp only [List.length_drop, List.length_take]; rfl)) ?_; (with_reducible refine (impl_RuneMate.calls a0 t108 _ A2.out).mono ?_); rintro e w8 ⟨rfl, hb⟩; refine ⟨_, rfl, ?_⟩; have n0_ := Aside0.mk (below_step (by repeat (first | (with_reducible first | exact HB.out | apply below_alloc | apply pw_below_drewN | apply below_drew1) | exact HB.out)) hb); clear HB; have HB := n0_; clear n0_; (try clear hb); (try clear hb2); (try clear hk); (try clear hi)))
        go_ret
        exact ⟨by first | rfl | (simp [errW_none, errW_some] <;> rfl) | (simp [*, errW_none, errW_some] <;> rfl), by repeat (first | (with_reducible first | exact HB.out | apply below_alloc | apply pw_below_drewN | apply below_drew1) | exact HB.out)⟩
  · rw [if_neg c3] at H
    have c3b0 : (t108 == 0) = false := beq_eq_false_iff_ne.mpr c3
    have c3b1 : (t108 != 0) = true := bne_iff_ne.mpr c3
    obtain rfl := Option.some.inj H
    go_enter Try.func18, Try.ntmps18
    go_wp2_with (first | ((with_reducible refine gate_callee (f := 16) rfl ?_); refine goesL_ (some 5) rfl rfl Try.func16 (by kernel_rfl) rfl #[.int .i64 a0] rfl (by (try simp only [List.map_toArray, List.map_cons, List.map_nil]); first | done | rfl | (simp only [List.length_drop, List.length_take]; rfl)) ?_; (with_reducible refine (impl_RuneMate.calls a0 t108 _ A2.out).mono ?_); rintro e w9 ⟨rfl, hb⟩; refine ⟨_, rfl, ?_⟩; have n0_ := Aside0.mk (below_step (by repeat (first | (with_reducible first | exact HB.out | apply below_alloc | apply pw_below_drewN | apply below_drew1) | exact HB.out)) hb); clear HB; have HB := n0_; clear n0_; (try clear hb); (try clear hb2); (try clear hk); (try clear hi)))
    go_ret
    exact ⟨by first | rfl | (simp [errW_none, errW_some] <;> rfl) | (simp [*, errW_none, errW_some] <;> rfl), by repeat (first | (with_reducible first | exact HB.out | apply below_alloc | apply pw_below_drewN | apply below_drew1) | exact HB.out)⟩

/-! ### laws_FnExactRuneMirror: function 5 -/
def laws_FnExactRuneMirror.f (k : Nat) (a0 : Int) : Option (Bool) := (spec_RuneMirror.f k a0).bind fun t109 => ((impl_RuneMirror.f a0).bind fun t110 => (if t110 = t109 then (some true) else (some false)))
theorem laws_FnExactRuneMirror.mono : ∀ a0 k, LeO (laws_FnExactRuneMirror.f k a0) (laws_FnExactRuneMirror.f (k + 1) a0) := by
  intro a0 k
  unfold laws_FnExactRuneMirror.f
  repeat' first
      | (with_reducible exact spec_RuneMirror.mono _ _)
      | (with_reducible exact LeO.refl _)
      | (with_reducible exact LeO.none _)
      | (with_reducible refine LeO.ite ?_ ?_)
      | (with_reducible refine LeO.bind ?_ (fun _ => ?_))
      | exact spec_RuneMirror.mono _ _
      | exact LeO.none _
      | refine LeO.ite ?_ ?_
      | refine LeO.bind ?_ (fun _ => ?_)
set_option maxHeartbeats 8000000 in
set_option maxRecDepth 100000 in
theorem laws_FnExactRuneMirror.calls (k : Nat) (a0 : Int) (r : Bool) (w : World) (h : laws_FnExactRuneMirror.f k a0 = some r) :
    Calls Try.prog 5 #[.int .i64 a0] w fun e w' => e = .returned (.bool r) ∧ Below w.heap.size w w' := by
  have HB := Aside0.mk (Below.refl w.heap.size w)
  have H : ((spec_RuneMirror.f k a0).bind fun t109 => ((impl_RuneMirror.f a0).bind fun t110 => (if t110 = t109 then (some true) else (some false)))) = some r := h
  clear h
  replace H := Option.bind_eq_some_iff.mp H
  obtain ⟨t109, A20, H⟩ := H
  replace H : ((impl_RuneMirror.f a0).bind fun t110 => (if t110 = t109 then (some true) else (some false))) = some r := H
  have A2 := Aside0.mk A20
  clear A20
  replace H := Option.bind_eq_some_iff.mp H
  obtain ⟨t110, A30, H⟩ := H
  replace H : (if t110 = t109 then (some true) else (some false)) = some r := H
  have A3 := Aside0.mk A30
  clear A30
  by_cases c4 : t110 = t109
  · rw [if_pos c4] at H
    have c4b0 : (t110 == t109) = true := beq_iff_eq.mpr c4
    have c4b1 : (t110 != t109) = false := bne_eq_false_iff_eq.mpr c4
    clear c4
    obtain rfl := Option.some.inj H
    go_enter Try.func5, Try.ntmps5
    go_wp2_with (first | ((with_reducible refine gate_callee (f := 17) rfl ?_); refine goesL_ (some 6) rfl rfl Try.func17 (by kernel_rfl) rfl #[.int .i64 a0] rfl (by (try simp only [List.map_toArray, List.map_cons, List.map_nil]); first | done | rfl | (simp only [List.length_drop, List.length_take]; rfl)) ?_; (with_reducible refine (spec_RuneMirror.calls k a0 t109 _ A2.out).mono ?_); rintro e w5 ⟨rfl, hb⟩; refine ⟨_, rfl, ?_⟩; have n0_ := Aside0.mk (below_step (by repeat (first | (with_reducible first | exact HB.out | apply below_alloc | apply pw_below_drewN | apply below_drew1) | exact HB.out)) hb); clear HB; have HB := n0_; clear n0_; (try clear hb); (try clear hb2); (try clear hk); (try clear hi)) | ((with_reducible refine gate_callee (f := 18) rfl ?_); refine goesL_ (some 8) rfl rfl Try.func18 (by kernel_rfl) rfl #[.int .i64 a0] rfl (by (try simp only [List.map_toArray, List.map_cons, List.map_nil]); first | done | rfl | (simp only [List.length_drop, List.length_take]; rfl)) ?_; (with_reducible refine (impl_RuneMirror.calls a0 t110 _ A3.out).mono ?_); rintro e w6 ⟨rfl, hb⟩; refine ⟨_, rfl, ?_⟩; have n0_ := Aside0.mk (below_step (by repeat (first | (with_reducible first | exact HB.out | apply below_alloc | apply pw_below_drewN | apply below_drew1) | exact HB.out)) hb); clear HB; have HB := n0_; clear n0_; (try clear hb); (try clear hb2); (try clear hk); (try clear hi)))
    go_ret
    exact ⟨by first | rfl | (simp [errW_none, errW_some] <;> rfl) | (simp [*, errW_none, errW_some] <;> rfl), by repeat (first | (with_reducible first | exact HB.out | apply below_alloc | apply pw_below_drewN | apply below_drew1) | exact HB.out)⟩
  · rw [if_neg c4] at H
    have c4b0 : (t110 == t109) = false := beq_eq_false_iff_ne.mpr c4
    have c4b1 : (t110 != t109) = true := bne_iff_ne.mpr c4
    obtain rfl := Option.some.inj H
    go_enter Try.func5, Try.ntmps5
    go_wp2_with (first | ((with_reducible refine gate_callee (f := 17) rfl ?_); refine goesL_ (some 6) rfl rfl Try.func17 (by kernel_rfl) rfl #[.int .i64 a0] rfl (by (try simp only [List.map_toArray, List.map_cons, List.map_nil]); first | done | rfl | (simp only [List.length_drop, List.length_take]; rfl)) ?_; (with_reducible refine (spec_RuneMirror.calls k a0 t109 _ A2.out).mono ?_); rintro e w7 ⟨rfl, hb⟩; refine ⟨_, rfl, ?_⟩; have n0_ := Aside0.mk (below_step (by repeat (first | (with_reducible first | exact HB.out | apply below_alloc | apply pw_below_drewN | apply below_drew1) | exact HB.out)) hb); clear HB; have HB := n0_; clear n0_; (try clear hb); (try clear hb2); (try clear hk); (try clear hi)) | ((with_reducible refine gate_callee (f := 18) rfl ?_); refine goesL_ (some 8) rfl rfl Try.func18 (by kernel_rfl) rfl #[.int .i64 a0] rfl (by (try simp only [List.map_toArray, List.map_cons, List.map_nil]); first | done | rfl | (simp only [List.length_drop, List.length_take]; rfl)) ?_; (with_reducible refine (impl_RuneMirror.calls a0 t110 _ A3.out).mono ?_); rintro e w8 ⟨rfl, hb⟩; refine ⟨_, rfl, ?_⟩; have n0_ := Aside0.mk (below_step (by repeat (first | (with_reducible first | exact HB.out | apply below_alloc | apply pw_below_drewN | apply below_drew1) | exact HB.out)) hb); clear HB; have HB := n0_; clear n0_; (try clear hb); (try clear hb2); (try clear hk); (try clear hi)))
    go_ret
    exact ⟨by first | rfl | (simp [errW_none, errW_some] <;> rfl) | (simp [*, errW_none, errW_some] <;> rfl), by repeat (first | (with_reducible first | exact HB.out | apply below_alloc | apply pw_below_drewN | apply below_drew1) | exact HB.out)⟩

/-- THE ONE PURE STATEMENT of laws_FnExactRuneMirror: yours. -/
def laws_FnExactRuneMirror.Pure : Prop := ∀ (a0 : Int), (Lit.int .i64 a0).wf = true → ∃ k, laws_FnExactRuneMirror.f k a0 = some true
theorem laws_FnExactRuneMirror.walk (P : laws_FnExactRuneMirror.Pure) (a0 : Int) (w : World) (w0 : (Lit.int .i64 a0).wf = true) :
    Calls Try.prog 5 #[.int .i64 a0] w fun e w' => e = .returned (.bool true) ∧ Below w.heap.size w w' := by
  obtain ⟨k, h⟩ := P a0 w0
  refine (laws_FnExactRuneMirror.calls k a0 true w h).mono ?_
  rintro e w' ⟨rfl, hd⟩
  exact ⟨rfl, hd⟩

end Go.Proofs.Ytjnmpamnlfabbaa.PFnExactRuneMirror
