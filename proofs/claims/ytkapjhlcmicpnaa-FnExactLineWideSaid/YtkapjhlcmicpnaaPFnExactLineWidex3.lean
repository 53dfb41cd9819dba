-- Written by a program of this session (wip/tools) out of the translation; its shape is that of the kit print.
import Derived.Test.YtkapjhlcmicpnaaPFnExactLineWidex0
import Derived.Test.YtkapjhlcmicpnaaPFnExactLineWidex1
import Derived.Test.YtkapjhlcmicpnaaPFnExactLineWidex2
namespace Go.Proofs.Ytkapjhlcmicpnaa.PFnExactLineWide
open Go.RowKit Go.Proofs.YtkapjhlcmicpnaaW.PrintWords Go.Proofs.YtkapjhlcmicpnaaW.PrintLast Go.Proofs.YtkapjhlcmicpnaaW.PrintMore
attribute [local go_sem] max2_int min2_int max_two min_two max_three min_three max_four min_four   -- for this text's walks alone
set_option linter.unusedVariables false
set_option linter.unusedSimpArgs false

/-! ### spec_RuneWide: function 124 -/
mutual
def spec_RuneWide.j0 : Nat → Int → Int → Bool → Option (Int)
  | 0, _, _, _ => none
  | k + 1, x0, x3, x6 => if x6 = true then (some 0) else ((spec_l1Has.f k (([105, 106, 108, 102, 116] : List Int)) x0).bind fun t138 => (if t138 = true then (some 6) else (if x0 = 109 then (spec_RuneWide.j1 k x0 x3 true) else (spec_RuneWide.j1 k x0 x3 (x0 == 119)))))
def spec_RuneWide.j1 : Nat → Int → Int → Bool → Option (Int)
  | 0, _, _, _ => none
  | k + 1, x0, x3, x29 => if x29 = true then (some 16) else ((spec_l1In.f x0 19968 40959).bind fun t139 => (if t139 = true then (some 20) else (if x3 = 2 then (spec_RuneWide.j2 k x3 true) else (spec_RuneWide.j2 k x3 (x3 == 3)))))
def spec_RuneWide.j2 : Nat → Int → Bool → Option (Int)
  | 0, _, _ => none
  | k + 1, x3, x39 => if x39 = true then (some 12) else (if x3 = 11 then (some 40) else (if x3 = 12 then (some 6) else (if x3 = 8 then (some 6) else (some 10))))
end
def spec_RuneWide.f (k : Nat) (a0 : Int) : Option (Int) := (spec_RuneBidi.f k a0).bind fun t134 => (if t134 = 9 then (spec_RuneWide.j0 k a0 t134 true) else (if t134 = 10 then (spec_RuneWide.j0 k a0 t134 true) else (if t134 ≥ 14 then (spec_RuneWide.j0 k a0 t134 true) else (if a0 = 10 then (spec_RuneWide.j0 k a0 t134 true) else (spec_RuneWide.j0 k a0 t134 (a0 == 13))))))
theorem spec_RuneWide.mono_l : ∀ k, (∀ y0 y1 y2, LeO (spec_RuneWide.j0 k y0 y1 y2) (spec_RuneWide.j0 (k + 1) y0 y1 y2)) ∧ (∀ y0 y1 y2, LeO (spec_RuneWide.j1 k y0 y1 y2) (spec_RuneWide.j1 (k + 1) y0 y1 y2)) ∧ (∀ y0 y1, LeO (spec_RuneWide.j2 k y0 y1) (spec_RuneWide.j2 (k + 1) y0 y1))
  | 0 => ⟨fun _ _ _ r h => by simp [spec_RuneWide.j0] at h, fun _ _ _ r h => by simp [spec_RuneWide.j1] at h, fun _ _ r h => by simp [spec_RuneWide.j2] at h⟩
  | k + 1 => by
    obtain ⟨ih0, ih1, ih2⟩ := spec_RuneWide.mono_l k
    refine ⟨?_, ?_, ?_⟩
    · intro y0 y1 y2
      unfold spec_RuneWide.j0
      repeat' first
      | (with_reducible exact ih0 _ _ _)
      | (with_reducible exact ih1 _ _ _)
      | (with_reducible exact ih2 _ _)
      | (with_reducible exact spec_RuneBidi.mono _ _)
      | (with_reducible exact spec_l1Has.mono _ _ _)
      | (with_reducible exact LeO.refl _)
      | (with_reducible exact LeO.none _)
      | (with_reducible refine LeO.ite ?_ ?_)
      | (with_reducible refine LeO.bind ?_ (fun _ => ?_))
      | exact ih0 _ _ _
      | exact ih1 _ _ _
      | exact ih2 _ _
      | exact spec_RuneBidi.mono _ _
      | exact spec_l1Has.mono _ _ _
      | exact LeO.none _
      | refine LeO.ite ?_ ?_
      | refine LeO.bind ?_ (fun _ => ?_)
    · intro y0 y1 y2
      unfold spec_RuneWide.j1
      repeat' first
      | (with_reducible exact ih0 _ _ _)
      | (with_reducible exact ih1 _ _ _)
      | (with_reducible exact ih2 _ _)
      | (with_reducible exact spec_RuneBidi.mono _ _)
      | (with_reducible exact spec_l1Has.mono _ _ _)
      | (with_reducible exact LeO.refl _)
      | (with_reducible exact LeO.none _)
      | (with_reducible refine LeO.ite ?_ ?_)
      | (with_reducible refine LeO.bind ?_ (fun _ => ?_))
      | exact ih0 _ _ _
      | exact ih1 _ _ _
      | exact ih2 _ _
      | exact spec_RuneBidi.mono _ _
      | exact spec_l1Has.mono _ _ _
      | exact LeO.none _
      | refine LeO.ite ?_ ?_
      | refine LeO.bind ?_ (fun _ => ?_)
    · intro y0 y1
      unfold spec_RuneWide.j2
      repeat' first
      | (with_reducible exact ih0 _ _ _)
      | (with_reducible exact ih1 _ _ _)
      | (with_reducible exact ih2 _ _)
      | (with_reducible exact spec_RuneBidi.mono _ _)
      | (with_reducible exact spec_l1Has.mono _ _ _)
      | (with_reducible exact LeO.refl _)
      | (with_reducible exact LeO.none _)
      | (with_reducible refine LeO.ite ?_ ?_)
      | (with_reducible refine LeO.bind ?_ (fun _ => ?_))
      | exact ih0 _ _ _
      | exact ih1 _ _ _
      | exact ih2 _ _
      | exact spec_RuneBidi.mono _ _
      | exact spec_l1Has.mono _ _ _
      | exact LeO.none _
      | refine LeO.ite ?_ ?_
      | refine LeO.bind ?_ (fun _ => ?_)
theorem spec_RuneWide.mono : ∀ a0 k, LeO (spec_RuneWide.f k a0) (spec_RuneWide.f (k + 1) a0) := by
  intro a0 k
  obtain ⟨ih0, ih1, ih2⟩ := spec_RuneWide.mono_l k
  unfold spec_RuneWide.f
  repeat' first
      | (with_reducible exact ih0 _ _ _)
      | (with_reducible exact ih1 _ _ _)
      | (with_reducible exact ih2 _ _)
      | (with_reducible exact spec_RuneBidi.mono _ _)
      | (with_reducible exact spec_l1Has.mono _ _ _)
      | (with_reducible exact LeO.refl _)
      | (with_reducible exact LeO.none _)
      | (with_reducible refine LeO.ite ?_ ?_)
      | (with_reducible refine LeO.bind ?_ (fun _ => ?_))
      | exact ih0 _ _ _
      | exact ih1 _ _ _
      | exact ih2 _ _
      | exact spec_RuneBidi.mono _ _
      | exact spec_l1Has.mono _ _ _
      | exact LeO.none _
      | refine LeO.ite ?_ ?_
      | refine LeO.bind ?_ (fun _ => ?_)
set_option maxHeartbeats 8000000 in
set_option maxRecDepth 100000 in
theorem spec_RuneWide.calls (k : Nat) (a0 : Int) (r : Int) (w : World) (h : spec_RuneWide.f k a0 = some r) :
    Calls Try.prog 124 #[.int .i64 a0] w fun e w' => e = .returned (.int .i64 r) ∧ Below w.heap.size w w' := by
  have HB := Aside0.mk (Below.refl w.heap.size w)
  have H : ((spec_RuneBidi.f k a0).bind fun t134 => (if t134 = 9 then (spec_RuneWide.j0 k a0 t134 true) else (if t134 = 10 then (spec_RuneWide.j0 k a0 t134 true) else (if t134 ≥ 14 then (spec_RuneWide.j0 k a0 t134 true) else (if a0 = 10 then (spec_RuneWide.j0 k a0 t134 true) else (spec_RuneWide.j0 k a0 t134 (a0 == 13))))))) = some r := h
  clear h
  replace H := Option.bind_eq_some_iff.mp H
  obtain ⟨t134, A20, H⟩ := H
  replace H : (if t134 = 9 then (spec_RuneWide.j0 k a0 t134 true) else (if t134 = 10 then (spec_RuneWide.j0 k a0 t134 true) else (if t134 ≥ 14 then (spec_RuneWide.j0 k a0 t134 true) else (if a0 = 10 then (spec_RuneWide.j0 k a0 t134 true) else (spec_RuneWide.j0 k a0 t134 (a0 == 13)))))) = some r := H
  have A2 := Aside0.mk A20
  clear A20
  have HC3 := Aside0.mk H
  clear H
  go_enter Try.func124, Try.ntmps124
  go_upto_region 2 with (first | ((with_reducible refine gate_callee (f := 96) rfl ?_); refine goesL_ (some 5) rfl rfl Try.func96 (by kernel_rfl) rfl #[.int .i64 a0] rfl (by (try simp only [List.map_toArray, List.map_cons, List.map_nil]); first | done | rfl | (simp only [List.length_drop, List.length_take]; rfl)) ?_; (with_reducible refine (spec_RuneBidi.calls k a0 t134 _ A2.out).mono ?_); rintro e w4 ⟨rfl, hb⟩; refine ⟨_, rfl, ?_⟩; have n0_ := Aside0.mk (below_step (by repeat (first | (with_reducible first | exact HB.out | apply below_alloc | apply pw_below_drewN | apply below_drew1) | exact HB.out)) hb); clear HB; have HB := n0_; clear n0_; (try clear hb); (try clear hb2); (try clear hk); (try clear hi)))
  (try simp only [Act.put, List.setIfInBounds_toArray, List.set_cons_zero, List.set_cons_succ])
  go_cut [6] (fun v6 wc => ∃ (kq : Nat) (x6_2 : Bool), v6 = .bool x6_2 ∧ Aside0 (spec_RuneWide.j0 kq a0 t134 x6_2 = some r) ∧ Aside0 (kq ≤ k) ∧ Aside0 (Below w.heap.size w wc))
  case first =>
    have H := HC3.out
    clear HC3
    by_cases c5 : t134 = 9
    · rw [if_pos c5] at H
      have c5b0 : (t134 == 9) = true := beq_iff_eq.mpr c5
      have c5b1 : (t134 != 9) = false := bne_eq_false_iff_eq.mpr c5
      clear c5
      (first | rw [c5b0] | (simp only [i64_w, i32_w]; rw [c5b0]) | skip)
      have H' := Aside0.mk H
      clear H
      go_wp2
      go_meet
      case rel => exact ⟨_, (true), (by first | rfl | (simp; done) | (simp [*]; done)), H', ⟨by first | omega | exact Nat.le_refl _⟩, ⟨by repeat (first | (with_reducible first | exact HB.out | apply below_alloc | apply pw_below_drewN | apply below_drew1) | exact HB.out)⟩⟩
    · rw [if_neg c5] at H
      have c5b0 : (t134 == 9) = false := beq_eq_false_iff_ne.mpr c5
      have c5b1 : (t134 != 9) = true := bne_iff_ne.mpr c5
      (first | rw [c5b0] | (simp only [i64_w, i32_w]; rw [c5b0]) | skip)
      by_cases c6 : t134 = 10
      · rw [if_pos c6] at H
        have c6b0 : (t134 == 10) = true := beq_iff_eq.mpr c6
        have c6b1 : (t134 != 10) = false := bne_eq_false_iff_eq.mpr c6
        clear c6
        have H' := Aside0.mk H
        clear H
        go_wp2
        go_meet
        case rel => exact ⟨_, (true), (by first | rfl | (simp; done) | (simp [*]; done)), H', ⟨by first | omega | exact Nat.le_refl _⟩, ⟨by repeat (first | (with_reducible first | exact HB.out | apply below_alloc | apply pw_below_drewN | apply below_drew1) | exact HB.out)⟩⟩
      · rw [if_neg c6] at H
        have c6b0 : (t134 == 10) = false := beq_eq_false_iff_ne.mpr c6
        have c6b1 : (t134 != 10) = true := bne_iff_ne.mpr c6
        by_cases c7 : t134 ≥ 14
        · rw [if_pos c7] at H
          have c7b0 : decide (14 ≤ t134) = true := decide_eq_true c7
          clear c7
          have H' := Aside0.mk H
          clear H
          go_wp2
          go_meet
          case rel => exact ⟨_, (true), (by first | rfl | (simp; done) | (simp [*]; done)), H', ⟨by first | omega | exact Nat.le_refl _⟩, ⟨by repeat (first | (with_reducible first | exact HB.out | apply below_alloc | apply pw_below_drewN | apply below_drew1) | exact HB.out)⟩⟩
        · rw [if_neg c7] at H
          have c7b0 : decide (14 ≤ t134) = false := decide_eq_false c7
          clear c7
          by_cases c8 : a0 = 10
          · rw [if_pos c8] at H
            have c8b0 : (a0 == 10) = true := beq_iff_eq.mpr c8
            have c8b1 : (a0 != 10) = false := bne_eq_false_iff_eq.mpr c8
            clear c8
            have H' := Aside0.mk H
            clear H
            go_wp2
            go_meet
            case rel => exact ⟨_, (true), (by first | rfl | (simp; done) | (simp [*]; done)), H', ⟨by first | omega | exact Nat.le_refl _⟩, ⟨by repeat (first | (with_reducible first | exact HB.out | apply below_alloc | apply pw_below_drewN | apply below_drew1) | exact HB.out)⟩⟩
          · rw [if_neg c8] at H
            have c8b0 : (a0 == 10) = false := beq_eq_false_iff_ne.mpr c8
            have c8b1 : (a0 != 10) = true := bne_iff_ne.mpr c8
            have H' := Aside0.mk H
            clear H
            go_wp2
            go_meet
            case rel => exact ⟨_, ((a0 == 13)), (by first | rfl | (simp; done) | (simp [*]; done)), H', ⟨by first | omega | exact Nat.le_refl _⟩, ⟨by repeat (first | (with_reducible first | exact HB.out | apply below_alloc | apply pw_below_drewN | apply below_drew1) | exact HB.out)⟩⟩
  case rest =>
    clear HC3
    try clear c1
    try clear p2
    try clear c5
    try clear c5b0
    try clear c5b1
    try clear c6
    try clear c6b0
    try clear c6b1
    try clear c7
    try clear c7b0
    try clear c8
    try clear c8b0
    try clear c8b1
    obtain ⟨kq, x6_2, rfl, HA, HJ2, HB⟩ := hcut
    cases kq with
    | zero => exact absurd HA.out (by simp [spec_RuneWide.j0])
    | succ kj2 =>
      have H := HA.out
      clear HA
      simp only [spec_RuneWide.j0] at H
      by_cases c9 : x6_2 = true
      · subst c9
        have H1 : (some 0) = some r := by rw [if_pos rfl] at H; exact H
        clear H
        have H := H1
        clear H1
        obtain rfl := Option.some.inj H
        go_wp2
        go_ret
        exact ⟨by first | rfl | (simp [errW_none, errW_some] <;> rfl) | (simp [*, errW_none, errW_some] <;> rfl), by repeat (first | (with_reducible first | exact HB.out | apply below_alloc | apply pw_below_drewN | apply below_drew1) | exact HB.out)⟩
      · replace c9 := Bool.eq_false_iff.mpr c9
        subst c9
        have H1 : ((spec_l1Has.f kj2 (([105, 106, 108, 102, 116] : List Int)) a0).bind fun t138 => (if t138 = true then (some 6) else (if a0 = 109 then (spec_RuneWide.j1 kj2 a0 t134 true) else (spec_RuneWide.j1 kj2 a0 t134 (a0 == 119))))) = some r := by rw [if_neg (show ¬ (false = true) by decide)] at H; exact H
        clear H
        have H := H1
        clear H1
        obtain ⟨y135, hy135⟩ : ∃ y_ : List Int, y_ = (([105, 106, 108, 102, 116] : List Int)) := ⟨_, rfl⟩
        replace H : ((spec_l1Has.f kj2 y135 a0).bind fun t138 => (if t138 = true then (some 6) else (if a0 = 109 then (spec_RuneWide.j1 kj2 a0 t134 true) else (spec_RuneWide.j1 kj2 a0 t134 (a0 == 119))))) = some r := by first | (rw [hy135]; with_reducible exact H) | (have H2_ := (Option.bind_some _ _).symm.trans H; rw [hy135]; with_reducible exact H2_) | (have H2_ := (Option.bind_some _ _).symm.trans H; with_reducible exact H2_) | with_reducible exact H | (rw [hy135]; exact H) | exact H
        have Ny135 := Aside0.mk hy135
        clear hy135
        replace H := Option.bind_eq_some_iff.mp H
        obtain ⟨t138, A100, H⟩ := H
        replace H : (if t138 = true then (some 6) else (if a0 = 109 then (spec_RuneWide.j1 kj2 a0 t134 true) else (spec_RuneWide.j1 kj2 a0 t134 (a0 == 119)))) = some r := H
        have A10 := Aside0.mk A100
        clear A100
        by_cases c11 : t138 = true
        · subst c11
          have H1 : (some 6) = some r := by rw [if_pos rfl] at H; exact H
          clear H
          have H := H1
          clear H1
          obtain rfl := Option.some.inj H
          go_wp2_with (first | ((with_reducible refine gate_dst (N := 26) rfl ?_); refine Kd.R_lit (Kd.int .i64) _ 3 ?hg (N := 26) ?hd (xs := ([105, 106, 108, 102, 116] : List Int)) (inner := [.int .i64 105, .int .i64 106, .int .i64 108, .int .i64 102, .int .i64 116]) (ok := fun _ => True) (okp := fun _ => True) ?hr ?hp (fun _ hk => hk) trivial (Below.refl _ _) (Nat.le_refl _) (by simp) ?_; (case hd => rfl); (case hg => rfl); (case hr => first | (go_simp; done) | (go_simp; rfl)); (case hp => exact (Reps.one (show Kd.M (Kd.int .i64) _ _ _ 105 [.int .i64 105] from rfl) (Reps.one (show Kd.M (Kd.int .i64) _ _ _ 106 [.int .i64 106] from rfl) (Reps.one (show Kd.M (Kd.int .i64) _ _ _ 108 [.int .i64 108] from rfl) (Reps.one (show Kd.M (Kd.int .i64) _ _ _ 102 [.int .i64 102] from rfl) (Reps.one (show Kd.M (Kd.int .i64) _ _ _ 116 [.int .i64 116] from rfl) (Reps.none _ _))))))); intro v136 w12 ho13 hb hg_ hnew_; clear hg_ hnew_; (first | rw [← Ny135.out] at ho13 | (simp only [Int.reduceToNat] at ho13; rw [← Ny135.out] at ho13)); have n0_ := Aside0.mk (Kd.R_lower ho13 (below_size (by repeat (first | (with_reducible first | exact HB.out | apply below_alloc | apply pw_below_drewN | apply below_drew1) | exact HB.out)))); have n1_ := Aside0.mk (below_step (by repeat (first | (with_reducible first | exact HB.out | apply below_alloc | apply pw_below_drewN | apply below_drew1) | exact HB.out)) hb); clear HB; have HO137 := n0_; have HB := n1_; clear n0_ n1_; clear hb ho13; obtain ⟨Ao14, co14, eo14⟩ := Kd.R_slice HO137.out; subst eo14) | ((with_reducible refine gate_callee (f := 130) rfl ?_); refine goesL_ (some 28) rfl rfl Try.func130 (by kernel_rfl) rfl #[.slice Ao14 y135.length co14, .int .i64 a0] rfl (by (try simp only [List.map_toArray, List.map_cons, List.map_nil]); first | done | rfl | (simp only [List.length_drop, List.length_take]; rfl)) ?_; (with_reducible refine (spec_l1Has.calls kj2 _ _ y135 a0 true _ ?side1 ?side2 A10.out).mono ?_); (case side1 => repeat (first | exact (Kd.R_reads' HO137.out).2.2 | (with_reducible refine Kd.C_alloc ?_ _) | (with_reducible refine Kd.C_drewN ?_ _) | (with_reducible refine Kd.C_drew ?_))); (case side2 => exact (Kd.R_reads' HO137.out).2.1); rintro e w' ⟨rfl, ⟨nd, rfl⟩⟩; refine ⟨_, rfl, ?_⟩))
          go_ret
          exact ⟨by first | rfl | (simp [errW_none, errW_some] <;> rfl) | (simp [*, errW_none, errW_some] <;> rfl), by repeat (first | (with_reducible first | exact HB.out | apply below_alloc | apply pw_below_drewN | apply below_drew1) | exact HB.out)⟩
        · replace c11 := Bool.eq_false_iff.mpr c11
          subst c11
          have H1 : (if a0 = 109 then (spec_RuneWide.j1 kj2 a0 t134 true) else (spec_RuneWide.j1 kj2 a0 t134 (a0 == 119))) = some r := by rw [if_neg (show ¬ (false = true) by decide)] at H; exact H
          clear H
          have H := H1
          clear H1
          have HC15 := Aside0.mk H
          clear H
          go_upto_region 6 with (first | ((with_reducible refine gate_dst (N := 26) rfl ?_); refine Kd.R_lit (Kd.int .i64) _ 3 ?hg (N := 26) ?hd (xs := ([105, 106, 108, 102, 116] : List Int)) (inner := [.int .i64 105, .int .i64 106, .int .i64 108, .int .i64 102, .int .i64 116]) (ok := fun _ => True) (okp := fun _ => True) ?hr ?hp (fun _ hk => hk) trivial (Below.refl _ _) (Nat.le_refl _) (by simp) ?_; (case hd => rfl); (case hg => rfl); (case hr => first | (go_simp; done) | (go_simp; rfl)); (case hp => exact (Reps.one (show Kd.M (Kd.int .i64) _ _ _ 105 [.int .i64 105] from rfl) (Reps.one (show Kd.M (Kd.int .i64) _ _ _ 106 [.int .i64 106] from rfl) (Reps.one (show Kd.M (Kd.int .i64) _ _ _ 108 [.int .i64 108] from rfl) (Reps.one (show Kd.M (Kd.int .i64) _ _ _ 102 [.int .i64 102] from rfl) (Reps.one (show Kd.M (Kd.int .i64) _ _ _ 116 [.int .i64 116] from rfl) (Reps.none _ _))))))); intro v136 w16 ho17 hb hg_ hnew_; clear hg_ hnew_; (first | rw [← Ny135.out] at ho17 | (simp only [Int.reduceToNat] at ho17; rw [← Ny135.out] at ho17)); have n0_ := Aside0.mk (Kd.R_lower ho17 (below_size (by repeat (first | (with_reducible first | exact HB.out | apply below_alloc | apply pw_below_drewN | apply below_drew1) | exact HB.out)))); have n1_ := Aside0.mk (below_step (by repeat (first | (with_reducible first | exact HB.out | apply below_alloc | apply pw_below_drewN | apply below_drew1) | exact HB.out)) hb); clear HB; have HO137 := n0_; have HB := n1_; clear n0_ n1_; clear hb ho17; obtain ⟨Ao18, co18, eo18⟩ := Kd.R_slice HO137.out; subst eo18) | ((with_reducible refine gate_callee (f := 130) rfl ?_); refine goesL_ (some 28) rfl rfl Try.func130 (by kernel_rfl) rfl #[.slice Ao18 y135.length co18, .int .i64 a0] rfl (by (try simp only [List.map_toArray, List.map_cons, List.map_nil]); first | done | rfl | (simp only [List.length_drop, List.length_take]; rfl)) ?_; (with_reducible refine (spec_l1Has.calls kj2 _ _ y135 a0 false _ ?side1 ?side2 A10.out).mono ?_); (case side1 => repeat (first | exact (Kd.R_reads' HO137.out).2.2 | (with_reducible refine Kd.C_alloc ?_ _) | (with_reducible refine Kd.C_drewN ?_ _) | (with_reducible refine Kd.C_drew ?_))); (case side2 => exact (Kd.R_reads' HO137.out).2.1); rintro e w' ⟨rfl, ⟨nd, rfl⟩⟩; refine ⟨_, rfl, ?_⟩))
          (try simp only [Act.put, List.setIfInBounds_toArray, List.set_cons_zero, List.set_cons_succ])
          go_cut [29] (fun v29 wc => ∃ (kq : Nat) (x29_14 : Bool), v29 = .bool x29_14 ∧ Aside0 (spec_RuneWide.j1 kq a0 t134 x29_14 = some r) ∧ Aside0 (kq ≤ kj2) ∧ Aside0 (Below w.heap.size w wc))
          case first =>
            have H := HC15.out
            clear HC15
            by_cases c19 : a0 = 109
            · rw [if_pos c19] at H
              have c19b0 : (a0 == 109) = true := beq_iff_eq.mpr c19
              have c19b1 : (a0 != 109) = false := bne_eq_false_iff_eq.mpr c19
              clear c19
              (first | rw [c19b0] | (simp only [i64_w, i32_w]; rw [c19b0]) | skip)
              have H' := Aside0.mk H
              clear H
              go_wp2
              go_meet
              case rel => exact ⟨_, (true), (by first | rfl | (simp; done) | (simp [*]; done)), H', ⟨by have := HJ2.out; first | omega | exact Nat.le_refl _⟩, ⟨by repeat (first | (with_reducible first | exact HB.out | apply below_alloc | apply pw_below_drewN | apply below_drew1) | exact HB.out)⟩⟩
            · rw [if_neg c19] at H
              have c19b0 : (a0 == 109) = false := beq_eq_false_iff_ne.mpr c19
              have c19b1 : (a0 != 109) = true := bne_iff_ne.mpr c19
              (first | rw [c19b0] | (simp only [i64_w, i32_w]; rw [c19b0]) | skip)
              have H' := Aside0.mk H
              clear H
              go_wp2
              go_meet
              case rel => exact ⟨_, ((a0 == 119)), (by first | rfl | (simp; done) | (simp [*]; done)), H', ⟨by have := HJ2.out; first | omega | exact Nat.le_refl _⟩, ⟨by repeat (first | (with_reducible first | exact HB.out | apply below_alloc | apply pw_below_drewN | apply below_drew1) | exact HB.out)⟩⟩
          case rest =>
            clear HC15
            try clear c1
            try clear p2
            try clear c5
            try clear c5b0
            try clear c5b1
            try clear c6
            try clear c6b0
            try clear c6b1
            try clear c7
            try clear c7b0
            try clear c8
            try clear c8b0
            try clear c8b1
            try clear c9
            try clear c11
            try clear c12
            try clear c13
            try clear c19
            try clear c19b0
            try clear c19b1
            try clear p2
            obtain ⟨kq, x29_14, rfl, HA, HJ14, HB⟩ := hcut
            cases kq with
            | zero => exact absurd HA.out (by simp [spec_RuneWide.j1])
            | succ kj14 =>
              have H := HA.out
              clear HA
              simp only [spec_RuneWide.j1] at H
              by_cases c20 : x29_14 = true
              · subst c20
                have H1 : (some 16) = some r := by rw [if_pos rfl] at H; exact H
                clear H
                have H := H1
                clear H1
                obtain rfl := Option.some.inj H
                go_wp2
                go_ret
                exact ⟨by first | rfl | (simp [errW_none, errW_some] <;> rfl) | (simp [*, errW_none, errW_some] <;> rfl), by repeat (first | (with_reducible first | exact HB.out | apply below_alloc | apply pw_below_drewN | apply below_drew1) | exact HB.out)⟩
              · replace c20 := Bool.eq_false_iff.mpr c20
                subst c20
                have H1 : ((spec_l1In.f a0 19968 40959).bind fun t139 => (if t139 = true then (some 20) else (if t134 = 2 then (spec_RuneWide.j2 kj14 t134 true) else (spec_RuneWide.j2 kj14 t134 (t134 == 3))))) = some r := by rw [if_neg (show ¬ (false = true) by decide)] at H; exact H
                clear H
                have H := H1
                clear H1
                replace H := Option.bind_eq_some_iff.mp H
                obtain ⟨t139, A210, H⟩ := H
                replace H : (if t139 = true then (some 20) else (if t134 = 2 then (spec_RuneWide.j2 kj14 t134 true) else (spec_RuneWide.j2 kj14 t134 (t134 == 3)))) = some r := H
                have A21 := Aside0.mk A210
                clear A210
                by_cases c22 : t139 = true
                · subst c22
                  have H1 : (some 20) = some r := by rw [if_pos rfl] at H; exact H
                  clear H
                  have H := H1
                  clear H1
                  obtain rfl := Option.some.inj H
                  go_wp2_with (first | ((with_reducible refine gate_callee (f := 48) rfl ?_); refine goesL_ (some 38) rfl rfl Try.func48 (by kernel_rfl) rfl #[.int .i64 a0, .int .i64 19968, .int .i64 40959] rfl (by (try simp only [List.map_toArray, List.map_cons, List.map_nil]); first | done | rfl | (simp only [List.length_drop, List.length_take]; rfl)) ?_; (with_reducible refine (spec_l1In.calls a0 19968 40959 true _ A21.out).mono ?_); rintro e w' ⟨rfl, ⟨nd, rfl⟩⟩; refine ⟨_, rfl, ?_⟩))
                  go_ret
                  exact ⟨by first | rfl | (simp [errW_none, errW_some] <;> rfl) | (simp [*, errW_none, errW_some] <;> rfl), by repeat (first | (with_reducible first | exact HB.out | apply below_alloc | apply pw_below_drewN | apply below_drew1) | exact HB.out)⟩
                · replace c22 := Bool.eq_false_iff.mpr c22
                  subst c22
                  have H1 : (if t134 = 2 then (spec_RuneWide.j2 kj14 t134 true) else (spec_RuneWide.j2 kj14 t134 (t134 == 3))) = some r := by rw [if_neg (show ¬ (false = true) by decide)] at H; exact H
                  clear H
                  have H := H1
                  clear H1
                  have HC23 := Aside0.mk H
                  clear H
                  go_upto_region 10 with (first | ((with_reducible refine gate_callee (f := 48) rfl ?_); refine goesL_ (some 38) rfl rfl Try.func48 (by kernel_rfl) rfl #[.int .i64 a0, .int .i64 19968, .int .i64 40959] rfl (by (try simp only [List.map_toArray, List.map_cons, List.map_nil]); first | done | rfl | (simp only [List.length_drop, List.length_take]; rfl)) ?_; (with_reducible refine (spec_l1In.calls a0 19968 40959 false _ A21.out).mono ?_); rintro e w' ⟨rfl, ⟨nd, rfl⟩⟩; refine ⟨_, rfl, ?_⟩))
                  (try simp only [Act.put, List.setIfInBounds_toArray, List.set_cons_zero, List.set_cons_succ])
                  go_cut [39] (fun v39 wc => ∃ (kq : Nat) (x39_22 : Bool), v39 = .bool x39_22 ∧ Aside0 (spec_RuneWide.j2 kq t134 x39_22 = some r) ∧ Aside0 (kq ≤ kj14) ∧ Aside0 (Below w.heap.size w wc))
                  case first =>
                    have H := HC23.out
                    clear HC23
                    by_cases c24 : t134 = 2
                    · rw [if_pos c24] at H
                      have c24b0 : (t134 == 2) = true := beq_iff_eq.mpr c24
                      have c24b1 : (t134 != 2) = false := bne_eq_false_iff_eq.mpr c24
                      clear c24
                      (first | rw [c24b0] | (simp only [i64_w, i32_w]; rw [c24b0]) | skip)
                      have H' := Aside0.mk H
                      clear H
                      go_wp2
                      go_meet
                      case rel => exact ⟨_, (true), (by first | rfl | (simp; done) | (simp [*]; done)), H', ⟨by have := HJ2.out; have := HJ14.out; first | omega | exact Nat.le_refl _⟩, ⟨by repeat (first | (with_reducible first | exact HB.out | apply below_alloc | apply pw_below_drewN | apply below_drew1) | exact HB.out)⟩⟩
                    · rw [if_neg c24] at H
                      have c24b0 : (t134 == 2) = false := beq_eq_false_iff_ne.mpr c24
                      have c24b1 : (t134 != 2) = true := bne_iff_ne.mpr c24
                      (first | rw [c24b0] | (simp only [i64_w, i32_w]; rw [c24b0]) | skip)
                      have H' := Aside0.mk H
                      clear H
                      go_wp2
                      go_meet
                      case rel => exact ⟨_, ((t134 == 3)), (by first | rfl | (simp; done) | (simp [*]; done)), H', ⟨by have := HJ2.out; have := HJ14.out; first | omega | exact Nat.le_refl _⟩, ⟨by repeat (first | (with_reducible first | exact HB.out | apply below_alloc | apply pw_below_drewN | apply below_drew1) | exact HB.out)⟩⟩
                  case rest =>
                    clear HC23
                    try clear c1
                    try clear c2
                    try clear p2
                    try clear c4
                    try clear c5
                    try clear c5b0
                    try clear c5b1
                    try clear c6
                    try clear c6b0
                    try clear c6b1
                    try clear c7
                    try clear c7b0
                    try clear c8
                    try clear c8b0
                    try clear c8b1
                    try clear c9
                    try clear c11
                    try clear c12
                    try clear c13
                    try clear c19
                    try clear c19b0
                    try clear c19b1
                    try clear c20
                    try clear c22
                    try clear c24
                    try clear c24b0
                    try clear c24b1
                    try clear p2
                    obtain ⟨kq, x39_22, rfl, HA, HJ22, HB⟩ := hcut
                    cases kq with
                    | zero => exact absurd HA.out (by simp [spec_RuneWide.j2])
                    | succ kj22 =>
                      have H := HA.out
                      clear HA
                      simp only [spec_RuneWide.j2] at H
                      by_cases c25 : x39_22 = true
                      · subst c25
                        have H1 : (some 12) = some r := by rw [if_pos rfl] at H; exact H
                        clear H
                        have H := H1
                        clear H1
                        obtain rfl := Option.some.inj H
                        go_wp2
                        go_ret
                        exact ⟨by first | rfl | (simp [errW_none, errW_some] <;> rfl) | (simp [*, errW_none, errW_some] <;> rfl), by repeat (first | (with_reducible first | exact HB.out | apply below_alloc | apply pw_below_drewN | apply below_drew1) | exact HB.out)⟩
                      · replace c25 := Bool.eq_false_iff.mpr c25
                        subst c25
                        have H1 : (if t134 = 11 then (some 40) else (if t134 = 12 then (some 6) else (if t134 = 8 then (some 6) else (some 10)))) = some r := by rw [if_neg (show ¬ (false = true) by decide)] at H; exact H
                        clear H
                        have H := H1
                        clear H1
                        by_cases c26 : t134 = 11
                        · rw [if_pos c26] at H
                          have c26b0 : (t134 == 11) = true := beq_iff_eq.mpr c26
                          have c26b1 : (t134 != 11) = false := bne_eq_false_iff_eq.mpr c26
                          clear c26
                          obtain rfl := Option.some.inj H
                          go_wp2
                          go_ret
                          exact ⟨by first | rfl | (simp [errW_none, errW_some] <;> rfl) | (simp [*, errW_none, errW_some] <;> rfl), by repeat (first | (with_reducible first | exact HB.out | apply below_alloc | apply pw_below_drewN | apply below_drew1) | exact HB.out)⟩
                        · rw [if_neg c26] at H
                          have c26b0 : (t134 == 11) = false := beq_eq_false_iff_ne.mpr c26
                          have c26b1 : (t134 != 11) = true := bne_iff_ne.mpr c26
                          by_cases c27 : t134 = 12
                          · rw [if_pos c27] at H
                            have c27b0 : (t134 == 12) = true := beq_iff_eq.mpr c27
                            have c27b1 : (t134 != 12) = false := bne_eq_false_iff_eq.mpr c27
                            clear c27
                            obtain rfl := Option.some.inj H
                            go_wp2
                            go_ret
                            exact ⟨by first | rfl | (simp [errW_none, errW_some] <;> rfl) | (simp [*, errW_none, errW_some] <;> rfl), by repeat (first | (with_reducible first | exact HB.out | apply below_alloc | apply pw_below_drewN | apply below_drew1) | exact HB.out)⟩
                          · rw [if_neg c27] at H
                            have c27b0 : (t134 == 12) = false := beq_eq_false_iff_ne.mpr c27
                            have c27b1 : (t134 != 12) = true := bne_iff_ne.mpr c27
                            by_cases c28 : t134 = 8
                            · rw [if_pos c28] at H
                              have c28b0 : (t134 == 8) = true := beq_iff_eq.mpr c28
                              have c28b1 : (t134 != 8) = false := bne_eq_false_iff_eq.mpr c28
                              clear c28
                              obtain rfl := Option.some.inj H
                              go_wp2
                              go_ret
                              exact ⟨by first | rfl | (simp [errW_none, errW_some] <;> rfl) | (simp [*, errW_none, errW_some] <;> rfl), by repeat (first | (with_reducible first | exact HB.out | apply below_alloc | apply pw_below_drewN | apply below_drew1) | exact HB.out)⟩
                            · rw [if_neg c28] at H
                              have c28b0 : (t134 == 8) = false := beq_eq_false_iff_ne.mpr c28
                              have c28b1 : (t134 != 8) = true := bne_iff_ne.mpr c28
                              obtain rfl := Option.some.inj H
                              go_wp2
                              go_ret
                              exact ⟨by first | rfl | (simp [errW_none, errW_some] <;> rfl) | (simp [*, errW_none, errW_some] <;> rfl), by repeat (first | (with_reducible first | exact HB.out | apply below_alloc | apply pw_below_drewN | apply below_drew1) | exact HB.out)⟩

/-! ### spec_l7Empty: function 111 -/
def spec_l7Empty.f (k : Nat) (a0 : Int) : Option (Bool) := if a0 = 32 then (some true) else (if a0 = 10 then (some true) else ((spec_RuneWide.f k a0).bind fun t140 => (some (t140 == 0))))
theorem spec_l7Empty.mono : ∀ a0 k, LeO (spec_l7Empty.f k a0) (spec_l7Empty.f (k + 1) a0) := by
  intro a0 k
  unfold spec_l7Empty.f
  repeat' first
      | (with_reducible exact spec_RuneWide.mono _ _)
      | (with_reducible exact LeO.refl _)
      | (with_reducible exact LeO.none _)
      | (with_reducible refine LeO.ite ?_ ?_)
      | (with_reducible refine LeO.bind ?_ (fun _ => ?_))
      | exact spec_RuneWide.mono _ _
      | exact LeO.none _
      | refine LeO.ite ?_ ?_
      | refine LeO.bind ?_ (fun _ => ?_)
set_option maxHeartbeats 8000000 in
set_option maxRecDepth 100000 in
theorem spec_l7Empty.calls (k : Nat) (a0 : Int) (r : Bool) (w : World) (h : spec_l7Empty.f k a0 = some r) :
    Calls Try.prog 111 #[.int .i64 a0] w fun e w' => e = .returned (.bool r) ∧ Below w.heap.size w w' := by
  have HB := Aside0.mk (Below.refl w.heap.size w)
  have H : (if a0 = 32 then (some true) else (if a0 = 10 then (some true) else ((spec_RuneWide.f k a0).bind fun t140 => (some (t140 == 0))))) = some r := h
  clear h
  by_cases c2 : a0 = 32
  · rw [if_pos c2] at H
    have c2b0 : (a0 == 32) = true := beq_iff_eq.mpr c2
    have c2b1 : (a0 != 32) = false := bne_eq_false_iff_eq.mpr c2
    clear c2
    obtain rfl := Option.some.inj H
    go_enter Try.func111, Try.ntmps111
    go_wp2
    go_ret
    exact ⟨by first | rfl | (simp [errW_none, errW_some] <;> rfl) | (simp [*, errW_none, errW_some] <;> rfl), by repeat (first | (with_reducible first | exact HB.out | apply below_alloc | apply pw_below_drewN | apply below_drew1) | exact HB.out)⟩
  · rw [if_neg c2] at H
    have c2b0 : (a0 == 32) = false := beq_eq_false_iff_ne.mpr c2
    have c2b1 : (a0 != 32) = true := bne_iff_ne.mpr c2
    by_cases c3 : a0 = 10
    · rw [if_pos c3] at H
      have c3b0 : (a0 == 10) = true := beq_iff_eq.mpr c3
      have c3b1 : (a0 != 10) = false := bne_eq_false_iff_eq.mpr c3
      clear c3
      obtain rfl := Option.some.inj H
      go_enter Try.func111, Try.ntmps111
      go_wp2
      go_ret
      exact ⟨by first | rfl | (simp [errW_none, errW_some] <;> rfl) | (simp [*, errW_none, errW_some] <;> rfl), by repeat (first | (with_reducible first | exact HB.out | apply below_alloc | apply pw_below_drewN | apply below_drew1) | exact HB.out)⟩
    · rw [if_neg c3] at H
      have c3b0 : (a0 == 10) = false := beq_eq_false_iff_ne.mpr c3
      have c3b1 : (a0 != 10) = true := bne_iff_ne.mpr c3
      replace H := Option.bind_eq_some_iff.mp H
      obtain ⟨t140, A40, H⟩ := H
      replace H : (some (t140 == 0)) = some r := H
      have A4 := Aside0.mk A40
      clear A40
      obtain rfl := Option.some.inj H
      go_enter Try.func111, Try.ntmps111
      go_wp2_with (first | (go_at_call 124; (with_reducible refine (spec_RuneWide.calls k a0 t140 _ A4.out).mono ?_); rintro e w5 ⟨rfl, hb⟩; have n0_ := Aside0.mk (below_step (by repeat (first | (with_reducible first | exact HB.out | apply below_alloc | apply pw_below_drewN | apply below_drew1) | exact HB.out)) hb); clear HB; have HB := n0_; clear n0_; (try clear hb); (try clear hb2); (try clear hk); (try clear hi)))
      go_ret
      exact ⟨by first | rfl | (simp [errW_none, errW_some] <;> rfl) | (simp [*, errW_none, errW_some] <;> rfl), by repeat (first | (with_reducible first | exact HB.out | apply below_alloc | apply pw_below_drewN | apply below_drew1) | exact HB.out)⟩

/-! ### spec_l7Wide: function 84 -/
mutual
def spec_l7Wide.j1 : Nat → List Int → Int → Int → Option (Int)
  | 0, _, _, _ => none
  | k + 1, x1, x2, x3 => spec_l7Wide.l1 k x1 x3 0 x2
def spec_l7Wide.l1 : Nat → List Int → Int → Int → Int → Option (Int)
  | 0, _, _, _, _ => none
  | k + 1, x1, x3, x9, x10 => if x10 < x3 then (if 0 ≤ x10 then (if x10 < (x1.length : Int) then (spec_l7Wide.l1 k x1 x3 (wrap64 (x9 + (rd x1 x10))) (wrap64 (x10 + 1))) else (none)) else (none)) else (some x9)
def spec_l7Wide.l0 : Nat → List Int → List Int → Int → Int → Option (Int)
  | 0, _, _, _, _ => none
  | k + 1, x0, x1, x2, x3 => if x3 > x2 then (if 0 ≤ (wrap64 (x3 - 1)) then (if (wrap64 (x3 - 1)) < (x0.length : Int) then ((spec_l7Empty.f k (rd x0 (wrap64 (x3 - 1)))).bind fun t142 => (if t142 = true then (spec_l7Wide.l0 k x0 x1 x2 (wrap64 (x3 - 1))) else (spec_l7Wide.j1 k x1 x2 x3))) else (none)) else (none)) else (spec_l7Wide.j1 k x1 x2 x3)
end
def spec_l7Wide.f (k : Nat) (l0 : List Int) (l1 : List Int) (a2 : Int) (a3 : Int) : Option (Int) := spec_l7Wide.l0 k l0 l1 a2 a3
theorem spec_l7Wide.mono_l : ∀ k, (∀ y0 y1 y2, LeO (spec_l7Wide.j1 k y0 y1 y2) (spec_l7Wide.j1 (k + 1) y0 y1 y2)) ∧ (∀ y0 y1 y2 y3, LeO (spec_l7Wide.l1 k y0 y1 y2 y3) (spec_l7Wide.l1 (k + 1) y0 y1 y2 y3)) ∧ (∀ y0 y1 y2 y3, LeO (spec_l7Wide.l0 k y0 y1 y2 y3) (spec_l7Wide.l0 (k + 1) y0 y1 y2 y3))
  | 0 => ⟨fun _ _ _ r h => by simp [spec_l7Wide.j1] at h, fun _ _ _ _ r h => by simp [spec_l7Wide.l1] at h, fun _ _ _ _ r h => by simp [spec_l7Wide.l0] at h⟩
  | k + 1 => by
    obtain ⟨ih0, ih1, ih2⟩ := spec_l7Wide.mono_l k
    refine ⟨?_, ?_, ?_⟩
    · intro y0 y1 y2
      unfold spec_l7Wide.j1
      repeat' first
      | (with_reducible exact ih0 _ _ _)
      | (with_reducible exact ih1 _ _ _ _)
      | (with_reducible exact ih2 _ _ _ _)
      | (with_reducible exact spec_l7Empty.mono _ _)
      | (with_reducible exact LeO.refl _)
      | (with_reducible exact LeO.none _)
      | (with_reducible refine LeO.ite ?_ ?_)
      | (with_reducible refine LeO.bind ?_ (fun _ => ?_))
      | exact ih0 _ _ _
      | exact ih1 _ _ _ _
      | exact ih2 _ _ _ _
      | exact spec_l7Empty.mono _ _
      | exact LeO.none _
      | refine LeO.ite ?_ ?_
      | refine LeO.bind ?_ (fun _ => ?_)
    · intro y0 y1 y2 y3
      unfold spec_l7Wide.l1
      repeat' first
      | (with_reducible exact ih0 _ _ _)
      | (with_reducible exact ih1 _ _ _ _)
      | (with_reducible exact ih2 _ _ _ _)
      | (with_reducible exact spec_l7Empty.mono _ _)
      | (with_reducible exact LeO.refl _)
      | (with_reducible exact LeO.none _)
      | (with_reducible refine LeO.ite ?_ ?_)
      | (with_reducible refine LeO.bind ?_ (fun _ => ?_))
      | exact ih0 _ _ _
      | exact ih1 _ _ _ _
      | exact ih2 _ _ _ _
      | exact spec_l7Empty.mono _ _
      | exact LeO.none _
      | refine LeO.ite ?_ ?_
      | refine LeO.bind ?_ (fun _ => ?_)
    · intro y0 y1 y2 y3
      unfold spec_l7Wide.l0
      repeat' first
      | (with_reducible exact ih0 _ _ _)
      | (with_reducible exact ih1 _ _ _ _)
      | (with_reducible exact ih2 _ _ _ _)
      | (with_reducible exact spec_l7Empty.mono _ _)
      | (with_reducible exact LeO.refl _)
      | (with_reducible exact LeO.none _)
      | (with_reducible refine LeO.ite ?_ ?_)
      | (with_reducible refine LeO.bind ?_ (fun _ => ?_))
      | exact ih0 _ _ _
      | exact ih1 _ _ _ _
      | exact ih2 _ _ _ _
      | exact spec_l7Empty.mono _ _
      | exact LeO.none _
      | refine LeO.ite ?_ ?_
      | refine LeO.bind ?_ (fun _ => ?_)
theorem spec_l7Wide.mono : ∀ a0 a1 a2 a3 k, LeO (spec_l7Wide.f k a0 a1 a2 a3) (spec_l7Wide.f (k + 1) a0 a1 a2 a3) := by
  intro a0 a1 a2 a3 k
  obtain ⟨ih0, ih1, ih2⟩ := spec_l7Wide.mono_l k
  unfold spec_l7Wide.f
  repeat' first
      | (with_reducible exact ih0 _ _ _)
      | (with_reducible exact ih1 _ _ _ _)
      | (with_reducible exact ih2 _ _ _ _)
      | (with_reducible exact spec_l7Empty.mono _ _)
      | (with_reducible exact LeO.refl _)
      | (with_reducible exact LeO.none _)
      | (with_reducible refine LeO.ite ?_ ?_)
      | (with_reducible refine LeO.bind ?_ (fun _ => ?_))
      | exact ih0 _ _ _
      | exact ih1 _ _ _ _
      | exact ih2 _ _ _ _
      | exact spec_l7Empty.mono _ _
      | exact LeO.none _
      | refine LeO.ite ?_ ?_
      | refine LeO.bind ?_ (fun _ => ?_)
set_option maxHeartbeats 8000000 in
set_option maxRecDepth 100000 in
theorem spec_l7Wide.calls (k : Nat) (A0 : Option Addr) (c0 : Nat) (l0 : List Int) (A1 : Option Addr) (c1 : Nat) (l1 : List Int) (a2 : Int) (a3 : Int) (r : Int) (w : World) (hr0 : Kd.C (Kd.int .i64) w A0 l0.length l0) (hc0 : l0.length ≤ c0) (hr1 : Kd.C (Kd.int .i64) w A1 l1.length l1) (hc1 : l1.length ≤ c1) (h : spec_l7Wide.f k l0 l1 a2 a3 = some r) :
    Calls Try.prog 84 #[.slice A0 l0.length c0, .slice A1 l1.length c1, .int .i64 a2, .int .i64 a3] w fun e w' => e = .returned (.int .i64 r) ∧ Below w.heap.size w w' := by
  have HR0 := Aside0.mk hr0
  have HC0 := Aside0.mk hc0
  clear hr0 hc0
  have HR1 := Aside0.mk hr1
  have HC1 := Aside0.mk hc1
  clear hr1 hc1
  have HB := Aside0.mk (Below.refl w.heap.size w)
  have H : (spec_l7Wide.l0 k l0 l1 a2 a3) = some r := h
  clear h
  have HC5 := Aside0.mk H
  clear H
  go_enter Try.func84, Try.ntmps84
  go_upto_block 0 with (fail)
  go_cut [3] (fun v3 wc => ∃ (kq : Nat) (x3_4 : Int), v3 = .int .i64 x3_4 ∧ Aside0 (spec_l7Wide.j1 kq l1 a2 x3_4 = some r) ∧ Aside0 (kq ≤ k) ∧ Aside0 (Below w.heap.size w wc))
  case first =>
    have H := HC5.out
    clear HC5
    have H' := Aside0.mk H
    clear H
    go_wp2
    go_loopg [3] k (fun kq v3 w' => ∃ (x3_1 : Int), v3 = .int .i64 x3_1 ∧ Aside0 (spec_l7Wide.l0 kq l0 l1 a2 x3_1 = some r) ∧ Aside0 (kq ≤ k) ∧ Aside0 (Below w.heap.size w w'))
    case atStart => exact ⟨(a3), (by first | rfl | (simp; done) | (simp [*]; done)), H', ⟨Nat.le_refl _⟩, ⟨by repeat (first | (with_reducible first | exact HB.out | apply below_alloc | apply pw_below_drewN | apply below_drew1) | exact HB.out)⟩⟩
    case round =>
      clear H'
      try clear c1
      try clear p2
      obtain ⟨x3_1, rfl, HA, HK1, HB⟩ := hrel
      cases gk with
      | zero => exact absurd HA.out (by simp [spec_l7Wide.l0])
      | succ k1 =>
        have H := HA.out
        clear HA
        simp only [spec_l7Wide.l0] at H
        by_cases c6 : x3_1 > a2
        · rw [if_pos c6] at H
          have c6b0 : decide (a2 < x3_1) = true := decide_eq_true c6
          clear c6
          (first | rw [c6b0] | (simp only [i64_w, i32_w]; rw [c6b0]) | skip)
          obtain ⟨ji7, hji7⟩ : ∃ j_ : Int, (wrap64 (x3_1 - 1)) = j_ := ⟨_, rfl⟩
          replace H : (if 0 ≤ (ji7) then (if (ji7) < (l0.length : Int) then ((spec_l7Empty.f k1 (rd l0 (ji7))).bind fun t142 => (if t142 = true then (spec_l7Wide.l0 k1 l0 l1 a2 ji7) else (spec_l7Wide.j1 k1 l1 a2 x3_1))) else (none)) else (none)) = some r := by first | (rw [hji7] at H; exact H) | (simp only [hji7] at H ⊢; exact H)
          have hji7w : (IntKind.i64.wrap (x3_1 - 1)) = ji7 := (i64_w _).trans hji7
          by_cases c8 : 0 ≤ (ji7)
          · rw [if_pos c8] at H
            have c8b0 : decide (0 ≤ (ji7)) = true := decide_eq_true c8
            clear c8
            by_cases c9 : (ji7) < (l0.length : Int)
            · rw [if_pos c9] at H
              have c9b0 : decide ((ji7) < (l0.length : Int)) = true := decide_eq_true c9
              clear c9
              replace H := Option.bind_eq_some_iff.mp H
              obtain ⟨t142, A100, H⟩ := H
              replace H : (if t142 = true then (spec_l7Wide.l0 k1 l0 l1 a2 ji7) else (spec_l7Wide.j1 k1 l1 a2 x3_1)) = some r := H
              have A10 := Aside0.mk A100
              clear A100
              by_cases c11 : t142 = true
              · subst c11
                have H1 : (spec_l7Wide.l0 k1 l0 l1 a2 ji7) = some r := by rw [if_pos rfl] at H; exact H
                clear H
                have H := H1
                clear H1
                have H' := Aside0.mk H
                clear H
                have p141 : 0 ≤ ((ji7) : Int) := of_decide_eq_true (by first | (with_reducible assumption) | assumption)
                have q141 : (ji7) < (l0.length : Int) := of_decide_eq_true (by first | (with_reducible assumption) | assumption)
                obtain ⟨ad141, e141, hx141_0⟩ := Kd.at_int HR0.out (ji7) p141 q141
                cases e141
                replace hx141_0 := (HB.out.cell (World.block_lt_of_cell? w _ hx141_0)).trans hx141_0
                replace p141 := eq_true p141
                replace q141 := eq_true q141
                go_wp2_with (first | (go_at_call 111; (with_reducible refine (spec_l7Empty.calls k1 (rd l0 (ji7)) true _ A10.out).mono ?_); rintro e w12 ⟨rfl, hb⟩; have n0_ := Aside0.mk (below_step (by repeat (first | (with_reducible first | exact HB.out | apply below_alloc | apply pw_below_drewN | apply below_drew1) | exact HB.out)) hb); clear HB; have HB := n0_; clear n0_; (try clear hb); (try clear hb2); (try clear hk); (try clear hi)))
                go_roundg k1
                case measure => have := HK1.out; omega
                case rel => exact ⟨(ji7), (by first | rfl | (simp; done) | (simp only [← hji7] <;> (first | rfl | simp)) | (simp [*]; done)), (by first | exact H' | (simp only [hji7]; exact H') | (simp only [hji7]; exact H')), ⟨by have := HK1.out; omega⟩, ⟨by repeat (first | (with_reducible first | exact HB.out | apply below_alloc | apply pw_below_drewN | apply below_drew1) | exact HB.out)⟩⟩
              · replace c11 := Bool.eq_false_iff.mpr c11
                subst c11
                have H1 : (spec_l7Wide.j1 k1 l1 a2 x3_1) = some r := by rw [if_neg (show ¬ (false = true) by decide)] at H; exact H
                clear H
                have H := H1
                clear H1
                have H' := Aside0.mk H
                clear H
                have p141 : 0 ≤ ((ji7) : Int) := of_decide_eq_true (by first | (with_reducible assumption) | assumption)
                have q141 : (ji7) < (l0.length : Int) := of_decide_eq_true (by first | (with_reducible assumption) | assumption)
                obtain ⟨ad141, e141, hx141_0⟩ := Kd.at_int HR0.out (ji7) p141 q141
                cases e141
                replace hx141_0 := (HB.out.cell (World.block_lt_of_cell? w _ hx141_0)).trans hx141_0
                replace p141 := eq_true p141
                replace q141 := eq_true q141
                go_wp2_with (first | (go_at_call 111; (with_reducible refine (spec_l7Empty.calls k1 (rd l0 (ji7)) false _ A10.out).mono ?_); rintro e w13 ⟨rfl, hb⟩; have n0_ := Aside0.mk (below_step (by repeat (first | (with_reducible first | exact HB.out | apply below_alloc | apply pw_below_drewN | apply below_drew1) | exact HB.out)) hb); clear HB; have HB := n0_; clear n0_; (try clear hb); (try clear hb2); (try clear hk); (try clear hi)))
                go_meet
                case rel => exact ⟨_, (x3_1), (by first | rfl | (simp; done) | (simp [*]; done)), (by first | exact H' | (simp only [hji7]; exact H') | (simp only [hji7]; exact H')), ⟨by have := HK1.out; first | omega | exact Nat.le_refl _⟩, ⟨by repeat (first | (with_reducible first | exact HB.out | apply below_alloc | apply pw_below_drewN | apply below_drew1) | exact HB.out)⟩⟩
            · rw [if_neg c9] at H
              exact absurd H (by simp)
          · rw [if_neg c8] at H
            exact absurd H (by simp)
        · rw [if_neg c6] at H
          have c6b0 : decide (a2 < x3_1) = false := decide_eq_false c6
          clear c6
          (first | rw [c6b0] | (simp only [i64_w, i32_w]; rw [c6b0]) | skip)
          have H' := Aside0.mk H
          clear H
          go_wp2
          go_meet
          case rel => exact ⟨_, (x3_1), (by first | rfl | (simp; done) | (simp [*]; done)), (by first | exact H' | (simp only [hji7]; exact H') | (simp only [hji7]; exact H')), ⟨by have := HK1.out; first | omega | exact Nat.le_refl _⟩, ⟨by repeat (first | (with_reducible first | exact HB.out | apply below_alloc | apply pw_below_drewN | apply below_drew1) | exact HB.out)⟩⟩
  case rest =>
    clear HC5
    try clear c1
    try clear p1
    try clear q1
    try clear hx1
    try clear p2
    try clear c6
    try clear c6b0
    try clear p6
    try clear c8
    try clear c8b0
    try clear c9
    try clear c9b0
    try clear c11
    try clear hx141_0
    try clear p141
    try clear p2
    try clear q141
    obtain ⟨kq, x3_4, rfl, HA, HJ4, HB⟩ := hcut
    cases kq with
    | zero => exact absurd HA.out (by simp [spec_l7Wide.j1])
    | succ kj4 =>
      have H := HA.out
      clear HA
      simp only [spec_l7Wide.j1] at H
      have H' := Aside0.mk H
      clear H
      go_wp2
      go_loopg [9, 10] kj4 (fun kq v9 v10 w' => ∃ (x9_2 : Int) (x10_2 : Int), v9 = .int .i64 x9_2 ∧ v10 = .int .i64 x10_2 ∧ Aside0 (spec_l7Wide.l1 kq l1 x3_4 x9_2 x10_2 = some r) ∧ Aside0 (kq ≤ kj4) ∧ Aside0 (Below w.heap.size w w'))
      case atStart => exact ⟨(0), (a2), (by first | rfl | (simp; done) | (simp [*]; done)), (by first | rfl | (simp; done) | (simp [*]; done)), H', ⟨Nat.le_refl _⟩, ⟨by repeat (first | (with_reducible first | exact HB.out | apply below_alloc | apply pw_below_drewN | apply below_drew1) | exact HB.out)⟩⟩
      case round =>
        clear H'
        try clear c1
        try clear p1
        try clear q1
        try clear hx1
        try clear p2
        try clear c6
        try clear c6b0
        try clear p6
        try clear c8
        try clear c8b0
        try clear c9
        try clear c9b0
        try clear c11
        try clear hx141_0
        try clear p1
        try clear p141
        try clear p2
        try clear p6
        try clear q1
        try clear q141
        obtain ⟨x9_2, x10_2, rfl, rfl, HA, HK2, HB⟩ := hrel
        cases gk with
        | zero => exact absurd HA.out (by simp [spec_l7Wide.l1])
        | succ k2 =>
          have H := HA.out
          clear HA
          simp only [spec_l7Wide.l1] at H
          by_cases c14 : x10_2 < x3_4
          · rw [if_pos c14] at H
            have c14b0 : decide (x10_2 < x3_4) = true := decide_eq_true c14
            clear c14
            by_cases c15 : 0 ≤ x10_2
            · rw [if_pos c15] at H
              have c15b0 : decide (0 ≤ x10_2) = true := decide_eq_true c15
              clear c15
              by_cases c16 : x10_2 < (l1.length : Int)
              · rw [if_pos c16] at H
                have c16b0 : decide (x10_2 < (l1.length : Int)) = true := decide_eq_true c16
                clear c16
                have H' := Aside0.mk H
                clear H
                have p143 : 0 ≤ (x10_2 : Int) := of_decide_eq_true (by first | (with_reducible assumption) | assumption)
                have q143 : x10_2 < (l1.length : Int) := of_decide_eq_true (by first | (with_reducible assumption) | assumption)
                obtain ⟨ad143, e143, hx143_0⟩ := Kd.at_int HR1.out x10_2 p143 q143
                cases e143
                replace hx143_0 := (HB.out.cell (World.block_lt_of_cell? w _ hx143_0)).trans hx143_0
                replace p143 := eq_true p143
                replace q143 := eq_true q143
                go_wp2
                go_roundg k2
                case measure => have := HJ4.out; have := HK2.out; omega
                case rel => exact ⟨(wrap64 (x9_2 + (rd l1 x10_2))), (wrap64 (x10_2 + 1)), (by first | rfl | (simp; done) | (simp [*]; done)), (by first | rfl | (simp; done) | (simp [*]; done)), (by first | exact H' | (simp only [hji7]; exact H') | (simp only [hji7]; exact H')), ⟨by have := HJ4.out; have := HK2.out; omega⟩, ⟨by repeat (first | (with_reducible first | exact HB.out | apply below_alloc | apply pw_below_drewN | apply below_drew1) | exact HB.out)⟩⟩
              · rw [if_neg c16] at H
                exact absurd H (by simp)
            · rw [if_neg c15] at H
              exact absurd H (by simp)
          · rw [if_neg c14] at H
            have c14b0 : decide (x10_2 < x3_4) = false := decide_eq_false c14
            clear c14
            obtain rfl := Option.some.inj H
            go_wp2
            go_ret
            exact ⟨by first | rfl | (simp [errW_none, errW_some] <;> rfl) | (simp [*, errW_none, errW_some] <;> rfl), by repeat (first | (with_reducible first | exact HB.out | apply below_alloc | apply pw_below_drewN | apply below_drew1) | exact HB.out)⟩

end Go.Proofs.Ytkapjhlcmicpnaa.PFnExactLineWide
