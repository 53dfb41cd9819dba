-- Written by a program of this session (wip/tools) out of the translation; its shape is that of the kit print.
import Derived.Test.YtpdkddhadgeheaaPFnExactRuneWidex0
import Derived.Test.YtpdkddhadgeheaaPFnExactRuneWidex1
namespace Go.Proofs.Ytpdkddhadgeheaa.PFnExactRuneWide
open Go.RowKit Go.Proofs.YtpdkddhadgeheaaW.PrintWords Go.Proofs.YtpdkddhadgeheaaW.PrintLast Go.Proofs.YtpdkddhadgeheaaW.PrintMore
attribute [local go_sem] max2_int min2_int max_two min_two max_three min_three max_four min_four   -- for this text's walks alone
set_option linter.unusedVariables false
set_option linter.unusedSimpArgs false

/-! ### spec_RuneWide: function 34 -/
mutual
def spec_RuneWide.j0 : Nat → Int → Int → Bool → Option (Int)
  | 0, _, _, _ => none
  | k + 1, x0, x3, x6 => if x6 = true then (some 0) else ((spec_l1Has.f k (([105, 106, 108, 102, 116] : List Int)) x0).bind fun t121 => (if t121 = true then (some 6) else (if x0 = 109 then (spec_RuneWide.j1 k x0 x3 true) else (spec_RuneWide.j1 k x0 x3 (x0 == 119)))))
def spec_RuneWide.j1 : Nat → Int → Int → Bool → Option (Int)
  | 0, _, _, _ => none
  | k + 1, x0, x3, x29 => if x29 = true then (some 16) else ((spec_l1In.f x0 19968 40959).bind fun t122 => (if t122 = true then (some 20) else (if x3 = 2 then (spec_RuneWide.j2 k x3 true) else (spec_RuneWide.j2 k x3 (x3 == 3)))))
def spec_RuneWide.j2 : Nat → Int → Bool → Option (Int)
  | 0, _, _ => none
  | k + 1, x3, x39 => if x39 = true then (some 12) else (if x3 = 11 then (some 40) else (if x3 = 12 then (some 6) else (if x3 = 8 then (some 6) else (some 10))))
end
def spec_RuneWide.f (k : Nat) (a0 : Int) : Option (Int) := (spec_RuneBidi.f k a0).bind fun t117 => (if t117 = 9 then (spec_RuneWide.j0 k a0 t117 true) else (if t117 = 10 then (spec_RuneWide.j0 k a0 t117 true) else (if t117 ≥ 14 then (spec_RuneWide.j0 k a0 t117 true) else (if a0 = 10 then (spec_RuneWide.j0 k a0 t117 true) else (spec_RuneWide.j0 k a0 t117 (a0 == 13))))))
theorem spec_RuneWide.mono_l : ∀ k, (∀ y0 y1 y2, LeO (spec_RuneWide.j0 k y0 y1 y2) (spec_RuneWide.j0 (k + 1) y0 y1 y2)) ∧ (∀ y0 y1 y2, LeO (spec_RuneWide.j1 k y0 y1 y2) (spec_RuneWide.j1 (k + 1) y0 y1 y2)) ∧ (∀ y0 y1, LeO (spec_RuneWide.j2 k y0 y1) (spec_RuneWide.j2 (k + 1) y0 y1))
  | 0 => ⟨fun _ _ _ r h => by simp [spec_RuneWide.j0] at h, fun _ _ _ r h => by simp [spec_RuneWide.j1] at h, fun _ _ r h => by simp [spec_RuneWide.j2] at h⟩
  | k + 1 => by
    obtain ⟨ih0, ih1, ih2⟩ := spec_RuneWide.mono_l k
    refine ⟨?_, ?_, ?_⟩
    · intro y0 y1 y2
      unfold spec_RuneWide.j0
      repeat' first
      | (with_reducible exact ih0 _ _ _)
      | (with_reducible exact ih1 _ _ _)
      | (with_reducible exact ih2 _ _)
      | (with_reducible exact spec_RuneBidi.mono _ _)
      | (with_reducible exact spec_l1Has.mono _ _ _)
      | (with_reducible exact LeO.refl _)
      | (with_reducible exact LeO.none _)
      | (with_reducible refine LeO.ite ?_ ?_)
      | (with_reducible refine LeO.bind ?_ (fun _ => ?_))
      | exact ih0 _ _ _
      | exact ih1 _ _ _
      | exact ih2 _ _
      | exact spec_RuneBidi.mono _ _
      | exact spec_l1Has.mono _ _ _
      | exact LeO.none _
      | refine LeO.ite ?_ ?_
      | refine LeO.bind ?_ (fun _ => ?_)
    · intro y0 y1 y2
      unfold spec_RuneWide.j1
      repeat' first
      | (with_reducible exact ih0 _ _ _)
      | (with_reducible exact ih1 _ _ _)
      | (with_reducible exact ih2 _ _)
      | (with_reducible exact spec_RuneBidi.mono _ _)
      | (with_reducible exact spec_l1Has.mono _ _ _)
      | (with_reducible exact LeO.refl _)
      | (with_reducible exact LeO.none _)
      | (with_reducible refine LeO.ite ?_ ?_)
      | (with_reducible refine LeO.bind ?_ (fun _ => ?_))
      | exact ih0 _ _ _
      | exact ih1 _ _ _
      | exact ih2 _ _
      | exact spec_RuneBidi.mono _ _
      | exact spec_l1Has.mono _ _ _
      | exact LeO.none _
      | refine LeO.ite ?_ ?_
      | refine LeO.bind ?_ (fun _ => ?_)
    · intro y0 y1
      unfold spec_RuneWide.j2
      repeat' first
      | (with_reducible exact ih0 _ _ _)
      | (with_reducible exact ih1 _ _ _)
      | (with_reducible exact ih2 _ _)
      | (with_reducible exact spec_RuneBidi.mono _ _)
      | (with_reducible exact spec_l1Has.mono _ _ _)
      | (with_reducible exact LeO.refl _)
      | (with_reducible exact LeO.none _)
      | (with_reducible refine LeO.ite ?_ ?_)
      | (with_reducible refine LeO.bind ?_ (fun _ => ?_))
      | exact ih0 _ _ _
      | exact ih1 _ _ _
      | exact ih2 _ _
      | exact spec_RuneBidi.mono _ _
      | exact spec_l1Has.mono _ _ _
      | exact LeO.none _
      | refine LeO.ite ?_ ?_
      | refine LeO.bind ?_ (fun _ => ?_)
theorem spec_RuneWide.mono : ∀ a0 k, LeO (spec_RuneWide.f k a0) (spec_RuneWide.f (k + 1) a0) := by
  intro a0 k
  obtain ⟨ih0, ih1, ih2⟩ := spec_RuneWide.mono_l k
  unfold spec_RuneWide.f
  repeat' first
      | (with_reducible exact ih0 _ _ _)
      | (with_reducible exact ih1 _ _ _)
      | (with_reducible exact ih2 _ _)
      | (with_reducible exact spec_RuneBidi.mono _ _)
      | (with_reducible exact spec_l1Has.mono _ _ _)
      | (with_reducible exact LeO.refl _)
      | (with_reducible exact LeO.none _)
      | (with_reducible refine LeO.ite ?_ ?_)
      | (with_reducible refine LeO.bind ?_ (fun _ => ?_))
      | exact ih0 _ _ _
      | exact ih1 _ _ _
      | exact ih2 _ _
      | exact spec_RuneBidi.mono _ _
      | exact spec_l1Has.mono _ _ _
      | exact LeO.none _
      | refine LeO.ite ?_ ?_
      | refine LeO.bind ?_ (fun _ => ?_)
set_option maxHeartbeats 8000000 in
set_option maxRecDepth 100000 in
theorem spec_RuneWide.calls (k : Nat) (a0 : Int) (r : Int) (w : World) (h : spec_RuneWide.f k a0 = some r) :
    Calls Try.prog 34 #[.int .i64 a0] w fun e w' => e = .returned (.int .i64 r) ∧ Below w.heap.size w w' := by
  have HB := Aside0.mk (Below.refl w.heap.size w)
  have H : ((spec_RuneBidi.f k a0).bind fun t117 => (if t117 = 9 then (spec_RuneWide.j0 k a0 t117 true) else (if t117 = 10 then (spec_RuneWide.j0 k a0 t117 true) else (if t117 ≥ 14 then (spec_RuneWide.j0 k a0 t117 true) else (if a0 = 10 then (spec_RuneWide.j0 k a0 t117 true) else (spec_RuneWide.j0 k a0 t117 (a0 == 13))))))) = some r := h
  clear h
  replace H := Option.bind_eq_some_iff.mp H
  obtain ⟨t117, A20, H⟩ := H
  replace H : (if t117 = 9 then (spec_RuneWide.j0 k a0 t117 true) else (if t117 = 10 then (spec_RuneWide.j0 k a0 t117 true) else (if t117 ≥ 14 then (spec_RuneWide.j0 k a0 t117 true) else (if a0 = 10 then (spec_RuneWide.j0 k a0 t117 true) else (spec_RuneWide.j0 k a0 t117 (a0 == 13)))))) = some r := H
  have A2 := Aside0.mk A20
  clear A20
  have HC3 := Aside0.mk H
  clear H
  go_enter Try.func34, Try.ntmps34
  go_upto_region 2 with (first | ((with_reducible refine gate_callee (f := 76) rfl ?_); refine goesL_ (some 5) rfl rfl Try.func76 (by kernel_rfl) rfl #[.int .i64 a0] rfl (by (try simp only [List.map_toArray, List.map_cons, List.map_nil]); first | done | rfl | (simp only [List.length_drop, List.length_take]; rfl)) ?_; (with_reducible refine (spec_RuneBidi.calls k a0 t117 _ A2.out).mono ?_); rintro e w4 ⟨rfl, hb⟩; refine ⟨_, rfl, ?_⟩; have n0_ := Aside0.mk (below_step (by repeat (first | (with_reducible first | exact HB.out | apply below_alloc | apply pw_below_drewN | apply below_drew1) | exact HB.out)) hb); clear HB; have HB := n0_; clear n0_; (try clear hb); (try clear hb2); (try clear hk); (try clear hi)))
  (try simp only [Act.put, List.setIfInBounds_toArray, List.set_cons_zero, List.set_cons_succ])
  go_cut [6] (fun v6 wc => ∃ (kq : Nat) (x6_2 : Bool), v6 = .bool x6_2 ∧ Aside0 (spec_RuneWide.j0 kq a0 t117 x6_2 = some r) ∧ Aside0 (kq ≤ k) ∧ Aside0 (Below w.heap.size w wc))
  case first =>
    have H := HC3.out
    clear HC3
    by_cases c5 : t117 = 9
    · rw [if_pos c5] at H
      have c5b0 : (t117 == 9) = true := beq_iff_eq.mpr c5
      have c5b1 : (t117 != 9) = false := bne_eq_false_iff_eq.mpr c5
      clear c5
      (first | rw [c5b0] | (simp only [i64_w, i32_w]; rw [c5b0]) | skip)
      have H' := Aside0.mk H
      clear H
      go_wp2
      go_meet
      case rel => exact ⟨_, (true), (by first | rfl | (simp; done) | (simp [*]; done)), H', ⟨by first | omega | exact Nat.le_refl _⟩, ⟨by repeat (first | (with_reducible first | exact HB.out | apply below_alloc | apply pw_below_drewN | apply below_drew1) | exact HB.out)⟩⟩
    · rw [if_neg c5] at H
      have c5b0 : (t117 == 9) = false := beq_eq_false_iff_ne.mpr c5
      have c5b1 : (t117 != 9) = true := bne_iff_ne.mpr c5
      (first | rw [c5b0] | (simp only [i64_w, i32_w]; rw [c5b0]) | skip)
      by_cases c6 : t117 = 10
      · rw [if_pos c6] at H
        have c6b0 : (t117 == 10) = true := beq_iff_eq.mpr c6
        have c6b1 : (t117 != 10) = false := bne_eq_false_iff_eq.mpr c6
        clear c6
        have H' := Aside0.mk H
        clear H
        go_wp2
        go_meet
        case rel => exact ⟨_, (true), (by first | rfl | (simp; done) | (simp [*]; done)), H', ⟨by first | omega | exact Nat.le_refl _⟩, ⟨by repeat (first | (with_reducible first | exact HB.out | apply below_alloc | apply pw_below_drewN | apply below_drew1) | exact HB.out)⟩⟩
      · rw [if_neg c6] at H
        have c6b0 : (t117 == 10) = false := beq_eq_false_iff_ne.mpr c6
        have c6b1 : (t117 != 10) = true := bne_iff_ne.mpr c6
        by_cases c7 : t117 ≥ 14
        · rw [if_pos c7] at H
          have c7b0 : decide (14 ≤ t117) = true := decide_eq_true c7
          clear c7
          have H' := Aside0.mk H
          clear H
          go_wp2
          go_meet
          case rel => exact ⟨_, (true), (by first | rfl | (simp; done) | (simp [*]; done)), H', ⟨by first | omega | exact Nat.le_refl _⟩, ⟨by repeat (first | (with_reducible first | exact HB.out | apply below_alloc | apply pw_below_drewN | apply below_drew1) | exact HB.out)⟩⟩
        · rw [if_neg c7] at H
          have c7b0 : decide (14 ≤ t117) = false := decide_eq_false c7
          clear c7
          by_cases c8 : a0 = 10
          · rw [if_pos c8] at H
            have c8b0 : (a0 == 10) = true := beq_iff_eq.mpr c8
            have c8b1 : (a0 != 10) = false := bne_eq_false_iff_eq.mpr c8
            clear c8
            have H' := Aside0.mk H
            clear H
            go_wp2
            go_meet
            case rel => exact ⟨_, (true), (by first | rfl | (simp; done) | (simp [*]; done)), H', ⟨by first | omega | exact Nat.le_refl _⟩, ⟨by repeat (first | (with_reducible first | exact HB.out | apply below_alloc | apply pw_below_drewN | apply below_drew1) | exact HB.out)⟩⟩
          · rw [if_neg c8] at H
            have c8b0 : (a0 == 10) = false := beq_eq_false_iff_ne.mpr c8
            have c8b1 : (a0 != 10) = true := bne_iff_ne.mpr c8
            have H' := Aside0.mk H
            clear H
            go_wp2
            go_meet
            case rel => exact ⟨_, ((a0 == 13)), (by first | rfl | (simp; done) | (simp [*]; done)), H', ⟨by first | omega | exact Nat.le_refl _⟩, ⟨by repeat (first | (with_reducible first | exact HB.out | apply below_alloc | apply pw_below_drewN | apply below_drew1) | exact HB.out)⟩⟩
  case rest =>
    clear HC3
    try clear p2
    try clear c3
    try clear c5
    try clear c5b0
    try clear c5b1
    try clear c6
    try clear c6b0
    try clear c6b1
    try clear c7
    try clear c7b0
    try clear c8
    try clear c8b0
    try clear c8b1
    obtain ⟨kq, x6_2, rfl, HA, HJ2, HB⟩ := hcut
    cases kq with
    | zero => exact absurd HA.out (by simp [spec_RuneWide.j0])
    | succ kj2 =>
      have H := HA.out
      clear HA
      simp only [spec_RuneWide.j0] at H
      by_cases c9 : x6_2 = true
      · subst c9
        have H1 : (some 0) = some r := by rw [if_pos rfl] at H; exact H
        clear H
        have H := H1
        clear H1
        obtain rfl := Option.some.inj H
        go_wp2
        go_ret
        exact ⟨by first | rfl | (simp [errW_none, errW_some] <;> rfl) | (simp [*, errW_none, errW_some] <;> rfl), by repeat (first | (with_reducible first | exact HB.out | apply below_alloc | apply pw_below_drewN | apply below_drew1) | exact HB.out)⟩
      · replace c9 := Bool.eq_false_iff.mpr c9
        subst c9
        have H1 : ((spec_l1Has.f kj2 (([105, 106, 108, 102, 116] : List Int)) a0).bind fun t121 => (if t121 = true then (some 6) else (if a0 = 109 then (spec_RuneWide.j1 kj2 a0 t117 true) else (spec_RuneWide.j1 kj2 a0 t117 (a0 == 119))))) = some r := by rw [if_neg (show ¬ (false = true) by decide)] at H; exact H
        clear H
        have H := H1
        clear H1
        obtain ⟨y118, hy118⟩ : ∃ y_ : List Int, y_ = (([105, 106, 108, 102, 116] : List Int)) := ⟨_, rfl⟩
        replace H : ((spec_l1Has.f kj2 y118 a0).bind fun t121 => (if t121 = true then (some 6) else (if a0 = 109 then (spec_RuneWide.j1 kj2 a0 t117 true) else (spec_RuneWide.j1 kj2 a0 t117 (a0 == 119))))) = some r := by first | (rw [hy118]; with_reducible exact H) | (have H2_ := (Option.bind_some _ _).symm.trans H; rw [hy118]; with_reducible exact H2_) | (have H2_ := (Option.bind_some _ _).symm.trans H; with_reducible exact H2_) | with_reducible exact H | (rw [hy118]; exact H) | exact H
        have Ny118 := Aside0.mk hy118
        clear hy118
        replace H := Option.bind_eq_some_iff.mp H
        obtain ⟨t121, A100, H⟩ := H
        replace H : (if t121 = true then (some 6) else (if a0 = 109 then (spec_RuneWide.j1 kj2 a0 t117 true) else (spec_RuneWide.j1 kj2 a0 t117 (a0 == 119)))) = some r := H
        have A10 := Aside0.mk A100
        clear A100
        by_cases c11 : t121 = true
        · subst c11
          have H1 : (some 6) = some r := by rw [if_pos rfl] at H; exact H
          clear H
          have H := H1
          clear H1
          obtain rfl := Option.some.inj H
          go_wp2_with (first | ((with_reducible refine gate_dst (N := 26) rfl ?_); refine Kd.R_lit (Kd.int .i64) _ 3 ?hg (N := 26) ?hd (xs := ([105, 106, 108, 102, 116] : List Int)) (inner := [.int .i64 105, .int .i64 106, .int .i64 108, .int .i64 102, .int .i64 116]) (ok := fun _ => True) (okp := fun _ => True) ?hr ?hp (fun _ hk => hk) trivial (Below.refl _ _) (Nat.le_refl _) (by simp) ?_; (case hd => rfl); (case hg => rfl); (case hr => first | (go_simp; done) | (go_simp; rfl)); (case hp => exact (Reps.one (show Kd.M (Kd.int .i64) _ _ _ 105 [.int .i64 105] from rfl) (Reps.one (show Kd.M (Kd.int .i64) _ _ _ 106 [.int .i64 106] from rfl) (Reps.one (show Kd.M (Kd.int .i64) _ _ _ 108 [.int .i64 108] from rfl) (Reps.one (show Kd.M (Kd.int .i64) _ _ _ 102 [.int .i64 102] from rfl) (Reps.one (show Kd.M (Kd.int .i64) _ _ _ 116 [.int .i64 116] from rfl) (Reps.none _ _))))))); intro v119 w12 ho13 hb hg_ hnew_; clear hg_ hnew_; (first | rw [← Ny118.out] at ho13 | (simp only [Int.reduceToNat] at ho13; rw [← Ny118.out] at ho13)); have n0_ := Aside0.mk (Kd.R_lower ho13 (below_size (by repeat (first | (with_reducible first | exact HB.out | apply below_alloc | apply pw_below_drewN | apply below_drew1) | exact HB.out)))); have n1_ := Aside0.mk (below_step (by repeat (first | (with_reducible first | exact HB.out | apply below_alloc | apply pw_below_drewN | apply below_drew1) | exact HB.out)) hb); clear HB; have HO120 := n0_; have HB := n1_; clear n0_ n1_; clear hb ho13; obtain ⟨Ao14, co14, eo14⟩ := Kd.R_slice HO120.out; subst eo14) | ((with_reducible refine gate_callee (f := 77) rfl ?_); refine goesL_ (some 28) rfl rfl Try.func77 (by kernel_rfl) rfl #[.slice Ao14 y118.length co14, .int .i64 a0] rfl (by (try simp only [List.map_toArray, List.map_cons, List.map_nil]); first | done | rfl | (simp only [List.length_drop, List.length_take]; rfl)) ?_; (with_reducible refine (spec_l1Has.calls kj2 _ _ y118 a0 true _ ?side1 ?side2 A10.out).mono ?_); (case side1 => repeat (first | exact (Kd.R_reads' HO120.out).2.2 | (with_reducible refine Kd.C_alloc ?_ _) | (with_reducible refine Kd.C_drewN ?_ _) | (with_reducible refine Kd.C_drew ?_))); (case side2 => exact (Kd.R_reads' HO120.out).2.1); rintro e w' ⟨rfl, ⟨nd, rfl⟩⟩; refine ⟨_, rfl, ?_⟩))
          go_ret
          exact ⟨by first | rfl | (simp [errW_none, errW_some] <;> rfl) | (simp [*, errW_none, errW_some] <;> rfl), by repeat (first | (with_reducible first | exact HB.out | apply below_alloc | apply pw_below_drewN | apply below_drew1) | exact HB.out)⟩
        · replace c11 := Bool.eq_false_iff.mpr c11
          subst c11
          have H1 : (if a0 = 109 then (spec_RuneWide.j1 kj2 a0 t117 true) else (spec_RuneWide.j1 kj2 a0 t117 (a0 == 119))) = some r := by rw [if_neg (show ¬ (false = true) by decide)] at H; exact H
          clear H
          have H := H1
          clear H1
          have HC15 := Aside0.mk H
          clear H
          go_upto_region 6 with (first | ((with_reducible refine gate_dst (N := 26) rfl ?_); refine Kd.R_lit (Kd.int .i64) _ 3 ?hg (N := 26) ?hd (xs := ([105, 106, 108, 102, 116] : List Int)) (inner := [.int .i64 105, .int .i64 106, .int .i64 108, .int .i64 102, .int .i64 116]) (ok := fun _ => True) (okp := fun _ => True) ?hr ?hp (fun _ hk => hk) trivial (Below.refl _ _) (Nat.le_refl _) (by simp) ?_; (case hd => rfl); (case hg => rfl); (case hr => first | (go_simp; done) | (go_simp; rfl)); (case hp => exact (Reps.one (show Kd.M (Kd.int .i64) _ _ _ 105 [.int .i64 105] from rfl) (Reps.one (show Kd.M (Kd.int .i64) _ _ _ 106 [.int .i64 106] from rfl) (Reps.one (show Kd.M (Kd.int .i64) _ _ _ 108 [.int .i64 108] from rfl) (Reps.one (show Kd.M (Kd.int .i64) _ _ _ 102 [.int .i64 102] from rfl) (Reps.one (show Kd.M (Kd.int .i64) _ _ _ 116 [.int .i64 116] from rfl) (Reps.none _ _))))))); intro v119 w16 ho17 hb hg_ hnew_; clear hg_ hnew_; (first | rw [← Ny118.out] at ho17 | (simp only [Int.reduceToNat] at ho17; rw [← Ny118.out] at ho17)); have n0_ := Aside0.mk (Kd.R_lower ho17 (below_size (by repeat (first | (with_reducible first | exact HB.out | apply below_alloc | apply pw_below_drewN | apply below_drew1) | exact HB.out)))); have n1_ := Aside0.mk (below_step (by repeat (first | (with_reducible first | exact HB.out | apply below_alloc | apply pw_below_drewN | apply below_drew1) | exact HB.out)) hb); clear HB; have HO120 := n0_; have HB := n1_; clear n0_ n1_; clear hb ho17; obtain ⟨Ao18, co18, eo18⟩ := Kd.R_slice HO120.out; subst eo18) | ((with_reducible refine gate_callee (f := 77) rfl ?_); refine goesL_ (some 28) rfl rfl Try.func77 (by kernel_rfl) rfl #[.slice Ao18 y118.length co18, .int .i64 a0] rfl (by (try simp only [List.map_toArray, List.map_cons, List.map_nil]); first | done | rfl | (simp only [List.length_drop, List.length_take]; rfl)) ?_; (with_reducible refine (spec_l1Has.calls kj2 _ _ y118 a0 false _ ?side1 ?side2 A10.out).mono ?_); (case side1 => repeat (first | exact (Kd.R_reads' HO120.out).2.2 | (with_reducible refine Kd.C_alloc ?_ _) | (with_reducible refine Kd.C_drewN ?_ _) | (with_reducible refine Kd.C_drew ?_))); (case side2 => exact (Kd.R_reads' HO120.out).2.1); rintro e w' ⟨rfl, ⟨nd, rfl⟩⟩; refine ⟨_, rfl, ?_⟩))
          (try simp only [Act.put, List.setIfInBounds_toArray, List.set_cons_zero, List.set_cons_succ])
          go_cut [29] (fun v29 wc => ∃ (kq : Nat) (x29_14 : Bool), v29 = .bool x29_14 ∧ Aside0 (spec_RuneWide.j1 kq a0 t117 x29_14 = some r) ∧ Aside0 (kq ≤ kj2) ∧ Aside0 (Below w.heap.size w wc))
          case first =>
            have H := HC15.out
            clear HC15
            by_cases c19 : a0 = 109
            · rw [if_pos c19] at H
              have c19b0 : (a0 == 109) = true := beq_iff_eq.mpr c19
              have c19b1 : (a0 != 109) = false := bne_eq_false_iff_eq.mpr c19
              clear c19
              (first | rw [c19b0] | (simp only [i64_w, i32_w]; rw [c19b0]) | skip)
              have H' := Aside0.mk H
              clear H
              go_wp2
              go_meet
              case rel => exact ⟨_, (true), (by first | rfl | (simp; done) | (simp [*]; done)), H', ⟨by have := HJ2.out; first | omega | exact Nat.le_refl _⟩, ⟨by repeat (first | (with_reducible first | exact HB.out | apply below_alloc | apply pw_below_drewN | apply below_drew1) | exact HB.out)⟩⟩
            · rw [if_neg c19] at H
              have c19b0 : (a0 == 109) = false := beq_eq_false_iff_ne.mpr c19
              have c19b1 : (a0 != 109) = true := bne_iff_ne.mpr c19
              (first | rw [c19b0] | (simp only [i64_w, i32_w]; rw [c19b0]) | skip)
              have H' := Aside0.mk H
              clear H
              go_wp2
              go_meet
              case rel => exact ⟨_, ((a0 == 119)), (by first | rfl | (simp; done) | (simp [*]; done)), H', ⟨by have := HJ2.out; first | omega | exact Nat.le_refl _⟩, ⟨by repeat (first | (with_reducible first | exact HB.out | apply below_alloc | apply pw_below_drewN | apply below_drew1) | exact HB.out)⟩⟩
          case rest =>
            clear HC15
            try clear c1
            try clear p2
            try clear c3
            try clear c5
            try clear c5b0
            try clear c5b1
            try clear c6
            try clear c6b0
            try clear c6b1
            try clear c7
            try clear c7b0
            try clear c8
            try clear c8b0
            try clear c8b1
            try clear c9
            try clear c11
            try clear c19
            try clear c19b0
            try clear c19b1
            try clear p2
            obtain ⟨kq, x29_14, rfl, HA, HJ14, HB⟩ := hcut
            cases kq with
            | zero => exact absurd HA.out (by simp [spec_RuneWide.j1])
            | succ kj14 =>
              have H := HA.out
              clear HA
              simp only [spec_RuneWide.j1] at H
              by_cases c20 : x29_14 = true
              · subst c20
                have H1 : (some 16) = some r := by rw [if_pos rfl] at H; exact H
                clear H
                have H := H1
                clear H1
                obtain rfl := Option.some.inj H
                go_wp2
                go_ret
                exact ⟨by first | rfl | (simp [errW_none, errW_some] <;> rfl) | (simp [*, errW_none, errW_some] <;> rfl), by repeat (first | (with_reducible first | exact HB.out | apply below_alloc | apply pw_below_drewN | apply below_drew1) | exact HB.out)⟩
              · replace c20 := Bool.eq_false_iff.mpr c20
                subst c20
                have H1 : ((spec_l1In.f a0 19968 40959).bind fun t122 => (if t122 = true then (some 20) else (if t117 = 2 then (spec_RuneWide.j2 kj14 t117 true) else (spec_RuneWide.j2 kj14 t117 (t117 == 3))))) = some r := by rw [if_neg (show ¬ (false = true) by decide)] at H; exact H
                clear H
                have H := H1
                clear H1
                replace H := Option.bind_eq_some_iff.mp H
                obtain ⟨t122, A210, H⟩ := H
                replace H : (if t122 = true then (some 20) else (if t117 = 2 then (spec_RuneWide.j2 kj14 t117 true) else (spec_RuneWide.j2 kj14 t117 (t117 == 3)))) = some r := H
                have A21 := Aside0.mk A210
                clear A210
                by_cases c22 : t122 = true
                · subst c22
                  have H1 : (some 20) = some r := by rw [if_pos rfl] at H; exact H
                  clear H
                  have H := H1
                  clear H1
                  obtain rfl := Option.some.inj H
                  go_wp2_with (first | ((with_reducible refine gate_callee (f := 78) rfl ?_); refine goesL_ (some 38) rfl rfl Try.func78 (by kernel_rfl) rfl #[.int .i64 a0, .int .i64 19968, .int .i64 40959] rfl (by (try simp only [List.map_toArray, List.map_cons, List.map_nil]); first | done | rfl | (simp only [List.length_drop, List.length_take]; rfl)) ?_; (with_reducible refine (spec_l1In.calls a0 19968 40959 true _ A21.out).mono ?_); rintro e w' ⟨rfl, ⟨nd, rfl⟩⟩; refine ⟨_, rfl, ?_⟩))
                  go_ret
                  exact ⟨by first | rfl | (simp [errW_none, errW_some] <;> rfl) | (simp [*, errW_none, errW_some] <;> rfl), by repeat (first | (with_reducible first | exact HB.out | apply below_alloc | apply pw_below_drewN | apply below_drew1) | exact HB.out)⟩
                · replace c22 := Bool.eq_false_iff.mpr c22
                  subst c22
                  have H1 : (if t117 = 2 then (spec_RuneWide.j2 kj14 t117 true) else (spec_RuneWide.j2 kj14 t117 (t117 == 3))) = some r := by rw [if_neg (show ¬ (false = true) by decide)] at H; exact H
                  clear H
                  have H := H1
                  clear H1
                  have HC23 := Aside0.mk H
                  clear H
                  go_upto_region 10 with (first | ((with_reducible refine gate_callee (f := 78) rfl ?_); refine goesL_ (some 38) rfl rfl Try.func78 (by kernel_rfl) rfl #[.int .i64 a0, .int .i64 19968, .int .i64 40959] rfl (by (try simp only [List.map_toArray, List.map_cons, List.map_nil]); first | done | rfl | (simp only [List.length_drop, List.length_take]; rfl)) ?_; (with_reducible refine (spec_l1In.calls a0 19968 40959 false _ A21.out).mono ?_); rintro e w' ⟨rfl, ⟨nd, rfl⟩⟩; refine ⟨_, rfl, ?_⟩))
                  (try simp only [Act.put, List.setIfInBounds_toArray, List.set_cons_zero, List.set_cons_succ])
                  go_cut [39] (fun v39 wc => ∃ (kq : Nat) (x39_22 : Bool), v39 = .bool x39_22 ∧ Aside0 (spec_RuneWide.j2 kq t117 x39_22 = some r) ∧ Aside0 (kq ≤ kj14) ∧ Aside0 (Below w.heap.size w wc))
                  case first =>
                    have H := HC23.out
                    clear HC23
                    by_cases c24 : t117 = 2
                    · rw [if_pos c24] at H
                      have c24b0 : (t117 == 2) = true := beq_iff_eq.mpr c24
                      have c24b1 : (t117 != 2) = false := bne_eq_false_iff_eq.mpr c24
                      clear c24
                      (first | rw [c24b0] | (simp only [i64_w, i32_w]; rw [c24b0]) | skip)
                      have H' := Aside0.mk H
                      clear H
                      go_wp2
                      go_meet
                      case rel => exact ⟨_, (true), (by first | rfl | (simp; done) | (simp [*]; done)), H', ⟨by have := HJ2.out; have := HJ14.out; first | omega | exact Nat.le_refl _⟩, ⟨by repeat (first | (with_reducible first | exact HB.out | apply below_alloc | apply pw_below_drewN | apply below_drew1) | exact HB.out)⟩⟩
                    · rw [if_neg c24] at H
                      have c24b0 : (t117 == 2) = false := beq_eq_false_iff_ne.mpr c24
                      have c24b1 : (t117 != 2) = true := bne_iff_ne.mpr c24
                      (first | rw [c24b0] | (simp only [i64_w, i32_w]; rw [c24b0]) | skip)
                      have H' := Aside0.mk H
                      clear H
                      go_wp2
                      go_meet
                      case rel => exact ⟨_, ((t117 == 3)), (by first | rfl | (simp; done) | (simp [*]; done)), H', ⟨by have := HJ2.out; have := HJ14.out; first | omega | exact Nat.le_refl _⟩, ⟨by repeat (first | (with_reducible first | exact HB.out | apply below_alloc | apply pw_below_drewN | apply below_drew1) | exact HB.out)⟩⟩
                  case rest =>
                    clear HC23
                    try clear c1
                    try clear c2
                    try clear p2
                    try clear c3
                    try clear c5
                    try clear c5b0
                    try clear c5b1
                    try clear c6
                    try clear c6b0
                    try clear c6b1
                    try clear c7
                    try clear c7b0
                    try clear c8
                    try clear c8b0
                    try clear c8b1
                    try clear c9
                    try clear c11
                    try clear c19
                    try clear c19b0
                    try clear c19b1
                    try clear c20
                    try clear c22
                    try clear c24
                    try clear c24b0
                    try clear c24b1
                    try clear p2
                    obtain ⟨kq, x39_22, rfl, HA, HJ22, HB⟩ := hcut
                    cases kq with
                    | zero => exact absurd HA.out (by simp [spec_RuneWide.j2])
                    | succ kj22 =>
                      have H := HA.out
                      clear HA
                      simp only [spec_RuneWide.j2] at H
                      by_cases c25 : x39_22 = true
                      · subst c25
                        have H1 : (some 12) = some r := by rw [if_pos rfl] at H; exact H
                        clear H
                        have H := H1
                        clear H1
                        obtain rfl := Option.some.inj H
                        go_wp2
                        go_ret
                        exact ⟨by first | rfl | (simp [errW_none, errW_some] <;> rfl) | (simp [*, errW_none, errW_some] <;> rfl), by repeat (first | (with_reducible first | exact HB.out | apply below_alloc | apply pw_below_drewN | apply below_drew1) | exact HB.out)⟩
                      · replace c25 := Bool.eq_false_iff.mpr c25
                        subst c25
                        have H1 : (if t117 = 11 then (some 40) else (if t117 = 12 then (some 6) else (if t117 = 8 then (some 6) else (some 10)))) = some r := by rw [if_neg (show ¬ (false = true) by decide)] at H; exact H
                        clear H
                        have H := H1
                        clear H1
                        by_cases c26 : t117 = 11
                        · rw [if_pos c26] at H
                          have c26b0 : (t117 == 11) = true := beq_iff_eq.mpr c26
                          have c26b1 : (t117 != 11) = false := bne_eq_false_iff_eq.mpr c26
                          clear c26
                          obtain rfl := Option.some.inj H
                          go_wp2
                          go_ret
                          exact ⟨by first | rfl | (simp [errW_none, errW_some] <;> rfl) | (simp [*, errW_none, errW_some] <;> rfl), by repeat (first | (with_reducible first | exact HB.out | apply below_alloc | apply pw_below_drewN | apply below_drew1) | exact HB.out)⟩
                        · rw [if_neg c26] at H
                          have c26b0 : (t117 == 11) = false := beq_eq_false_iff_ne.mpr c26
                          have c26b1 : (t117 != 11) = true := bne_iff_ne.mpr c26
                          by_cases c27 : t117 = 12
                          · rw [if_pos c27] at H
                            have c27b0 : (t117 == 12) = true := beq_iff_eq.mpr c27
                            have c27b1 : (t117 != 12) = false := bne_eq_false_iff_eq.mpr c27
                            clear c27
                            obtain rfl := Option.some.inj H
                            go_wp2
                            go_ret
                            exact ⟨by first | rfl | (simp [errW_none, errW_some] <;> rfl) | (simp [*, errW_none, errW_some] <;> rfl), by repeat (first | (with_reducible first | exact HB.out | apply below_alloc | apply pw_below_drewN | apply below_drew1) | exact HB.out)⟩
                          · rw [if_neg c27] at H
                            have c27b0 : (t117 == 12) = false := beq_eq_false_iff_ne.mpr c27
                            have c27b1 : (t117 != 12) = true := bne_iff_ne.mpr c27
                            by_cases c28 : t117 = 8
                            · rw [if_pos c28] at H
                              have c28b0 : (t117 == 8) = true := beq_iff_eq.mpr c28
                              have c28b1 : (t117 != 8) = false := bne_eq_false_iff_eq.mpr c28
                              clear c28
                              obtain rfl := Option.some.inj H
                              go_wp2
                              go_ret
                              exact ⟨by first | rfl | (simp [errW_none, errW_some] <;> rfl) | (simp [*, errW_none, errW_some] <;> rfl), by repeat (first | (with_reducible first | exact HB.out | apply below_alloc | apply pw_below_drewN | apply below_drew1) | exact HB.out)⟩
                            · rw [if_neg c28] at H
                              have c28b0 : (t117 == 8) = false := beq_eq_false_iff_ne.mpr c28
                              have c28b1 : (t117 != 8) = true := bne_iff_ne.mpr c28
                              obtain rfl := Option.some.inj H
                              go_wp2
                              go_ret
                              exact ⟨by first | rfl | (simp [errW_none, errW_some] <;> rfl) | (simp [*, errW_none, errW_some] <;> rfl), by repeat (first | (with_reducible first | exact HB.out | apply below_alloc | apply pw_below_drewN | apply below_drew1) | exact HB.out)⟩

-- NOT PRINTED: function 126 (impl_reach_int)

/-! ### cmp_isNaN_int: function 172 -/
def cmp_isNaN_int.f (a0 : Int) : Option (Bool) := some (a0 != a0)
set_option maxHeartbeats 8000000 in
set_option maxRecDepth 100000 in
theorem cmp_isNaN_int.calls (a0 : Int) (r : Bool) (w : World) (h : cmp_isNaN_int.f a0 = some r) :
    Calls Try.prog 172 #[.int .i64 a0] w fun e w' => e = .returned (.bool r) ∧ Drawn0 w w' := by
  have H : (some (a0 != a0)) = some r := h
  clear h
  obtain rfl := Option.some.inj H
  go_enter Try.func172, Try.ntmps172
  go_wp2
  go_ret
  exact ⟨by first | rfl | (simp; done) | (simp [*]; done), by repeat (first | exact Drawn0.refl _ | apply Drawn0.step)⟩

/-! ### cmp_Compare_int: function 128 -/
def cmp_Compare_int.f (a0 : Int) (a1 : Int) : Option (Int) := (cmp_isNaN_int.f a0).bind fun t123 => ((cmp_isNaN_int.f a1).bind fun t124 => (if t123 = true then (if t124 = true then (some 0) else (some (-1))) else (if t124 = true then (some 1) else (if a0 < a1 then (some (-1)) else (if a0 > a1 then (some 1) else (some 0))))))
set_option maxHeartbeats 8000000 in
set_option maxRecDepth 100000 in
theorem cmp_Compare_int.calls (a0 : Int) (a1 : Int) (r : Int) (w : World) (h : cmp_Compare_int.f a0 a1 = some r) :
    Calls Try.prog 128 #[.int .i64 a0, .int .i64 a1] w fun e w' => e = .returned (.int .i64 r) ∧ Drawn0 w w' := by
  have H : ((cmp_isNaN_int.f a0).bind fun t123 => ((cmp_isNaN_int.f a1).bind fun t124 => (if t123 = true then (if t124 = true then (some 0) else (some (-1))) else (if t124 = true then (some 1) else (if a0 < a1 then (some (-1)) else (if a0 > a1 then (some 1) else (some 0))))))) = some r := h
  clear h
  replace H := Option.bind_eq_some_iff.mp H
  obtain ⟨t123, A30, H⟩ := H
  replace H : ((cmp_isNaN_int.f a1).bind fun t124 => (if t123 = true then (if t124 = true then (some 0) else (some (-1))) else (if t124 = true then (some 1) else (if a0 < a1 then (some (-1)) else (if a0 > a1 then (some 1) else (some 0)))))) = some r := H
  have A3 := Aside0.mk A30
  clear A30
  replace H := Option.bind_eq_some_iff.mp H
  obtain ⟨t124, A40, H⟩ := H
  replace H : (if t123 = true then (if t124 = true then (some 0) else (some (-1))) else (if t124 = true then (some 1) else (if a0 < a1 then (some (-1)) else (if a0 > a1 then (some 1) else (some 0))))) = some r := H
  have A4 := Aside0.mk A40
  clear A40
  by_cases c5 : t123 = true
  · subst c5
    have H1 : (if t124 = true then (some 0) else (some (-1))) = some r := by rw [if_pos rfl] at H; exact H
    clear H
    have H := H1
    clear H1
    by_cases c6 : t124 = true
    · subst c6
      have H1 : (some 0) = some r := by rw [if_pos rfl] at H; exact H
      clear H
      have H := H1
      clear H1
      obtain rfl := Option.some.inj H
      go_enter Try.func128, Try.ntmps128
      go_wp2_with (first | ((with_reducible refine gate_callee (f := 172) rfl ?_); refine goesL_ (some 8) rfl rfl Try.func172 (by kernel_rfl) rfl #[.int .i64 a0] rfl (by (try simp only [List.map_toArray, List.map_cons, List.map_nil]); first | done | rfl | (simp only [List.length_drop, List.length_take]; rfl)) ?_; (with_reducible refine (cmp_isNaN_int.calls a0 true _ A3.out).mono ?_); rintro e w' ⟨rfl, ⟨nd, rfl⟩⟩; refine ⟨_, rfl, ?_⟩) | ((with_reducible refine gate_callee (f := 172) rfl ?_); refine goesL_ (some 10) rfl rfl Try.func172 (by kernel_rfl) rfl #[.int .i64 a1] rfl (by (try simp only [List.map_toArray, List.map_cons, List.map_nil]); first | done | rfl | (simp only [List.length_drop, List.length_take]; rfl)) ?_; (with_reducible refine (cmp_isNaN_int.calls a1 true _ A4.out).mono ?_); rintro e w' ⟨rfl, ⟨nd, rfl⟩⟩; refine ⟨_, rfl, ?_⟩))
      go_ret
      exact ⟨by first | rfl | (simp; done) | (simp [*]; done), by repeat (first | exact Drawn0.refl _ | apply Drawn0.step)⟩
    · replace c6 := Bool.eq_false_iff.mpr c6
      subst c6
      have H1 : (some (-1)) = some r := by rw [if_neg (show ¬ (false = true) by decide)] at H; exact H
      clear H
      have H := H1
      clear H1
      obtain rfl := Option.some.inj H
      go_enter Try.func128, Try.ntmps128
      go_wp2_with (first | ((with_reducible refine gate_callee (f := 172) rfl ?_); refine goesL_ (some 8) rfl rfl Try.func172 (by kernel_rfl) rfl #[.int .i64 a0] rfl (by (try simp only [List.map_toArray, List.map_cons, List.map_nil]); first | done | rfl | (simp only [List.length_drop, List.length_take]; rfl)) ?_; (with_reducible refine (cmp_isNaN_int.calls a0 true _ A3.out).mono ?_); rintro e w' ⟨rfl, ⟨nd, rfl⟩⟩; refine ⟨_, rfl, ?_⟩) | ((with_reducible refine gate_callee (f := 172) rfl ?_); refine goesL_ (some 10) rfl rfl Try.func172 (by kernel_rfl) rfl #[.int .i64 a1] rfl (by (try simp only [List.map_toArray, List.map_cons, List.map_nil]); first | done | rfl | (simp only [List.length_drop, List.length_take]; rfl)) ?_; (with_reducible refine (cmp_isNaN_int.calls a1 false _ A4.out).mono ?_); rintro e w' ⟨rfl, ⟨nd, rfl⟩⟩; refine ⟨_, rfl, ?_⟩))
      go_ret
      exact ⟨by first | rfl | (simp; done) | (simp [*]; done), by repeat (first | exact Drawn0.refl _ | apply Drawn0.step)⟩
  · replace c5 := Bool.eq_false_iff.mpr c5
    subst c5
    have H1 : (if t124 = true then (some 1) else (if a0 < a1 then (some (-1)) else (if a0 > a1 then (some 1) else (some 0)))) = some r := by rw [if_neg (show ¬ (false = true) by decide)] at H; exact H
    clear H
    have H := H1
    clear H1
    by_cases c7 : t124 = true
    · subst c7
      have H1 : (some 1) = some r := by rw [if_pos rfl] at H; exact H
      clear H
      have H := H1
      clear H1
      obtain rfl := Option.some.inj H
      go_enter Try.func128, Try.ntmps128
      go_wp2_with (first | ((with_reducible refine gate_callee (f := 172) rfl ?_); refine goesL_ (some 8) rfl rfl Try.func172 (by kernel_rfl) rfl #[.int .i64 a0] rfl (by (try simp only [List.map_toArray, List.map_cons, List.map_nil]); first | done | rfl | (simp only [List.length_drop, List.length_take]; rfl)) ?_; (with_reducible refine (cmp_isNaN_int.calls a0 false _ A3.out).mono ?_); rintro e w' ⟨rfl, ⟨nd, rfl⟩⟩; refine ⟨_, rfl, ?_⟩) | ((with_reducible refine gate_callee (f := 172) rfl ?_); refine goesL_ (some 10) rfl rfl Try.func172 (by kernel_rfl) rfl #[.int .i64 a1] rfl (by (try simp only [List.map_toArray, List.map_cons, List.map_nil]); first | done | rfl | (simp only [List.length_drop, List.length_take]; rfl)) ?_; (with_reducible refine (cmp_isNaN_int.calls a1 true _ A4.out).mono ?_); rintro e w' ⟨rfl, ⟨nd, rfl⟩⟩; refine ⟨_, rfl, ?_⟩))
      go_ret
      exact ⟨by first | rfl | (simp; done) | (simp [*]; done), by repeat (first | exact Drawn0.refl _ | apply Drawn0.step)⟩
    · replace c7 := Bool.eq_false_iff.mpr c7
      subst c7
      have H1 : (if a0 < a1 then (some (-1)) else (if a0 > a1 then (some 1) else (some 0))) = some r := by rw [if_neg (show ¬ (false = true) by decide)] at H; exact H
      clear H
      have H := H1
      clear H1
      by_cases c8 : a0 < a1
      · rw [if_pos c8] at H
        have c8b0 : decide (a0 < a1) = true := decide_eq_true c8
        clear c8
        obtain rfl := Option.some.inj H
        go_enter Try.func128, Try.ntmps128
        go_wp2_with (first | ((with_reducible refine gate_callee (f := 172) rfl ?_); refine goesL_ (some 8) rfl rfl Try.func172 (by kernel_rfl) rfl #[.int .i64 a0] rfl (by (try simp only [List.map_toArray, List.map_cons, List.map_nil]); first | done | rfl | (simp only [List.length_drop, List.length_take]; rfl)) ?_; (with_reducible refine (cmp_isNaN_int.calls a0 false _ A3.out).mono ?_); rintro e w' ⟨rfl, ⟨nd, rfl⟩⟩; refine ⟨_, rfl, ?_⟩) | ((with_reducible refine gate_callee (f := 172) rfl ?_); refine goesL_ (some 10) rfl rfl Try.func172 (by kernel_rfl) rfl #[.int .i64 a1] rfl (by (try simp only [List.map_toArray, List.map_cons, List.map_nil]); first | done | rfl | (simp only [List.length_drop, List.length_take]; rfl)) ?_; (with_reducible refine (cmp_isNaN_int.calls a1 false _ A4.out).mono ?_); rintro e w' ⟨rfl, ⟨nd, rfl⟩⟩; refine ⟨_, rfl, ?_⟩))
        go_ret
        exact ⟨by first | rfl | (simp; done) | (simp [*]; done), by repeat (first | exact Drawn0.refl _ | apply Drawn0.step)⟩
      · rw [if_neg c8] at H
        have c8b0 : decide (a0 < a1) = false := decide_eq_false c8
        clear c8
        by_cases c9 : a0 > a1
        · rw [if_pos c9] at H
          have c9b0 : decide (a1 < a0) = true := decide_eq_true c9
          clear c9
          obtain rfl := Option.some.inj H
          go_enter Try.func128, Try.ntmps128
          go_wp2_with (first | ((with_reducible refine gate_callee (f := 172) rfl ?_); refine goesL_ (some 8) rfl rfl Try.func172 (by kernel_rfl) rfl #[.int .i64 a0] rfl (by (try simp only [List.map_toArray, List.map_cons, List.map_nil]); first | done | rfl | (simp only [List.length_drop, List.length_take]; rfl)) ?_; (with_reducible refine (cmp_isNaN_int.calls a0 false _ A3.out).mono ?_); rintro e w' ⟨rfl, ⟨nd, rfl⟩⟩; refine ⟨_, rfl, ?_⟩) | ((with_reducible refine gate_callee (f := 172) rfl ?_); refine goesL_ (some 10) rfl rfl Try.func172 (by kernel_rfl) rfl #[.int .i64 a1] rfl (by (try simp only [List.map_toArray, List.map_cons, List.map_nil]); first | done | rfl | (simp only [List.length_drop, List.length_take]; rfl)) ?_; (with_reducible refine (cmp_isNaN_int.calls a1 false _ A4.out).mono ?_); rintro e w' ⟨rfl, ⟨nd, rfl⟩⟩; refine ⟨_, rfl, ?_⟩))
          go_ret
          exact ⟨by first | rfl | (simp; done) | (simp [*]; done), by repeat (first | exact Drawn0.refl _ | apply Drawn0.step)⟩
        · rw [if_neg c9] at H
          have c9b0 : decide (a1 < a0) = false := decide_eq_false c9
          clear c9
          obtain rfl := Option.some.inj H
          go_enter Try.func128, Try.ntmps128
          go_wp2_with (first | ((with_reducible refine gate_callee (f := 172) rfl ?_); refine goesL_ (some 8) rfl rfl Try.func172 (by kernel_rfl) rfl #[.int .i64 a0] rfl (by (try simp only [List.map_toArray, List.map_cons, List.map_nil]); first | done | rfl | (simp only [List.length_drop, List.length_take]; rfl)) ?_; (with_reducible refine (cmp_isNaN_int.calls a0 false _ A3.out).mono ?_); rintro e w' ⟨rfl, ⟨nd, rfl⟩⟩; refine ⟨_, rfl, ?_⟩) | ((with_reducible refine gate_callee (f := 172) rfl ?_); refine goesL_ (some 10) rfl rfl Try.func172 (by kernel_rfl) rfl #[.int .i64 a1] rfl (by (try simp only [List.map_toArray, List.map_cons, List.map_nil]); first | done | rfl | (simp only [List.length_drop, List.length_take]; rfl)) ?_; (with_reducible refine (cmp_isNaN_int.calls a1 false _ A4.out).mono ?_); rintro e w' ⟨rfl, ⟨nd, rfl⟩⟩; refine ⟨_, rfl, ?_⟩))
          go_ret
          exact ⟨by first | rfl | (simp; done) | (simp [*]; done), by repeat (first | exact Drawn0.refl _ | apply Drawn0.step)⟩

/-! ### impl_find_1: function 127 -/
def impl_find_1.f (a0_0 : Int) (a0_1 : Int) (a0_2 : Int) (a1 : Int) : Option (Int) := if a1 ≥ a0_0 then (if a1 ≤ a0_1 then (some 0) else ((cmp_Compare_int.f a0_0 a1).bind fun t126 => (some t126))) else ((cmp_Compare_int.f a0_0 a1).bind fun t127 => (some t127))
set_option maxHeartbeats 8000000 in
set_option maxRecDepth 100000 in
theorem impl_find_1.calls (a0_0 : Int) (a0_1 : Int) (a0_2 : Int) (a1 : Int) (r : Int) (w : World) (h : impl_find_1.f a0_0 a0_1 a0_2 a1 = some r) :
    Calls Try.prog 127 #[.agg #[.int .i64 a0_0, .int .i64 a0_1, .int .i64 a0_2], .int .i64 a1] w fun e w' => e = .returned (.int .i64 r) ∧ Below w.heap.size w w' := by
  have hu110 := Try.underlying110
  have HB := Aside0.mk (Below.refl w.heap.size w)
  have H : (if a1 ≥ a0_0 then (if a1 ≤ a0_1 then (some 0) else ((cmp_Compare_int.f a0_0 a1).bind fun t126 => (some t126))) else ((cmp_Compare_int.f a0_0 a1).bind fun t127 => (some t127))) = some r := h
  clear h
  by_cases c3 : a1 ≥ a0_0
  · rw [if_pos c3] at H
    have c3b0 : decide (a0_0 ≤ a1) = true := decide_eq_true c3
    clear c3
    by_cases c4 : a1 ≤ a0_1
    · rw [if_pos c4] at H
      have c4b0 : decide (a1 ≤ a0_1) = true := decide_eq_true c4
      clear c4
      obtain rfl := Option.some.inj H
      go_enter Try.func127, Try.ntmps127
      go_wp2_with (first | ((with_reducible refine gate_dst (N := 2) rfl ?_); refine box_event ?hg (N := 2) ?hd (cs := #[.int .i64 a0_0, .int .i64 a0_1, .int .i64 a0_2]) (t := 110) ?hr ?_; (case hd => rfl); (case hg => rfl); (case hr => first | (go_simp; done) | (go_simp; rfl)); intro gb125 hg w5 hbox hb; have n0_ := Aside0.mk (below_step (by repeat (first | (with_reducible first | exact HB.out | apply below_alloc | apply pw_below_drewN | apply below_drew1) | exact HB.out)) hb); have n1_ := Aside0.mk (hbox); have n2_ := Aside0.mk ((by rw [hg]; exact (below_size (by repeat (first | (with_reducible first | exact HB.out | apply below_alloc | apply pw_below_drewN | apply below_drew1) | exact HB.out))) : w.heap.size ≤ gb125)); have n3_ := Aside0.mk ((by rw [hg]; exact (below_size (by repeat (first | (with_reducible first | exact HB.out | apply below_alloc | apply pw_below_drewN | apply below_drew1) | exact HB.out))) : w.heap.size ≤ gb125)); clear HB; have HB := n0_; have BK125 := n1_; have GW125 := n2_; have GE125 := n3_; clear n0_ n1_ n2_ n3_; clear hb hbox hg; have hcz6_0 : w5.cell? ⟨gb125, 0, none⟩ = some (.int .i64 a0_0) := (blk_cell BK125.out 0).trans rfl; have hcz6_1 : w5.cell? ⟨gb125, 1, none⟩ = some (.int .i64 a0_1) := (blk_cell BK125.out 1).trans rfl; have hcz6_2 : w5.cell? ⟨gb125, 2, none⟩ = some (.int .i64 a0_2) := (blk_cell BK125.out 2).trans rfl; have hfz6_0 := blk_frozen BK125.out 0; have hfz6_1 := blk_frozen BK125.out 1; have hfz6_2 := blk_frozen BK125.out 2))
      go_ret
      exact ⟨by first | rfl | (simp [errW_none, errW_some] <;> rfl) | (simp [*, errW_none, errW_some] <;> rfl), by repeat (first | (with_reducible first | exact HB.out | apply below_alloc | apply pw_below_drewN | apply below_drew1 | refine below_set ?_ GE125.out) | exact HB.out)⟩
    · rw [if_neg c4] at H
      have c4b0 : decide (a1 ≤ a0_1) = false := decide_eq_false c4
      clear c4
      replace H := Option.bind_eq_some_iff.mp H
      obtain ⟨t126, A70, H⟩ := H
      replace H : (some t126) = some r := H
      have A7 := Aside0.mk A70
      clear A70
      obtain rfl := Option.some.inj H
      go_enter Try.func127, Try.ntmps127
      go_wp2_with (first | ((with_reducible refine gate_dst (N := 2) rfl ?_); refine box_event ?hg (N := 2) ?hd (cs := #[.int .i64 a0_0, .int .i64 a0_1, .int .i64 a0_2]) (t := 110) ?hr ?_; (case hd => rfl); (case hg => rfl); (case hr => first | (go_simp; done) | (go_simp; rfl)); intro gb125 hg w8 hbox hb; have n0_ := Aside0.mk (below_step (by repeat (first | (with_reducible first | exact HB.out | apply below_alloc | apply pw_below_drewN | apply below_drew1) | exact HB.out)) hb); have n1_ := Aside0.mk (hbox); have n2_ := Aside0.mk ((by rw [hg]; exact (below_size (by repeat (first | (with_reducible first | exact HB.out | apply below_alloc | apply pw_below_drewN | apply below_drew1) | exact HB.out))) : w.heap.size ≤ gb125)); have n3_ := Aside0.mk ((by rw [hg]; exact (below_size (by repeat (first | (with_reducible first | exact HB.out | apply below_alloc | apply pw_below_drewN | apply below_drew1) | exact HB.out))) : w.heap.size ≤ gb125)); clear HB; have HB := n0_; have BK125 := n1_; have GW125 := n2_; have GE125 := n3_; clear n0_ n1_ n2_ n3_; clear hb hbox hg; have hcz9_0 : w8.cell? ⟨gb125, 0, none⟩ = some (.int .i64 a0_0) := (blk_cell BK125.out 0).trans rfl; have hcz9_1 : w8.cell? ⟨gb125, 1, none⟩ = some (.int .i64 a0_1) := (blk_cell BK125.out 1).trans rfl; have hcz9_2 : w8.cell? ⟨gb125, 2, none⟩ = some (.int .i64 a0_2) := (blk_cell BK125.out 2).trans rfl; have hfz9_0 := blk_frozen BK125.out 0; have hfz9_1 := blk_frozen BK125.out 1; have hfz9_2 := blk_frozen BK125.out 2) | ((with_reducible refine gate_callee (f := 128) rfl ?_); refine goesL_ (some 18) rfl rfl Try.func128 (by kernel_rfl) rfl #[.int .i64 a0_0, .int .i64 a1] rfl (by (try simp only [List.map_toArray, List.map_cons, List.map_nil]); first | done | rfl | (simp only [List.length_drop, List.length_take]; rfl)) ?_; (with_reducible refine (cmp_Compare_int.calls a0_0 a1 t126 _ A7.out).mono ?_); rintro e w' ⟨rfl, ⟨nd, rfl⟩⟩; refine ⟨_, rfl, ?_⟩))
      go_ret
      exact ⟨by first | rfl | (simp [errW_none, errW_some] <;> rfl) | (simp [*, errW_none, errW_some] <;> rfl), by repeat (first | (with_reducible first | exact HB.out | apply below_alloc | apply pw_below_drewN | apply below_drew1 | refine below_set ?_ GE125.out) | exact HB.out)⟩
  · rw [if_neg c3] at H
    have c3b0 : decide (a0_0 ≤ a1) = false := decide_eq_false c3
    clear c3
    replace H := Option.bind_eq_some_iff.mp H
    obtain ⟨t127, A100, H⟩ := H
    replace H : (some t127) = some r := H
    have A10 := Aside0.mk A100
    clear A100
    obtain rfl := Option.some.inj H
    go_enter Try.func127, Try.ntmps127
    go_wp2_with (first | ((with_reducible refine gate_dst (N := 2) rfl ?_); refine box_event ?hg (N := 2) ?hd (cs := #[.int .i64 a0_0, .int .i64 a0_1, .int .i64 a0_2]) (t := 110) ?hr ?_; (case hd => rfl); (case hg => rfl); (case hr => first | (go_simp; done) | (go_simp; rfl)); intro gb125 hg w11 hbox hb; have n0_ := Aside0.mk (below_step (by repeat (first | (with_reducible first | exact HB.out | apply below_alloc | apply pw_below_drewN | apply below_drew1) | exact HB.out)) hb); have n1_ := Aside0.mk (hbox); have n2_ := Aside0.mk ((by rw [hg]; exact (below_size (by repeat (first | (with_reducible first | exact HB.out | apply below_alloc | apply pw_below_drewN | apply below_drew1) | exact HB.out))) : w.heap.size ≤ gb125)); have n3_ := Aside0.mk ((by rw [hg]; exact (below_size (by repeat (first | (with_reducible first | exact HB.out | apply below_alloc | apply pw_below_drewN | apply below_drew1) | exact HB.out))) : w.heap.size ≤ gb125)); clear HB; have HB := n0_; have BK125 := n1_; have GW125 := n2_; have GE125 := n3_; clear n0_ n1_ n2_ n3_; clear hb hbox hg; have hcz12_0 : w11.cell? ⟨gb125, 0, none⟩ = some (.int .i64 a0_0) := (blk_cell BK125.out 0).trans rfl; have hcz12_1 : w11.cell? ⟨gb125, 1, none⟩ = some (.int .i64 a0_1) := (blk_cell BK125.out 1).trans rfl; have hcz12_2 : w11.cell? ⟨gb125, 2, none⟩ = some (.int .i64 a0_2) := (blk_cell BK125.out 2).trans rfl; have hfz12_0 := blk_frozen BK125.out 0; have hfz12_1 := blk_frozen BK125.out 1; have hfz12_2 := blk_frozen BK125.out 2) | ((with_reducible refine gate_callee (f := 128) rfl ?_); refine goesL_ (some 18) rfl rfl Try.func128 (by kernel_rfl) rfl #[.int .i64 a0_0, .int .i64 a1] rfl (by (try simp only [List.map_toArray, List.map_cons, List.map_nil]); first | done | rfl | (simp only [List.length_drop, List.length_take]; rfl)) ?_; (with_reducible refine (cmp_Compare_int.calls a0_0 a1 t127 _ A10.out).mono ?_); rintro e w' ⟨rfl, ⟨nd, rfl⟩⟩; refine ⟨_, rfl, ?_⟩))
    go_ret
    exact ⟨by first | rfl | (simp [errW_none, errW_some] <;> rfl) | (simp [*, errW_none, errW_some] <;> rfl), by repeat (first | (with_reducible first | exact HB.out | apply below_alloc | apply pw_below_drewN | apply below_drew1 | refine below_set ?_ GE125.out) | exact HB.out)⟩

def zR : S110 := z110
def cmpR (x : S110) (r : Int) : Int := if x.f0 ≤ r ∧ r ≤ x.f1 then 0 else if x.f0 < r then -1 else if x.f0 > r then 1 else 0
theorem find_1_cmp (x : S110) (r : Int) : impl_find_1.f x.f0 x.f1 x.f2 r = some (cmpR x r) := by
  unfold impl_find_1.f cmp_Compare_int.f cmp_isNaN_int.f cmpR
  by_cases h1 : r ≥ x.f0 <;> by_cases h2 : r ≤ x.f1 <;> by_cases h3 : x.f0 < r <;> by_cases h4 : x.f0 > r <;> simp [h1, h2, h3, h4] <;> omega
/-- ascending reaches, none empty -/
def ascR : List S110 → Bool
  | [] => true
  | [x] => decide (x.f0 ≤ x.f1)
  | x :: y :: r => decide (x.f0 ≤ x.f1) && decide (x.f1 < y.f0) && ascR (y :: r)
theorem ascR_one : ∀ (l : List S110), ascR l = true → ∀ i, i < l.length → (l.getD i z110).f0 ≤ (l.getD i z110).f1
  | [], _, i, h => absurd h (Nat.not_lt_zero _)
  | [x], h, i, hi => by
    have : i = 0 := by simp at hi; omega
    subst this
    simpa [ascR] using h
  | x :: y :: r, h, i, hi => by
    simp only [ascR, Bool.and_eq_true, decide_eq_true_eq] at h
    cases i with
    | zero => simpa using h.1.1
    | succ i => simpa using ascR_one (y :: r) h.2 i (by simpa using hi)
theorem ascR_two : ∀ (l : List S110), ascR l = true → ∀ i j, i < j → j < l.length → (l.getD i z110).f1 < (l.getD j z110).f0
  | [], _, _, _, _, h => absurd h (Nat.not_lt_zero _)
  | [x], h, i, j, hij, hj => by simp at hj; omega
  | x :: y :: r, h, i, j, hij, hj => by
    have h' := h
    simp only [ascR, Bool.and_eq_true, decide_eq_true_eq] at h
    cases j with
    | zero => omega
    | succ j =>
      cases i with
      | zero =>
        cases j with
        | zero => simpa using h.1.2
        | succ j =>
          have h1 := ascR_two (y :: r) h.2 0 (j + 1) (by omega) (by simpa using hj)
          have h2 := ascR_one (y :: r) h.2 0 (by simp)
          simp only [List.getD_cons_zero, List.getD_cons_succ] at h1 h2 ⊢
          omega
      | succ i => simpa using ascR_two (y :: r) h.2 i j (by omega) (by simpa using hj)
def hitR (x : S110) (r : Int) : Bool := decide (x.f0 ≤ r) && decide (r ≤ x.f1)
def lookR (l : List S110) (r other : Int) : Int := ((l.find? fun x => hitR x r).map (·.f2)).getD other
theorem lookR_hit : ∀ (l : List S110) (i : Nat) (r o : Int), i < l.length → hitR (l.getD i z110) r = true → (∀ k, k < i → hitR (l.getD k z110) r = false) → lookR l r o = (l.getD i z110).f2
  | [], _, _, _, h, _, _ => absurd h (Nat.not_lt_zero _)
  | x :: xs, 0, r, o, _, hh, _ => by
    have h1 : hitR x r = true := by simpa using hh
    simp [lookR, List.find?_cons, h1]
  | x :: xs, i + 1, r, o, h, hh, hm => by
    have h1 : hitR x r = false := by simpa using hm 0 (by omega)
    have := lookR_hit xs i r o (by simpa using h) (by simpa using hh) (fun k hk => by simpa using hm (k + 1) (by omega))
    simp only [lookR] at this ⊢
    simpa [List.find?_cons, h1] using this
theorem lookR_miss : ∀ (l : List S110) (r o : Int), (∀ k, k < l.length → hitR (l.getD k z110) r = false) → lookR l r o = o
  | [], _, _, _ => rfl
  | x :: xs, r, o, hm => by
    have h1 : hitR x r = false := by simpa using hm 0 (by simp)
    have := lookR_miss xs r o (fun k hk => by simpa using hm (k + 1) (by simpa using hk))
    simp only [lookR] at this ⊢
    simpa [List.find?_cons, h1] using this
def BsPost (l0 : List S110) (a1 : Int) (w : World) (e : Ending) (w' : World) : Prop :=
  ∃ (i : Nat) (b : Bool), e = .returned (.tuple #[.int .i64 i, .bool b]) ∧ (b = true → i < l0.length ∧ hitR (l0.getD i z110) a1 = true) ∧ (b = false → ∀ k, k < l0.length → hitR (l0.getD k z110) a1 = false) ∧ Below w.heap.size w w'
theorem cmpR_lt {x : S110} {r : Int} (h : x.f0 ≤ x.f1) : cmpR x r < 0 ↔ x.f1 < r := by
  unfold cmpR
  split
  · omega
  · split
    · omega
    · split <;> omega
theorem cmpR_eq {x : S110} {r : Int} (h : x.f0 ≤ x.f1) : cmpR x r = 0 ↔ hitR x r = true := by
  unfold cmpR hitR
  simp only [Bool.and_eq_true, decide_eq_true_eq]
  split
  · omega
  · split
    · omega
    · split <;> omega
theorem bs_none {l0 : List S110} {a1 : Int} {j : Nat} (ha : ascR l0 = true) (hl : ∀ k, k < j → (l0.getD k z110).f1 < a1) (hg : ∀ k, j ≤ k → k < l0.length → ¬ (l0.getD k z110).f1 < a1) (hj : hitR (l0.getD j z110) a1 = false) (k : Nat) (hk : k < l0.length) : hitR (l0.getD k z110) a1 = false := by
  by_cases h1 : k < j
  · have h2 := hl k h1
    unfold hitR
    simp only [Bool.and_eq_false_iff, decide_eq_false_iff_not]
    omega
  · by_cases h2 : k = j
    · subst h2; exact hj
    · have h3 := ascR_two l0 ha j k (by omega) hk
      have h4 := hg j (Nat.le_refl _) (by omega)
      unfold hitR
      simp only [Bool.and_eq_false_iff, decide_eq_false_iff_not]
      omega
set_option maxHeartbeats 4000000 in
set_option maxRecDepth 100000 in
theorem bs_calls (A0 : Option Addr) (c0 : Nat) (l0 : List S110) (a1 : Int) (w : World) (hr0 : Kd.C k110 w A0 l0.length l0) (hc0 : l0.length ≤ c0) (ha : ascR l0 = true) (hsz : l0.length ≤ 1000000) :
    Calls Try.prog 126 #[.slice A0 l0.length c0, .int .i64 a1, .func (.func 127) #[] #[]] w (BsPost l0 a1 w) := by
  have hu110 := Try.underlying110
  have HR0 := Aside0.mk hr0
  have HA := Aside0.mk ha
  clear hr0 ha
  go_enter Try.func126, Try.ntmps126
  go_wp2
  go_loopg [9, 10] l0.length (fun gg v9 v10 wr => ∃ i j : Nat, v9 = .int .i64 i ∧ v10 = .int .i64 j ∧ i ≤ j ∧ j ≤ l0.length ∧ j - i ≤ gg ∧ Aside0 (∀ k, k < i → (l0.getD k z110).f1 < a1) ∧ Aside0 (∀ k, j ≤ k → k < l0.length → ¬ (l0.getD k z110).f1 < a1) ∧ Aside0 (Below w.heap.size w wr))
  case atStart => exact ⟨0, l0.length, rfl, rfl, Nat.zero_le _, Nat.le_refl _, by omega, ⟨fun k hk => absurd hk (Nat.not_lt_zero _)⟩, ⟨fun k h1 h2 => absurd h2 (by omega)⟩, ⟨Below.refl _ _⟩⟩
  case round =>
    obtain ⟨i, j, rfl, rfl, hij, hj, hg, HL, HG, HB⟩ := hrel
    by_cases hlt : i < j
    · have hltz : (i : Int) < (j : Int) := by omega
      obtain ⟨m, hm⟩ : ∃ m : Nat, (m : Int) = ((i : Int) + (j : Int)) / 2 := ⟨(i + j) / 2, by omega⟩
      have hm1 : i ≤ m := by omega
      have hm2 : m < j := by omega
      have p0 : 0 ≤ ((i : Int) + (j : Int)) / 2 := by omega
      have q0 : ((i : Int) + (j : Int)) / 2 < (l0.length : Int) := by omega
      obtain ⟨ad, e0, hx0, hx1, hx2⟩ := at_T110 HR0.out (((i : Int) + (j : Int)) / 2) p0 q0
      have ht : (((i : Int) + (j : Int)) / 2).toNat = (i + j) / 2 := by omega
      rw [ht] at hx0 hx1 hx2
      clear ht
      cases e0
      replace hx0 := (HB.out.cell (World.block_lt_of_cell? w _ hx0)).trans hx0
      replace hx1 := (HB.out.cell (World.block_lt_of_cell? w _ hx1)).trans hx1
      replace hx2 := (HB.out.cell (World.block_lt_of_cell? w _ hx2)).trans hx2
      have hone := ascR_one l0 HA.out m (by omega)
      have Hrd : Aside0 (rd_T110 l0 (((i : Int) + (j : Int)) / 2) = l0.getD m z110) := ⟨by unfold rd_T110; rw [← hm, Int.toNat_natCast]⟩
      generalize hy : rd_T110 l0 (((i : Int) + (j : Int)) / 2) = y at hx0 hx1 hx2 Hrd
      have Hy := Aside0.mk (Hrd.out.symm)
      clear hy Hrd
      have hcall := fun W => impl_find_1.calls y.f0 y.f1 y.f2 a1 _ W (find_1_cmp y a1)
      by_cases hc : cmpR y a1 < 0
      · have hcB : decide (cmpR y a1 < 0) = true := decide_eq_true hc
        have Hup : Aside0 ((l0.getD m z110).f1 < a1) := ⟨by rw [Hy.out]; rw [Hy.out] at hone; exact (cmpR_lt hone).mp hc⟩
        have Hm := Aside0.mk hm
        clear hm hone hc
        have HCall := Aside0.mk hcall
        clear hcall
        go_wp2_with (go_at_call 127; refine (HCall.out _).mono ?_; rintro e w' ⟨rfl, hb⟩)
        go_roundg (gk - 1)
        case measure => omega
        case rel => exact ⟨m + 1, j, by rw [← Hm.out]; go_num, rfl, by omega, by omega, by omega, ⟨fun k hk => by
          by_cases e : k = m
          · subst e; exact Hup.out
          · have h1 := ascR_two l0 HA.out k m (by omega) (by omega)
            have h2 := ascR_one l0 HA.out m (by omega)
            have h3 := Hup.out
            omega⟩, HG, ⟨HB.out.trans (hb.mono HB.out.size)⟩⟩
      · have hcB : decide (cmpR y a1 < 0) = false := decide_eq_false hc
        have Hup : Aside0 (¬ (l0.getD m z110).f1 < a1) := ⟨by rw [Hy.out]; rw [Hy.out] at hone; exact fun h => hc ((cmpR_lt hone).mpr h)⟩
        have Hm := Aside0.mk hm
        clear hm hone hc
        have HCall := Aside0.mk hcall
        clear hcall
        go_wp2_with (go_at_call 127; refine (HCall.out _).mono ?_; rintro e w' ⟨rfl, hb⟩)
        go_roundg (gk - 1)
        case measure => omega
        case rel => exact ⟨i, m, rfl, by rw [← Hm.out], by omega, by omega, by omega, HL, ⟨fun k h1 h2 => by
          by_cases e : k = m
          · subst e; exact Hup.out
          · have h3 := ascR_two l0 HA.out m k (by omega) (by omega)
            have h4 := ascR_one l0 HA.out k (by omega)
            have h5 := Hup.out
            omega⟩, ⟨HB.out.trans (hb.mono HB.out.size)⟩⟩
    · have hltz : ¬ (i : Int) < (j : Int) := by omega
      have hji : j = i := by omega
      subst hji
      by_cases hn : j < l0.length
      · have hnz : (j : Int) < (l0.length : Int) := by omega
        obtain ⟨ad, e0, hx0, hx1, hx2⟩ := at_T110 HR0.out (j : Int) (by omega) (by omega)
        rw [Int.toNat_natCast] at hx0 hx1 hx2
        cases e0
        replace hx0 := (HB.out.cell (World.block_lt_of_cell? w _ hx0)).trans hx0
        replace hx1 := (HB.out.cell (World.block_lt_of_cell? w _ hx1)).trans hx1
        replace hx2 := (HB.out.cell (World.block_lt_of_cell? w _ hx2)).trans hx2
        have hone := ascR_one l0 HA.out j (by omega)
        have Hrd : Aside0 (rd_T110 l0 (j : Int) = l0.getD j z110) := ⟨by unfold rd_T110; rw [Int.toNat_natCast]⟩
        generalize hy : rd_T110 l0 (j : Int) = y at hx0 hx1 hx2 Hrd
        have Hy := Aside0.mk (Hrd.out.symm)
        clear hy Hrd
        have HCall := Aside0.mk (fun W => impl_find_1.calls y.f0 y.f1 y.f2 a1 _ W (find_1_cmp y a1))
        have Hone := Aside0.mk hone
        clear hone
        go_wp2_with (go_at_call 127; refine (HCall.out _).mono ?_; rintro e w' ⟨rfl, hb⟩)
        go_ret2
        refine ⟨j, (cmpR y a1 == 0), rfl, fun hb1 => ⟨hn, ?_⟩, fun hb1 k hk => ?_, HB.out.trans (hb.mono HB.out.size)⟩
        · rw [Hy.out]
          have h1 := Hone.out
          rw [Hy.out] at h1
          exact (cmpR_eq h1).mp (by simpa using hb1)
        · have h1 := Hone.out
          have h2 : ¬ cmpR y a1 = 0 := by simpa using hb1
          have h3 : ¬ hitR (l0.getD j z110) a1 = true := by rw [Hy.out]; rw [Hy.out] at h1; exact fun h => h2 ((cmpR_eq h1).mpr h)
          exact bs_none HA.out HL.out (fun k h4 h5 => by have := HG.out k h4 h5; omega) (by simpa using h3) k hk
      · have hnz : ¬ (j : Int) < (l0.length : Int) := by omega
        go_wp2
        go_ret2
        refine ⟨j, false, rfl, (fun hb1 => by cases hb1), fun _ k hk => ?_, HB.out⟩
        have h1 := HL.out k (by omega)
        unfold hitR
        simp only [Bool.and_eq_false_iff, decide_eq_false_iff_not]
        omega
def impl_find.f (l0 : List S110) (a1 : Int) (a2 : Int) : Option Int := if ascR l0 = true ∧ l0.length ≤ 1000000 then some (lookR l0 a1 a2) else none
theorem asc_hit {l0 : List S110} {a1 : Int} (ha : ascR l0 = true) {i k : Nat} (hi : i < l0.length) (hh : hitR (l0.getD i z110) a1 = true) (hk : k < i) : hitR (l0.getD k z110) a1 = false := by
  have h3 := ascR_two l0 ha k i hk hi
  unfold hitR at hh ⊢
  simp only [Bool.and_eq_true, decide_eq_true_eq] at hh
  simp only [Bool.and_eq_false_iff, decide_eq_false_iff_not]
  omega
set_option maxHeartbeats 4000000 in
set_option maxRecDepth 100000 in
theorem impl_find.calls (A0 : Option Addr) (c0 : Nat) (l0 : List S110) (a1 : Int) (a2 : Int) (r : Int) (w : World) (hr0 : Kd.C k110 w A0 l0.length l0) (hc0 : l0.length ≤ c0) (h : impl_find.f l0 a1 a2 = some r) :
    Calls Try.prog 81 #[.slice A0 l0.length c0, .int .i64 a1, .int .i64 a2] w fun e w' => e = .returned (.int .i64 r) ∧ Below w.heap.size w w' := by
  unfold impl_find.f at h
  split at h
  case isFalse => exact absurd h (by simp)
  case isTrue hs =>
  have H := Aside0.mk (Option.some.inj h)
  clear h
  obtain ⟨ha, hsz⟩ := hs
  have HC := Aside0.mk (fun W => bs_calls A0 c0 l0 a1 W)
  have HR0 := Aside0.mk hr0
  have HA := Aside0.mk ha
  have hu110 := Try.underlying110
  clear hr0 ha
  go_enter Try.func81, Try.ntmps81
  go_wp2_with (fail)
  refine (HC.out _ HR0.out hc0 HA.out hsz).mono ?_
  rintro e w' ⟨i, b, rfl, ht, hf, hb⟩
  have HT := Aside0.mk ht
  have HF := Aside0.mk hf
  clear ht hf
  cases b with
  | true =>
    obtain ⟨hi, hh⟩ := HT.out rfl
    have Hh := Aside0.mk hh
    obtain ⟨ad, e0, hx0, hx1, hx2⟩ := at_T110 HR0.out (i : Int) (by omega) (by omega)
    rw [Int.toNat_natCast] at hx0 hx1 hx2
    cases e0
    replace hx0 := (hb.cell (World.block_lt_of_cell? w _ hx0)).trans hx0
    replace hx1 := (hb.cell (World.block_lt_of_cell? w _ hx1)).trans hx1
    replace hx2 := (hb.cell (World.block_lt_of_cell? w _ hx2)).trans hx2
    have hiz : (i : Int) < (l0.length : Int) := by omega
    clear hh
    go_wp2
    go_ret
    refine ⟨?_, hb⟩
    rw [← H.out, lookR_hit l0 i a1 a2 hi Hh.out (fun k hk => asc_hit HA.out hi Hh.out hk)]
    simp [rd_T110]
  | false =>
    go_wp2
    go_ret
    refine ⟨?_, hb⟩
    rw [← H.out, lookR_miss l0 a1 a2 (HF.out (by trivial))]
    rfl


/-! ### impl_bidiReaches: function 125 -/
def impl_bidiReaches.f  : Option ((List (S110))) := some (([(⟨9, 9, 11⟩ : S110), (⟨32, 32, 12⟩ : S110), (⟨35, 37, 6⟩ : S110), (⟨43, 43, 5⟩ : S110), (⟨44, 44, 8⟩ : S110), (⟨45, 45, 5⟩ : S110), (⟨46, 47, 8⟩ : S110), (⟨48, 57, 4⟩ : S110), (⟨58, 58, 8⟩ : S110), (⟨65, 90, 1⟩ : S110), (⟨97, 122, 1⟩ : S110), (⟨173, 173, 10⟩ : S110), (⟨768, 879, 9⟩ : S110), (⟨1488, 1514, 2⟩ : S110), (⟨1569, 1610, 3⟩ : S110), (⟨1632, 1641, 7⟩ : S110), (⟨8203, 8203, 10⟩ : S110), (⟨8205, 8205, 10⟩ : S110), (⟨8234, 8234, 14⟩ : S110), (⟨8235, 8235, 15⟩ : S110), (⟨8236, 8236, 16⟩ : S110), (⟨8237, 8237, 17⟩ : S110), (⟨8238, 8238, 18⟩ : S110), (⟨8294, 8294, 19⟩ : S110), (⟨8295, 8295, 20⟩ : S110), (⟨8296, 8296, 21⟩ : S110), (⟨8297, 8297, 22⟩ : S110), (⟨19968, 40959, 1⟩ : S110)] : List (S110)))
set_option maxHeartbeats 8000000 in
set_option maxRecDepth 100000 in
theorem impl_bidiReaches.calls  (r : List (S110)) (w : World) (h : impl_bidiReaches.f  = some r) :
    Calls Try.prog 125 #[] w fun e w' => ∃ v0_ : Value, e = .returned (v0_) ∧ Kd.R k110 110 w' w.heap.size (fun _ => True) v0_ r ∧ Below w.heap.size w w' := by
  have hu110 := Try.underlying110
  have HB := Aside0.mk (Below.refl w.heap.size w)
  have H : (some (([(⟨9, 9, 11⟩ : S110), (⟨32, 32, 12⟩ : S110), (⟨35, 37, 6⟩ : S110), (⟨43, 43, 5⟩ : S110), (⟨44, 44, 8⟩ : S110), (⟨45, 45, 5⟩ : S110), (⟨46, 47, 8⟩ : S110), (⟨48, 57, 4⟩ : S110), (⟨58, 58, 8⟩ : S110), (⟨65, 90, 1⟩ : S110), (⟨97, 122, 1⟩ : S110), (⟨173, 173, 10⟩ : S110), (⟨768, 879, 9⟩ : S110), (⟨1488, 1514, 2⟩ : S110), (⟨1569, 1610, 3⟩ : S110), (⟨1632, 1641, 7⟩ : S110), (⟨8203, 8203, 10⟩ : S110), (⟨8205, 8205, 10⟩ : S110), (⟨8234, 8234, 14⟩ : S110), (⟨8235, 8235, 15⟩ : S110), (⟨8236, 8236, 16⟩ : S110), (⟨8237, 8237, 17⟩ : S110), (⟨8238, 8238, 18⟩ : S110), (⟨8294, 8294, 19⟩ : S110), (⟨8295, 8295, 20⟩ : S110), (⟨8296, 8296, 21⟩ : S110), (⟨8297, 8297, 22⟩ : S110), (⟨19968, 40959, 1⟩ : S110)] : List (S110)))) = some r := h
  clear h
  obtain ⟨y128, hy128⟩ : ∃ y_ : List (S110), y_ = (([(⟨9, 9, 11⟩ : S110), (⟨32, 32, 12⟩ : S110), (⟨35, 37, 6⟩ : S110), (⟨43, 43, 5⟩ : S110), (⟨44, 44, 8⟩ : S110), (⟨45, 45, 5⟩ : S110), (⟨46, 47, 8⟩ : S110), (⟨48, 57, 4⟩ : S110), (⟨58, 58, 8⟩ : S110), (⟨65, 90, 1⟩ : S110), (⟨97, 122, 1⟩ : S110), (⟨173, 173, 10⟩ : S110), (⟨768, 879, 9⟩ : S110), (⟨1488, 1514, 2⟩ : S110), (⟨1569, 1610, 3⟩ : S110), (⟨1632, 1641, 7⟩ : S110), (⟨8203, 8203, 10⟩ : S110), (⟨8205, 8205, 10⟩ : S110), (⟨8234, 8234, 14⟩ : S110), (⟨8235, 8235, 15⟩ : S110), (⟨8236, 8236, 16⟩ : S110), (⟨8237, 8237, 17⟩ : S110), (⟨8238, 8238, 18⟩ : S110), (⟨8294, 8294, 19⟩ : S110), (⟨8295, 8295, 20⟩ : S110), (⟨8296, 8296, 21⟩ : S110), (⟨8297, 8297, 22⟩ : S110), (⟨19968, 40959, 1⟩ : S110)] : List (S110))) := ⟨_, rfl⟩
  replace H : (some y128) = some r := by first | (rw [hy128]; with_reducible exact H) | (have H2_ := (Option.bind_some _ _).symm.trans H; rw [hy128]; with_reducible exact H2_) | (have H2_ := (Option.bind_some _ _).symm.trans H; with_reducible exact H2_) | with_reducible exact H | (rw [hy128]; exact H) | exact H
  have Ny128 := Aside0.mk hy128
  clear hy128
  obtain rfl := Option.some.inj H
  go_enter Try.func125, Try.ntmps125
  go_wp2_with (first | ((with_reducible refine gate_dst (N := 29) rfl ?_); refine Kd.R_lit k110 _ 110 ?hg (N := 29) ?hd (xs := ([(⟨9, 9, 11⟩ : S110), (⟨32, 32, 12⟩ : S110), (⟨35, 37, 6⟩ : S110), (⟨43, 43, 5⟩ : S110), (⟨44, 44, 8⟩ : S110), (⟨45, 45, 5⟩ : S110), (⟨46, 47, 8⟩ : S110), (⟨48, 57, 4⟩ : S110), (⟨58, 58, 8⟩ : S110), (⟨65, 90, 1⟩ : S110), (⟨97, 122, 1⟩ : S110), (⟨173, 173, 10⟩ : S110), (⟨768, 879, 9⟩ : S110), (⟨1488, 1514, 2⟩ : S110), (⟨1569, 1610, 3⟩ : S110), (⟨1632, 1641, 7⟩ : S110), (⟨8203, 8203, 10⟩ : S110), (⟨8205, 8205, 10⟩ : S110), (⟨8234, 8234, 14⟩ : S110), (⟨8235, 8235, 15⟩ : S110), (⟨8236, 8236, 16⟩ : S110), (⟨8237, 8237, 17⟩ : S110), (⟨8238, 8238, 18⟩ : S110), (⟨8294, 8294, 19⟩ : S110), (⟨8295, 8295, 20⟩ : S110), (⟨8296, 8296, 21⟩ : S110), (⟨8297, 8297, 22⟩ : S110), (⟨19968, 40959, 1⟩ : S110)] : List (S110))) (inner := [.int .i64 9, .int .i64 9, .int .i64 11, .int .i64 32, .int .i64 32, .int .i64 12, .int .i64 35, .int .i64 37, .int .i64 6, .int .i64 43, .int .i64 43, .int .i64 5, .int .i64 44, .int .i64 44, .int .i64 8, .int .i64 45, .int .i64 45, .int .i64 5, .int .i64 46, .int .i64 47, .int .i64 8, .int .i64 48, .int .i64 57, .int .i64 4, .int .i64 58, .int .i64 58, .int .i64 8, .int .i64 65, .int .i64 90, .int .i64 1, .int .i64 97, .int .i64 122, .int .i64 1, .int .i64 173, .int .i64 173, .int .i64 10, .int .i64 768, .int .i64 879, .int .i64 9, .int .i64 1488, .int .i64 1514, .int .i64 2, .int .i64 1569, .int .i64 1610, .int .i64 3, .int .i64 1632, .int .i64 1641, .int .i64 7, .int .i64 8203, .int .i64 8203, .int .i64 10, .int .i64 8205, .int .i64 8205, .int .i64 10, .int .i64 8234, .int .i64 8234, .int .i64 14, .int .i64 8235, .int .i64 8235, .int .i64 15, .int .i64 8236, .int .i64 8236, .int .i64 16, .int .i64 8237, .int .i64 8237, .int .i64 17, .int .i64 8238, .int .i64 8238, .int .i64 18, .int .i64 8294, .int .i64 8294, .int .i64 19, .int .i64 8295, .int .i64 8295, .int .i64 20, .int .i64 8296, .int .i64 8296, .int .i64 21, .int .i64 8297, .int .i64 8297, .int .i64 22, .int .i64 19968, .int .i64 40959, .int .i64 1]) (ok := fun _ => True) (okp := fun _ => True) ?hr ?hp (fun _ hk => hk) trivial (Below.refl _ _) (Nat.le_refl _) (by simp) ?_; (case hd => rfl); (case hg => rfl); (case hr => first | (go_simp; done) | (go_simp; rfl)); (case hp => exact (Reps.c3 (show Kd.M k110 _ _ _ (⟨9, 9, 11⟩ : S110) [.int .i64 9, .int .i64 9, .int .i64 11] from (k110_mkM _ _ _ (⟨9, 9, 11⟩ : S110) )) (Reps.c3 (show Kd.M k110 _ _ _ (⟨32, 32, 12⟩ : S110) [.int .i64 32, .int .i64 32, .int .i64 12] from (k110_mkM _ _ _ (⟨32, 32, 12⟩ : S110) )) (Reps.c3 (show Kd.M k110 _ _ _ (⟨35, 37, 6⟩ : S110) [.int .i64 35, .int .i64 37, .int .i64 6] from (k110_mkM _ _ _ (⟨35, 37, 6⟩ : S110) )) (Reps.c3 (show Kd.M k110 _ _ _ (⟨43, 43, 5⟩ : S110) [.int .i64 43, .int .i64 43, .int .i64 5] from (k110_mkM _ _ _ (⟨43, 43, 5⟩ : S110) )) (Reps.c3 (show Kd.M k110 _ _ _ (⟨44, 44, 8⟩ : S110) [.int .i64 44, .int .i64 44, .int .i64 8] from (k110_mkM _ _ _ (⟨44, 44, 8⟩ : S110) )) (Reps.c3 (show Kd.M k110 _ _ _ (⟨45, 45, 5⟩ : S110) [.int .i64 45, .int .i64 45, .int .i64 5] from (k110_mkM _ _ _ (⟨45, 45, 5⟩ : S110) )) (Reps.c3 (show Kd.M k110 _ _ _ (⟨46, 47, 8⟩ : S110) [.int .i64 46, .int .i64 47, .int .i64 8] from (k110_mkM _ _ _ (⟨46, 47, 8⟩ : S110) )) (Reps.c3 (show Kd.M k110 _ _ _ (⟨48, 57, 4⟩ : S110) [.int .i64 48, .int .i64 57, .int .i64 4] from (k110_mkM _ _ _ (⟨48, 57, 4⟩ : S110) )) (Reps.c3 (show Kd.M k110 _ _ _ (⟨58, 58, 8⟩ : S110) [.int .i64 58, .int .i64 58, .int .i64 8] from (k110_mkM _ _ _ (⟨58, 58, 8⟩ : S110) )) (Reps.c3 (show Kd.M k110 _ _ _ (⟨65, 90, 1⟩ : S110) [.int .i64 65, .int .i64 90, .int .i64 1] from (k110_mkM _ _ _ (⟨65, 90, 1⟩ : S110) )) (Reps.c3 (show Kd.M k110 _ _ _ (⟨97, 122, 1⟩ : S110) [.int .i64 97, .int .i64 122, .int .i64 1] from (k110_mkM _ _ _ (⟨97, 122, 1⟩ : S110) )) (Reps.c3 (show Kd.M k110 _ _ _ (⟨173, 173, 10⟩ : S110) [.int .i64 173, .int .i64 173, .int .i64 10] from (k110_mkM _ _ _ (⟨173, 173, 10⟩ : S110) )) (Reps.c3 (show Kd.M k110 _ _ _ (⟨768, 879, 9⟩ : S110) [.int .i64 768, .int .i64 879, .int .i64 9] from (k110_mkM _ _ _ (⟨768, 879, 9⟩ : S110) )) (Reps.c3 (show Kd.M k110 _ _ _ (⟨1488, 1514, 2⟩ : S110) [.int .i64 1488, .int .i64 1514, .int .i64 2] from (k110_mkM _ _ _ (⟨1488, 1514, 2⟩ : S110) )) (Reps.c3 (show Kd.M k110 _ _ _ (⟨1569, 1610, 3⟩ : S110) [.int .i64 1569, .int .i64 1610, .int .i64 3] from (k110_mkM _ _ _ (⟨1569, 1610, 3⟩ : S110) )) (Reps.c3 (show Kd.M k110 _ _ _ (⟨1632, 1641, 7⟩ : S110) [.int .i64 1632, .int .i64 1641, .int .i64 7] from (k110_mkM _ _ _ (⟨1632, 1641, 7⟩ : S110) )) (Reps.c3 (show Kd.M k110 _ _ _ (⟨8203, 8203, 10⟩ : S110) [.int .i64 8203, .int .i64 8203, .int .i64 10] from (k110_mkM _ _ _ (⟨8203, 8203, 10⟩ : S110) )) (Reps.c3 (show Kd.M k110 _ _ _ (⟨8205, 8205, 10⟩ : S110) [.int .i64 8205, .int .i64 8205, .int .i64 10] from (k110_mkM _ _ _ (⟨8205, 8205, 10⟩ : S110) )) (Reps.c3 (show Kd.M k110 _ _ _ (⟨8234, 8234, 14⟩ : S110) [.int .i64 8234, .int .i64 8234, .int .i64 14] from (k110_mkM _ _ _ (⟨8234, 8234, 14⟩ : S110) )) (Reps.c3 (show Kd.M k110 _ _ _ (⟨8235, 8235, 15⟩ : S110) [.int .i64 8235, .int .i64 8235, .int .i64 15] from (k110_mkM _ _ _ (⟨8235, 8235, 15⟩ : S110) )) (Reps.c3 (show Kd.M k110 _ _ _ (⟨8236, 8236, 16⟩ : S110) [.int .i64 8236, .int .i64 8236, .int .i64 16] from (k110_mkM _ _ _ (⟨8236, 8236, 16⟩ : S110) )) (Reps.c3 (show Kd.M k110 _ _ _ (⟨8237, 8237, 17⟩ : S110) [.int .i64 8237, .int .i64 8237, .int .i64 17] from (k110_mkM _ _ _ (⟨8237, 8237, 17⟩ : S110) )) (Reps.c3 (show Kd.M k110 _ _ _ (⟨8238, 8238, 18⟩ : S110) [.int .i64 8238, .int .i64 8238, .int .i64 18] from (k110_mkM _ _ _ (⟨8238, 8238, 18⟩ : S110) )) (Reps.c3 (show Kd.M k110 _ _ _ (⟨8294, 8294, 19⟩ : S110) [.int .i64 8294, .int .i64 8294, .int .i64 19] from (k110_mkM _ _ _ (⟨8294, 8294, 19⟩ : S110) )) (Reps.c3 (show Kd.M k110 _ _ _ (⟨8295, 8295, 20⟩ : S110) [.int .i64 8295, .int .i64 8295, .int .i64 20] from (k110_mkM _ _ _ (⟨8295, 8295, 20⟩ : S110) )) (Reps.c3 (show Kd.M k110 _ _ _ (⟨8296, 8296, 21⟩ : S110) [.int .i64 8296, .int .i64 8296, .int .i64 21] from (k110_mkM _ _ _ (⟨8296, 8296, 21⟩ : S110) )) (Reps.c3 (show Kd.M k110 _ _ _ (⟨8297, 8297, 22⟩ : S110) [.int .i64 8297, .int .i64 8297, .int .i64 22] from (k110_mkM _ _ _ (⟨8297, 8297, 22⟩ : S110) )) (Reps.c3 (show Kd.M k110 _ _ _ (⟨19968, 40959, 1⟩ : S110) [.int .i64 19968, .int .i64 40959, .int .i64 1] from (k110_mkM _ _ _ (⟨19968, 40959, 1⟩ : S110) )) (Reps.none _ _)))))))))))))))))))))))))))))); intro v129 w1 ho2 hb hg_ hnew_; clear hg_ hnew_; (first | rw [← Ny128.out] at ho2 | (simp only [Int.reduceToNat] at ho2; rw [← Ny128.out] at ho2)); have n0_ := Aside0.mk (Kd.R_lower ho2 (below_size (by repeat (first | (with_reducible first | exact HB.out | apply below_alloc | apply pw_below_drewN | apply below_drew1) | exact HB.out)))); have n1_ := Aside0.mk (below_step (by repeat (first | (with_reducible first | exact HB.out | apply below_alloc | apply pw_below_drewN | apply below_drew1) | exact HB.out)) hb); clear HB; have HO130 := n0_; have HB := n1_; clear n0_ n1_; clear hb ho2))
  go_ret
  exact ⟨_, by first | rfl | (simp [errW_none, errW_some] <;> rfl) | (simp [*, errW_none, errW_some] <;> rfl), by (with_reducible repeat (first | apply Kd.R_alloc | apply Kd.R_drewN | apply Kd.R_drew)); exact HO130.out, by repeat (first | (with_reducible first | exact HB.out | apply below_alloc | apply pw_below_drewN | apply below_drew1) | exact HB.out)⟩

end Go.Proofs.Ytpdkddhadgeheaa.PFnExactRuneWide
