-- Written by a program of this session (wip/tools) out of the translation; its shape is that of the kit print.
import Derived.Test.YtmjhdgofepdgkaaPFnLineWidex0
import Derived.Test.YtmjhdgofepdgkaaPFnLineWidex8
namespace Go.Proofs.Ytmjhdgofepdgkaa.PFnLineWide
open Go.RowKit Go.Proofs.YtmjhdgofepdgkaaW.PrintWords Go.Proofs.YtmjhdgofepdgkaaW.PrintLast Go.Proofs.YtmjhdgofepdgkaaW.PrintMore
attribute [local go_sem] max2_int min2_int max_two min_two max_three min_three max_four min_four   -- for this text's walks alone
set_option linter.unusedVariables false
set_option linter.unusedSimpArgs false

/-! ### impl_RuneWide: function 106 -/
mutual
def impl_RuneWide.j0 : Nat → Int → Int → Bool → Option (Int)
 | 0, _, _, _ => none
 | k + 1, x0, x3, x6 => if x6 = true then (some 0) else (if x0 = 105 then (impl_RuneWide.j1 k x0 x3 (x0 == 105)) else (if x0 = 106 then (impl_RuneWide.j1 k x0 x3 (x0 == 106)) else (if x0 = 108 then (impl_RuneWide.j1 k x0 x3 (x0 == 108)) else (if x0 = 102 then (impl_RuneWide.j1 k x0 x3 (x0 == 102)) else (impl_RuneWide.j1 k x0 x3 (x0 == 116))))))
def impl_RuneWide.j1 : Nat → Int → Int → Bool → Option (Int)
 | 0, _, _, _ => none
 | k + 1, x0, x3, x17 => if x17 = true then (some 6) else (if x0 = 109 then (impl_RuneWide.j2 k x0 x3 (x0 == 109)) else (impl_RuneWide.j2 k x0 x3 (x0 == 119)))
def impl_RuneWide.j2 : Nat → Int → Int → Bool → Option (Int)
 | 0, _, _, _ => none
 | k + 1, x0, x3, x28 => if x28 = true then (some 16) else (if x0 ≥ 19968 then (impl_RuneWide.j3 k x3 (decide (x0 ≤ 40959))) else (impl_RuneWide.j3 k x3 false))
def impl_RuneWide.j3 : Nat → Int → Bool → Option (Int)
 | 0, _, _ => none
 | k + 1, x3, x33 => if x33 = true then (some 20) else (if x3 = 2 then (impl_RuneWide.j4 k x3 (x3 == 2)) else (impl_RuneWide.j4 k x3 (x3 == 3)))
def impl_RuneWide.j4 : Nat → Int → Bool → Option (Int)
 | 0, _, _ => none
 | k + 1, x3, x40 => if x40 = true then (some 12) else (if x3 = 11 then (some 40) else (if x3 = 12 then (some 6) else (if x3 = 8 then (some 6) else (some 10))))
end
def impl_RuneWide.f (k : Nat) (a0 : Int) : Option (Int) := (impl_RuneBidi.f a0).bind fun t314 => (if t314 = 9 then (impl_RuneWide.j0 k a0 t314 (t314 == 9)) else (if t314 = 10 then (impl_RuneWide.j0 k a0 t314 (t314 == 10)) else (if t314 ≥ 14 then (impl_RuneWide.j0 k a0 t314 (decide (t314 ≥ 14))) else (if a0 = 10 then (impl_RuneWide.j0 k a0 t314 (a0 == 10)) else (impl_RuneWide.j0 k a0 t314 (a0 == 13))))))
theorem impl_RuneWide.mono_l : ∀ k, (∀ y0 y1 y2, LeO (impl_RuneWide.j0 k y0 y1 y2) (impl_RuneWide.j0 (k + 1) y0 y1 y2)) ∧ (∀ y0 y1 y2, LeO (impl_RuneWide.j1 k y0 y1 y2) (impl_RuneWide.j1 (k + 1) y0 y1 y2)) ∧ (∀ y0 y1 y2, LeO (impl_RuneWide.j2 k y0 y1 y2) (impl_RuneWide.j2 (k + 1) y0 y1 y2)) ∧ (∀ y0 y1, LeO (impl_RuneWide.j3 k y0 y1) (impl_RuneWide.j3 (k + 1) y0 y1)) ∧ (∀ y0 y1, LeO (impl_RuneWide.j4 k y0 y1) (impl_RuneWide.j4 (k + 1) y0 y1))
 | 0 => ⟨fun _ _ _ r h => by simp [impl_RuneWide.j0] at h, fun _ _ _ r h => by simp [impl_RuneWide.j1] at h, fun _ _ _ r h => by simp [impl_RuneWide.j2] at h, fun _ _ r h => by simp [impl_RuneWide.j3] at h, fun _ _ r h => by simp [impl_RuneWide.j4] at h⟩
 | k + 1 => by
  obtain ⟨ih0, ih1, ih2, ih3, ih4⟩ := impl_RuneWide.mono_l k
  refine ⟨?_, ?_, ?_, ?_, ?_⟩
  ·intro y0 y1 y2
   unfold impl_RuneWide.j0
   repeat' first
   | (with_reducible exact ih0 _ _ _)
   | (with_reducible exact ih1 _ _ _)
   | (with_reducible exact ih2 _ _ _)
   | (with_reducible exact ih3 _ _)
   | (with_reducible exact ih4 _ _)
   | (with_reducible exact LeO.refl _)
   | (with_reducible exact LeO.none _)
   | (with_reducible refine LeO.ite ?_ ?_)
   | (with_reducible refine LeO.bind ?_ (fun _ => ?_))
   | exact ih0 _ _ _
   | exact ih1 _ _ _
   | exact ih2 _ _ _
   | exact ih3 _ _
   | exact ih4 _ _
   | exact LeO.none _
   | refine LeO.ite ?_ ?_
   | refine LeO.bind ?_ (fun _ => ?_)
  ·intro y0 y1 y2
   unfold impl_RuneWide.j1
   repeat' first
   | (with_reducible exact ih0 _ _ _)
   | (with_reducible exact ih1 _ _ _)
   | (with_reducible exact ih2 _ _ _)
   | (with_reducible exact ih3 _ _)
   | (with_reducible exact ih4 _ _)
   | (with_reducible exact LeO.refl _)
   | (with_reducible exact LeO.none _)
   | (with_reducible refine LeO.ite ?_ ?_)
   | (with_reducible refine LeO.bind ?_ (fun _ => ?_))
   | exact ih0 _ _ _
   | exact ih1 _ _ _
   | exact ih2 _ _ _
   | exact ih3 _ _
   | exact ih4 _ _
   | exact LeO.none _
   | refine LeO.ite ?_ ?_
   | refine LeO.bind ?_ (fun _ => ?_)
  ·intro y0 y1 y2
   unfold impl_RuneWide.j2
   repeat' first
   | (with_reducible exact ih0 _ _ _)
   | (with_reducible exact ih1 _ _ _)
   | (with_reducible exact ih2 _ _ _)
   | (with_reducible exact ih3 _ _)
   | (with_reducible exact ih4 _ _)
   | (with_reducible exact LeO.refl _)
   | (with_reducible exact LeO.none _)
   | (with_reducible refine LeO.ite ?_ ?_)
   | (with_reducible refine LeO.bind ?_ (fun _ => ?_))
   | exact ih0 _ _ _
   | exact ih1 _ _ _
   | exact ih2 _ _ _
   | exact ih3 _ _
   | exact ih4 _ _
   | exact LeO.none _
   | refine LeO.ite ?_ ?_
   | refine LeO.bind ?_ (fun _ => ?_)
  ·intro y0 y1
   unfold impl_RuneWide.j3
   repeat' first
   | (with_reducible exact ih0 _ _ _)
   | (with_reducible exact ih1 _ _ _)
   | (with_reducible exact ih2 _ _ _)
   | (with_reducible exact ih3 _ _)
   | (with_reducible exact ih4 _ _)
   | (with_reducible exact LeO.refl _)
   | (with_reducible exact LeO.none _)
   | (with_reducible refine LeO.ite ?_ ?_)
   | (with_reducible refine LeO.bind ?_ (fun _ => ?_))
   | exact ih0 _ _ _
   | exact ih1 _ _ _
   | exact ih2 _ _ _
   | exact ih3 _ _
   | exact ih4 _ _
   | exact LeO.none _
   | refine LeO.ite ?_ ?_
   | refine LeO.bind ?_ (fun _ => ?_)
  ·intro y0 y1
   unfold impl_RuneWide.j4
   repeat' first
   | (with_reducible exact ih0 _ _ _)
   | (with_reducible exact ih1 _ _ _)
   | (with_reducible exact ih2 _ _ _)
   | (with_reducible exact ih3 _ _)
   | (with_reducible exact ih4 _ _)
   | (with_reducible exact LeO.refl _)
   | (with_reducible exact LeO.none _)
   | (with_reducible refine LeO.ite ?_ ?_)
   | (with_reducible refine LeO.bind ?_ (fun _ => ?_))
   | exact ih0 _ _ _
   | exact ih1 _ _ _
   | exact ih2 _ _ _
   | exact ih3 _ _
   | exact ih4 _ _
   | exact LeO.none _
   | refine LeO.ite ?_ ?_
   | refine LeO.bind ?_ (fun _ => ?_)
theorem impl_RuneWide.mono : ∀ a0 k, LeO (impl_RuneWide.f k a0) (impl_RuneWide.f (k + 1) a0) := by
 intro a0 k
 obtain ⟨ih0, ih1, ih2, ih3, ih4⟩ := impl_RuneWide.mono_l k
 unfold impl_RuneWide.f
 repeat' first
   | (with_reducible exact ih0 _ _ _)
   | (with_reducible exact ih1 _ _ _)
   | (with_reducible exact ih2 _ _ _)
   | (with_reducible exact ih3 _ _)
   | (with_reducible exact ih4 _ _)
   | (with_reducible exact LeO.refl _)
   | (with_reducible exact LeO.none _)
   | (with_reducible refine LeO.ite ?_ ?_)
   | (with_reducible refine LeO.bind ?_ (fun _ => ?_))
   | exact ih0 _ _ _
   | exact ih1 _ _ _
   | exact ih2 _ _ _
   | exact ih3 _ _
   | exact ih4 _ _
   | exact LeO.none _
   | refine LeO.ite ?_ ?_
   | refine LeO.bind ?_ (fun _ => ?_)
set_option maxHeartbeats 8000000 in
set_option maxRecDepth 100000 in
theorem impl_RuneWide.calls (k : Nat) (a0 : Int) (r : Int) (w : World) (h : impl_RuneWide.f k a0 = some r) :
  Calls Try.prog 106 #[.int .i64 a0] w fun e w' => e = .returned (.int .i64 r) ∧ Below w.heap.size w w' := by
 have HB := Aside0.mk (Below.refl w.heap.size w)
 have H : ((impl_RuneBidi.f a0).bind fun t314 => (if t314 = 9 then (impl_RuneWide.j0 k a0 t314 (t314 == 9)) else (if t314 = 10 then (impl_RuneWide.j0 k a0 t314 (t314 == 10)) else (if t314 ≥ 14 then (impl_RuneWide.j0 k a0 t314 (decide (t314 ≥ 14))) else (if a0 = 10 then (impl_RuneWide.j0 k a0 t314 (a0 == 10)) else (impl_RuneWide.j0 k a0 t314 (a0 == 13))))))) = some r := h
 clear h
 replace H := Option.bind_eq_some_iff.mp H
 obtain ⟨t314, A20, H⟩ := H
 replace H : (if t314 = 9 then (impl_RuneWide.j0 k a0 t314 (t314 == 9)) else (if t314 = 10 then (impl_RuneWide.j0 k a0 t314 (t314 == 10)) else (if t314 ≥ 14 then (impl_RuneWide.j0 k a0 t314 (decide (t314 ≥ 14))) else (if a0 = 10 then (impl_RuneWide.j0 k a0 t314 (a0 == 10)) else (impl_RuneWide.j0 k a0 t314 (a0 == 13)))))) = some r := H
 have A2 := Aside0.mk A20
 clear A20
 have HC3 := Aside0.mk H
 clear H
 go_enter Try.func106, Try.ntmps106
 go_upto_if 6 with (first | ((with_reducible refine gate_callee (f := 128) rfl ?_); refine goesL_ (some 5) rfl rfl Try.func128 (by kernel_rfl) rfl #[.int .i64 a0] rfl (by (try simp only [List.map_toArray, List.map_cons, List.map_nil]); first | done | rfl | (simp only [List.length_drop, List.length_take]; rfl)) ?_; (with_reducible refine (impl_RuneBidi.calls a0 t314 _ A2.out).mono ?_); rintro e w4 ⟨rfl, hb⟩; refine ⟨_, rfl, ?_⟩; have n0_ := Aside0.mk (below_step (by repeat (first | (with_reducible first | exact HB.out | apply below_alloc | apply pw_below_drewN | apply below_drew1) | exact HB.out)) hb); clear HB; have HB := n0_; clear n0_; (try clear hb); (try clear hb2); (try clear hk); (try clear hi)))
 (try simp only [Act.put, List.setIfInBounds_toArray, List.set_cons_zero, List.set_cons_succ])
 go_cut [6] (fun v6 wc => ∃ (kq : Nat) (x6_2 : Bool), v6 = .bool x6_2 ∧ Aside0 (impl_RuneWide.j0 kq a0 t314 x6_2 = some r) ∧ Aside0 (kq ≤ k) ∧ Aside0 (Below w.heap.size w wc))
 case first =>
  have H := HC3.out
  clear HC3
  by_cases c5 : t314 = 9
  ·rw [if_pos c5] at H
   have c5b0 : (t314 == 9) = true := beq_iff_eq.mpr c5
   have c5b1 : (t314 != 9) = false := bne_eq_false_iff_eq.mpr c5
   clear c5
   (first | rw [c5b0] | (simp only [i64_w, i32_w]; rw [c5b0]) | skip)
   have H' := Aside0.mk H
   clear H
   go_wp2
   go_meet
   case rel => exact ⟨_, ((t314 == 9)), (by first | rfl | (simp; done) | (simp [*]; done)), H', ⟨by first | omega | exact Nat.le_refl _⟩, ⟨by repeat (first | (with_reducible first | exact HB.out | apply below_alloc | apply pw_below_drewN | apply below_drew1) | exact HB.out)⟩⟩
  ·rw [if_neg c5] at H
   have c5b0 : (t314 == 9) = false := beq_eq_false_iff_ne.mpr c5
   have c5b1 : (t314 != 9) = true := bne_iff_ne.mpr c5
   (first | rw [c5b0] | (simp only [i64_w, i32_w]; rw [c5b0]) | skip)
   by_cases c6 : t314 = 10
   ·rw [if_pos c6] at H
    have c6b0 : (t314 == 10) = true := beq_iff_eq.mpr c6
    have c6b1 : (t314 != 10) = false := bne_eq_false_iff_eq.mpr c6
    clear c6
    have H' := Aside0.mk H
    clear H
    go_wp2
    go_meet
    case rel => exact ⟨_, ((t314 == 10)), (by first | rfl | (simp; done) | (simp [*]; done)), H', ⟨by first | omega | exact Nat.le_refl _⟩, ⟨by repeat (first | (with_reducible first | exact HB.out | apply below_alloc | apply pw_below_drewN | apply below_drew1) | exact HB.out)⟩⟩
   ·rw [if_neg c6] at H
    have c6b0 : (t314 == 10) = false := beq_eq_false_iff_ne.mpr c6
    have c6b1 : (t314 != 10) = true := bne_iff_ne.mpr c6
    by_cases c7 : t314 ≥ 14
    ·rw [if_pos c7] at H
     have c7b0 : decide (14 ≤ t314) = true := decide_eq_true c7
     clear c7
     have H' := Aside0.mk H
     clear H
     go_wp2
     go_meet
     case rel => exact ⟨_, (decide (t314 ≥ 14)), (by first | rfl | (simp; done) | (simp [*]; done)), H', ⟨by first | omega | exact Nat.le_refl _⟩, ⟨by repeat (first | (with_reducible first | exact HB.out | apply below_alloc | apply pw_below_drewN | apply below_drew1) | exact HB.out)⟩⟩
    ·rw [if_neg c7] at H
     have c7b0 : decide (14 ≤ t314) = false := decide_eq_false c7
     clear c7
     by_cases c8 : a0 = 10
     ·rw [if_pos c8] at H
      have c8b0 : (a0 == 10) = true := beq_iff_eq.mpr c8
      have c8b1 : (a0 != 10) = false := bne_eq_false_iff_eq.mpr c8
      clear c8
      have H' := Aside0.mk H
      clear H
      go_wp2
      go_meet
      case rel => exact ⟨_, ((a0 == 10)), (by first | rfl | (simp; done) | (simp [*]; done)), H', ⟨by first | omega | exact Nat.le_refl _⟩, ⟨by repeat (first | (with_reducible first | exact HB.out | apply below_alloc | apply pw_below_drewN | apply below_drew1) | exact HB.out)⟩⟩
     ·rw [if_neg c8] at H
      have c8b0 : (a0 == 10) = false := beq_eq_false_iff_ne.mpr c8
      have c8b1 : (a0 != 10) = true := bne_iff_ne.mpr c8
      have H' := Aside0.mk H
      clear H
      go_wp2
      go_meet
      case rel => exact ⟨_, ((a0 == 13)), (by first | rfl | (simp; done) | (simp [*]; done)), H', ⟨by first | omega | exact Nat.le_refl _⟩, ⟨by repeat (first | (with_reducible first | exact HB.out | apply below_alloc | apply pw_below_drewN | apply below_drew1) | exact HB.out)⟩⟩
 case rest =>
  clear HC3
  try clear c1
  try clear p2
  try clear c5
  try clear c5b0
  try clear c5b1
  try clear c6
  try clear c6b0
  try clear c6b1
  try clear c7
  try clear c7b0
  try clear c8
  try clear c8b0
  try clear c8b1
  obtain ⟨kq, x6_2, rfl, HA, HJ2, HB⟩ := hcut
  cases kq with
  | zero => exact absurd HA.out (by simp [impl_RuneWide.j0])
  | succ kj2 =>
   have H := HA.out
   clear HA
   simp only [impl_RuneWide.j0] at H
   by_cases c9 : x6_2 = true
   ·subst c9
    have H1 : (some 0) = some r := by rw [if_pos rfl] at H; exact H
    clear H
    have H := H1
    clear H1
    obtain rfl := Option.some.inj H
    go_wp2
    go_ret
    exact ⟨by first | rfl | (simp [errW_none, errW_some] <;> rfl) | (simp [*, errW_none, errW_some] <;> rfl), by repeat (first | (with_reducible first | exact HB.out | apply below_alloc | apply pw_below_drewN | apply below_drew1) | exact HB.out)⟩
   ·replace c9 := Bool.eq_false_iff.mpr c9
    subst c9
    have H1 : (if a0 = 105 then (impl_RuneWide.j1 kj2 a0 t314 (a0 == 105)) else (if a0 = 106 then (impl_RuneWide.j1 kj2 a0 t314 (a0 == 106)) else (if a0 = 108 then (impl_RuneWide.j1 kj2 a0 t314 (a0 == 108)) else (if a0 = 102 then (impl_RuneWide.j1 kj2 a0 t314 (a0 == 102)) else (impl_RuneWide.j1 kj2 a0 t314 (a0 == 116)))))) = some r := by rw [if_neg (show ¬ (false = true) by decide)] at H; exact H
    clear H
    have H := H1
    clear H1
    have HC10 := Aside0.mk H
    clear H
    go_upto_if 17 with (fail)
    go_cut [17] (fun v17 wc => ∃ (kq : Nat) (x17_9 : Bool), v17 = .bool x17_9 ∧ Aside0 (impl_RuneWide.j1 kq a0 t314 x17_9 = some r) ∧ Aside0 (kq ≤ kj2) ∧ Aside0 (Below w.heap.size w wc))
    case first =>
     have H := HC10.out
     clear HC10
     by_cases c11 : a0 = 105
     ·rw [if_pos c11] at H
      have c11b0 : (a0 == 105) = true := beq_iff_eq.mpr c11
      have c11b1 : (a0 != 105) = false := bne_eq_false_iff_eq.mpr c11
      clear c11
      (first | rw [c11b0] | (simp only [i64_w, i32_w]; rw [c11b0]) | skip)
      have H' := Aside0.mk H
      clear H
      go_wp2
      go_meet
      case rel => exact ⟨_, ((a0 == 105)), (by first | rfl | (simp; done) | (simp [*]; done)), H', ⟨by have := HJ2.out; first | omega | exact Nat.le_refl _⟩, ⟨by repeat (first | (with_reducible first | exact HB.out | apply below_alloc | apply pw_below_drewN | apply below_drew1) | exact HB.out)⟩⟩
     ·rw [if_neg c11] at H
      have c11b0 : (a0 == 105) = false := beq_eq_false_iff_ne.mpr c11
      have c11b1 : (a0 != 105) = true := bne_iff_ne.mpr c11
      (first | rw [c11b0] | (simp only [i64_w, i32_w]; rw [c11b0]) | skip)
      by_cases c12 : a0 = 106
      ·rw [if_pos c12] at H
       have c12b0 : (a0 == 106) = true := beq_iff_eq.mpr c12
       have c12b1 : (a0 != 106) = false := bne_eq_false_iff_eq.mpr c12
       clear c12
       have H' := Aside0.mk H
       clear H
       go_wp2
       go_meet
       case rel => exact ⟨_, ((a0 == 106)), (by first | rfl | (simp; done) | (simp [*]; done)), H', ⟨by have := HJ2.out; first | omega | exact Nat.le_refl _⟩, ⟨by repeat (first | (with_reducible first | exact HB.out | apply below_alloc | apply pw_below_drewN | apply below_drew1) | exact HB.out)⟩⟩
      ·rw [if_neg c12] at H
       have c12b0 : (a0 == 106) = false := beq_eq_false_iff_ne.mpr c12
       have c12b1 : (a0 != 106) = true := bne_iff_ne.mpr c12
       by_cases c13 : a0 = 108
       ·rw [if_pos c13] at H
        have c13b0 : (a0 == 108) = true := beq_iff_eq.mpr c13
        have c13b1 : (a0 != 108) = false := bne_eq_false_iff_eq.mpr c13
        clear c13
        have H' := Aside0.mk H
        clear H
        go_wp2
        go_meet
        case rel => exact ⟨_, ((a0 == 108)), (by first | rfl | (simp; done) | (simp [*]; done)), H', ⟨by have := HJ2.out; first | omega | exact Nat.le_refl _⟩, ⟨by repeat (first | (with_reducible first | exact HB.out | apply below_alloc | apply pw_below_drewN | apply below_drew1) | exact HB.out)⟩⟩
       ·rw [if_neg c13] at H
        have c13b0 : (a0 == 108) = false := beq_eq_false_iff_ne.mpr c13
        have c13b1 : (a0 != 108) = true := bne_iff_ne.mpr c13
        by_cases c14 : a0 = 102
        ·rw [if_pos c14] at H
         have c14b0 : (a0 == 102) = true := beq_iff_eq.mpr c14
         have c14b1 : (a0 != 102) = false := bne_eq_false_iff_eq.mpr c14
         clear c14
         have H' := Aside0.mk H
         clear H
         go_wp2
         go_meet
         case rel => exact ⟨_, ((a0 == 102)), (by first | rfl | (simp; done) | (simp [*]; done)), H', ⟨by have := HJ2.out; first | omega | exact Nat.le_refl _⟩, ⟨by repeat (first | (with_reducible first | exact HB.out | apply below_alloc | apply pw_below_drewN | apply below_drew1) | exact HB.out)⟩⟩
        ·rw [if_neg c14] at H
         have c14b0 : (a0 == 102) = false := beq_eq_false_iff_ne.mpr c14
         have c14b1 : (a0 != 102) = true := bne_iff_ne.mpr c14
         have H' := Aside0.mk H
         clear H
         go_wp2
         go_meet
         case rel => exact ⟨_, ((a0 == 116)), (by first | rfl | (simp; done) | (simp [*]; done)), H', ⟨by have := HJ2.out; first | omega | exact Nat.le_refl _⟩, ⟨by repeat (first | (with_reducible first | exact HB.out | apply below_alloc | apply pw_below_drewN | apply below_drew1) | exact HB.out)⟩⟩
    case rest =>
     clear HC10
     try clear c1
     try clear p2
     try clear c5
     try clear c5b0
     try clear c5b1
     try clear c6
     try clear c6b0
     try clear c6b1
     try clear c7
     try clear c7b0
     try clear c8
     try clear c8b0
     try clear c8b1
     try clear c9
     try clear c10
     try clear c11
     try clear c11b0
     try clear c11b1
     try clear c12
     try clear c12b0
     try clear c12b1
     try clear c13
     try clear c13b0
     try clear c13b1
     try clear c14
     try clear c14b0
     try clear c14b1
     try clear p2
     obtain ⟨kq, x17_9, rfl, HA, HJ9, HB⟩ := hcut
     cases kq with
     | zero => exact absurd HA.out (by simp [impl_RuneWide.j1])
     | succ kj9 =>
      have H := HA.out
      clear HA
      simp only [impl_RuneWide.j1] at H
      by_cases c15 : x17_9 = true
      ·subst c15
       have H1 : (some 6) = some r := by rw [if_pos rfl] at H; exact H
       clear H
       have H := H1
       clear H1
       obtain rfl := Option.some.inj H
       go_wp2
       go_ret
       exact ⟨by first | rfl | (simp [errW_none, errW_some] <;> rfl) | (simp [*, errW_none, errW_some] <;> rfl), by repeat (first | (with_reducible first | exact HB.out | apply below_alloc | apply pw_below_drewN | apply below_drew1) | exact HB.out)⟩
      ·replace c15 := Bool.eq_false_iff.mpr c15
       subst c15
       have H1 : (if a0 = 109 then (impl_RuneWide.j2 kj9 a0 t314 (a0 == 109)) else (impl_RuneWide.j2 kj9 a0 t314 (a0 == 119))) = some r := by rw [if_neg (show ¬ (false = true) by decide)] at H; exact H
       clear H
       have H := H1
       clear H1
       have HC16 := Aside0.mk H
       clear H
       go_upto_if 28 with (fail)
       go_cut [28] (fun v28 wc => ∃ (kq : Nat) (x28_15 : Bool), v28 = .bool x28_15 ∧ Aside0 (impl_RuneWide.j2 kq a0 t314 x28_15 = some r) ∧ Aside0 (kq ≤ kj9) ∧ Aside0 (Below w.heap.size w wc))
       case first =>
        have H := HC16.out
        clear HC16
        by_cases c17 : a0 = 109
        ·rw [if_pos c17] at H
         have c17b0 : (a0 == 109) = true := beq_iff_eq.mpr c17
         have c17b1 : (a0 != 109) = false := bne_eq_false_iff_eq.mpr c17
         clear c17
         (first | rw [c17b0] | (simp only [i64_w, i32_w]; rw [c17b0]) | skip)
         have H' := Aside0.mk H
         clear H
         go_wp2
         go_meet
         case rel => exact ⟨_, ((a0 == 109)), (by first | rfl | (simp; done) | (simp [*]; done)), H', ⟨by have := HJ2.out; have := HJ9.out; first | omega | exact Nat.le_refl _⟩, ⟨by repeat (first | (with_reducible first | exact HB.out | apply below_alloc | apply pw_below_drewN | apply below_drew1) | exact HB.out)⟩⟩
        ·rw [if_neg c17] at H
         have c17b0 : (a0 == 109) = false := beq_eq_false_iff_ne.mpr c17
         have c17b1 : (a0 != 109) = true := bne_iff_ne.mpr c17
         (first | rw [c17b0] | (simp only [i64_w, i32_w]; rw [c17b0]) | skip)
         have H' := Aside0.mk H
         clear H
         go_wp2
         go_meet
         case rel => exact ⟨_, ((a0 == 119)), (by first | rfl | (simp; done) | (simp [*]; done)), H', ⟨by have := HJ2.out; have := HJ9.out; first | omega | exact Nat.le_refl _⟩, ⟨by repeat (first | (with_reducible first | exact HB.out | apply below_alloc | apply pw_below_drewN | apply below_drew1) | exact HB.out)⟩⟩
       case rest =>
        clear HC16
        try clear c1
        try clear p2
        try clear c5
        try clear c5b0
        try clear c5b1
        try clear c6
        try clear c6b0
        try clear c6b1
        try clear c7
        try clear c7b0
        try clear c8
        try clear c8b0
        try clear c8b1
        try clear c9
        try clear c10
        try clear c11
        try clear c11b0
        try clear c11b1
        try clear c12
        try clear c12b0
        try clear c12b1
        try clear c13
        try clear c13b0
        try clear c13b1
        try clear c14
        try clear c14b0
        try clear c14b1
        try clear c15
        try clear c17
        try clear c17b0
        try clear c17b1
        try clear p2
        obtain ⟨kq, x28_15, rfl, HA, HJ15, HB⟩ := hcut
        cases kq with
        | zero => exact absurd HA.out (by simp [impl_RuneWide.j2])
        | succ kj15 =>
         have H := HA.out
         clear HA
         simp only [impl_RuneWide.j2] at H
         by_cases c18 : x28_15 = true
         ·subst c18
          have H1 : (some 16) = some r := by rw [if_pos rfl] at H; exact H
          clear H
          have H := H1
          clear H1
          obtain rfl := Option.some.inj H
          go_wp2
          go_ret
          exact ⟨by first | rfl | (simp [errW_none, errW_some] <;> rfl) | (simp [*, errW_none, errW_some] <;> rfl), by repeat (first | (with_reducible first | exact HB.out | apply below_alloc | apply pw_below_drewN | apply below_drew1) | exact HB.out)⟩
         ·replace c18 := Bool.eq_false_iff.mpr c18
          subst c18
          have H1 : (if a0 ≥ 19968 then (impl_RuneWide.j3 kj15 t314 (decide (a0 ≤ 40959))) else (impl_RuneWide.j3 kj15 t314 false)) = some r := by rw [if_neg (show ¬ (false = true) by decide)] at H; exact H
          clear H
          have H := H1
          clear H1
          have HC19 := Aside0.mk H
          clear H
          go_upto_region 17 with (fail)
          go_cut [33] (fun v33 wc => ∃ (kq : Nat) (x33_18 : Bool), v33 = .bool x33_18 ∧ Aside0 (impl_RuneWide.j3 kq t314 x33_18 = some r) ∧ Aside0 (kq ≤ kj15) ∧ Aside0 (Below w.heap.size w wc))
          case first =>
           have H := HC19.out
           clear HC19
           by_cases c20 : a0 ≥ 19968
           ·rw [if_pos c20] at H
            have c20b0 : decide (19968 ≤ a0) = true := decide_eq_true c20
            clear c20
            (first | rw [c20b0] | (simp only [i64_w, i32_w]; rw [c20b0]) | skip)
            have H' := Aside0.mk H
            clear H
            go_wp2
            go_meet
            case rel => exact ⟨_, (decide (a0 ≤ 40959)), (by first | rfl | (simp; done) | (simp [*]; done)), H', ⟨by have := HJ2.out; have := HJ9.out; have := HJ15.out; first | omega | exact Nat.le_refl _⟩, ⟨by repeat (first | (with_reducible first | exact HB.out | apply below_alloc | apply pw_below_drewN | apply below_drew1) | exact HB.out)⟩⟩
           ·rw [if_neg c20] at H
            have c20b0 : decide (19968 ≤ a0) = false := decide_eq_false c20
            clear c20
            (first | rw [c20b0] | (simp only [i64_w, i32_w]; rw [c20b0]) | skip)
            have H' := Aside0.mk H
            clear H
            go_wp2
            go_meet
            case rel => exact ⟨_, (false), (by first | rfl | (simp; done) | (simp [*]; done)), H', ⟨by have := HJ2.out; have := HJ9.out; have := HJ15.out; first | omega | exact Nat.le_refl _⟩, ⟨by repeat (first | (with_reducible first | exact HB.out | apply below_alloc | apply pw_below_drewN | apply below_drew1) | exact HB.out)⟩⟩
          case rest =>
           clear HC19
           try clear c1
           try clear c2
           try clear p2
           try clear c5
           try clear c5b0
           try clear c5b1
           try clear c6
           try clear c6b0
           try clear c6b1
           try clear c7
           try clear c7b0
           try clear c8
           try clear c8b0
           try clear c8b1
           try clear c9
           try clear c10
           try clear c11
           try clear c11b0
           try clear c11b1
           try clear c12
           try clear c12b0
           try clear c12b1
           try clear c13
           try clear c13b0
           try clear c13b1
           try clear c14
           try clear c14b0
           try clear c14b1
           try clear c15
           try clear c17
           try clear c17b0
           try clear c17b1
           try clear c18
           try clear c20
           try clear c20b0
           try clear p2
           obtain ⟨kq, x33_18, rfl, HA, HJ18, HB⟩ := hcut
           cases kq with
           | zero => exact absurd HA.out (by simp [impl_RuneWide.j3])
           | succ kj18 =>
            have H := HA.out
            clear HA
            simp only [impl_RuneWide.j3] at H
            by_cases c21 : x33_18 = true
            ·subst c21
             have H1 : (some 20) = some r := by rw [if_pos rfl] at H; exact H
             clear H
             have H := H1
             clear H1
             obtain rfl := Option.some.inj H
             go_wp2
             go_ret
             exact ⟨by first | rfl | (simp [errW_none, errW_some] <;> rfl) | (simp [*, errW_none, errW_some] <;> rfl), by repeat (first | (with_reducible first | exact HB.out | apply below_alloc | apply pw_below_drewN | apply below_drew1) | exact HB.out)⟩
            ·replace c21 := Bool.eq_false_iff.mpr c21
             subst c21
             have H1 : (if t314 = 2 then (impl_RuneWide.j4 kj18 t314 (t314 == 2)) else (impl_RuneWide.j4 kj18 t314 (t314 == 3))) = some r := by rw [if_neg (show ¬ (false = true) by decide)] at H; exact H
             clear H
             have H := H1
             clear H1
             have HC22 := Aside0.mk H
             clear H
             go_upto_if 40 with (fail)
             go_cut [40] (fun v40 wc => ∃ (kq : Nat) (x40_21 : Bool), v40 = .bool x40_21 ∧ Aside0 (impl_RuneWide.j4 kq t314 x40_21 = some r) ∧ Aside0 (kq ≤ kj18) ∧ Aside0 (Below w.heap.size w wc))
             case first =>
              have H := HC22.out
              clear HC22
              by_cases c23 : t314 = 2
              ·rw [if_pos c23] at H
               have c23b0 : (t314 == 2) = true := beq_iff_eq.mpr c23
               have c23b1 : (t314 != 2) = false := bne_eq_false_iff_eq.mpr c23
               clear c23
               (first | rw [c23b0] | (simp only [i64_w, i32_w]; rw [c23b0]) | skip)
               have H' := Aside0.mk H
               clear H
               go_wp2
               go_meet
               case rel => exact ⟨_, ((t314 == 2)), (by first | rfl | (simp; done) | (simp [*]; done)), H', ⟨by have := HJ2.out; have := HJ9.out; have := HJ15.out; have := HJ18.out; first | omega | exact Nat.le_refl _⟩, ⟨by repeat (first | (with_reducible first | exact HB.out | apply below_alloc | apply pw_below_drewN | apply below_drew1) | exact HB.out)⟩⟩
              ·rw [if_neg c23] at H
               have c23b0 : (t314 == 2) = false := beq_eq_false_iff_ne.mpr c23
               have c23b1 : (t314 != 2) = true := bne_iff_ne.mpr c23
               (first | rw [c23b0] | (simp only [i64_w, i32_w]; rw [c23b0]) | skip)
               have H' := Aside0.mk H
               clear H
               go_wp2
               go_meet
               case rel => exact ⟨_, ((t314 == 3)), (by first | rfl | (simp; done) | (simp [*]; done)), H', ⟨by have := HJ2.out; have := HJ9.out; have := HJ15.out; have := HJ18.out; first | omega | exact Nat.le_refl _⟩, ⟨by repeat (first | (with_reducible first | exact HB.out | apply below_alloc | apply pw_below_drewN | apply below_drew1) | exact HB.out)⟩⟩
             case rest =>
              clear HC22
              try clear c1
              try clear c2
              try clear p2
              try clear c5
              try clear c5b0
              try clear c5b1
              try clear c6
              try clear c6b0
              try clear c6b1
              try clear c7
              try clear c7b0
              try clear c8
              try clear c8b0
              try clear c8b1
              try clear c9
              try clear c10
              try clear c11
              try clear c11b0
              try clear c11b1
              try clear c12
              try clear c12b0
              try clear c12b1
              try clear c13
              try clear c13b0
              try clear c13b1
              try clear c14
              try clear c14b0
              try clear c14b1
              try clear c15
              try clear c17
              try clear c17b0
              try clear c17b1
              try clear c18
              try clear c20
              try clear c20b0
              try clear c21
              try clear c23
              try clear c23b0
              try clear c23b1
              try clear p2
              obtain ⟨kq, x40_21, rfl, HA, HJ21, HB⟩ := hcut
              cases kq with
              | zero => exact absurd HA.out (by simp [impl_RuneWide.j4])
              | succ kj21 =>
               have H := HA.out
               clear HA
               simp only [impl_RuneWide.j4] at H
               by_cases c24 : x40_21 = true
               ·subst c24
                have H1 : (some 12) = some r := by rw [if_pos rfl] at H; exact H
                clear H
                have H := H1
                clear H1
                obtain rfl := Option.some.inj H
                go_wp2
                go_ret
                exact ⟨by first | rfl | (simp [errW_none, errW_some] <;> rfl) | (simp [*, errW_none, errW_some] <;> rfl), by repeat (first | (with_reducible first | exact HB.out | apply below_alloc | apply pw_below_drewN | apply below_drew1) | exact HB.out)⟩
               ·replace c24 := Bool.eq_false_iff.mpr c24
                subst c24
                have H1 : (if t314 = 11 then (some 40) else (if t314 = 12 then (some 6) else (if t314 = 8 then (some 6) else (some 10)))) = some r := by rw [if_neg (show ¬ (false = true) by decide)] at H; exact H
                clear H
                have H := H1
                clear H1
                by_cases c25 : t314 = 11
                ·rw [if_pos c25] at H
                 have c25b0 : (t314 == 11) = true := beq_iff_eq.mpr c25
                 have c25b1 : (t314 != 11) = false := bne_eq_false_iff_eq.mpr c25
                 clear c25
                 obtain rfl := Option.some.inj H
                 go_wp2
                 go_ret
                 exact ⟨by first | rfl | (simp [errW_none, errW_some] <;> rfl) | (simp [*, errW_none, errW_some] <;> rfl), by repeat (first | (with_reducible first | exact HB.out | apply below_alloc | apply pw_below_drewN | apply below_drew1) | exact HB.out)⟩
                ·rw [if_neg c25] at H
                 have c25b0 : (t314 == 11) = false := beq_eq_false_iff_ne.mpr c25
                 have c25b1 : (t314 != 11) = true := bne_iff_ne.mpr c25
                 by_cases c26 : t314 = 12
                 ·rw [if_pos c26] at H
                  have c26b0 : (t314 == 12) = true := beq_iff_eq.mpr c26
                  have c26b1 : (t314 != 12) = false := bne_eq_false_iff_eq.mpr c26
                  clear c26
                  obtain rfl := Option.some.inj H
                  go_wp2
                  go_ret
                  exact ⟨by first | rfl | (simp [errW_none, errW_some] <;> rfl) | (simp [*, errW_none, errW_some] <;> rfl), by repeat (first | (with_reducible first | exact HB.out | apply below_alloc | apply pw_below_drewN | apply below_drew1) | exact HB.out)⟩
                 ·rw [if_neg c26] at H
                  have c26b0 : (t314 == 12) = false := beq_eq_false_iff_ne.mpr c26
                  have c26b1 : (t314 != 12) = true := bne_iff_ne.mpr c26
                  by_cases c27 : t314 = 8
                  ·rw [if_pos c27] at H
                   have c27b0 : (t314 == 8) = true := beq_iff_eq.mpr c27
                   have c27b1 : (t314 != 8) = false := bne_eq_false_iff_eq.mpr c27
                   clear c27
                   obtain rfl := Option.some.inj H
                   go_wp2
                   go_ret
                   exact ⟨by first | rfl | (simp [errW_none, errW_some] <;> rfl) | (simp [*, errW_none, errW_some] <;> rfl), by repeat (first | (with_reducible first | exact HB.out | apply below_alloc | apply pw_below_drewN | apply below_drew1) | exact HB.out)⟩
                  ·rw [if_neg c27] at H
                   have c27b0 : (t314 == 8) = false := beq_eq_false_iff_ne.mpr c27
                   have c27b1 : (t314 != 8) = true := bne_iff_ne.mpr c27
                   obtain rfl := Option.some.inj H
                   go_wp2
                   go_ret
                   exact ⟨by first | rfl | (simp [errW_none, errW_some] <;> rfl) | (simp [*, errW_none, errW_some] <;> rfl), by repeat (first | (with_reducible first | exact HB.out | apply below_alloc | apply pw_below_drewN | apply below_drew1) | exact HB.out)⟩

/-! ### impl_body: function 109 -/
def impl_body.l0 : Nat → List Int → Int → Int → Option (Int)
 | 0, _, _, _ => none
 | k + 1, x0, x1, x2 => if x2 > x1 then (if 0 ≤ (wrap64 (x2 - 1)) then (if (wrap64 (x2 - 1)) < (x0.length : Int) then (if (rd x0 (wrap64 (x2 - 1))) = 32 then (impl_body.l0 k x0 x1 (wrap64 (x2 - 1))) else (if (rd x0 (wrap64 (x2 - 1))) = 10 then (impl_body.l0 k x0 x1 (wrap64 (x2 - 1))) else ((impl_RuneWide.f k (rd x0 (wrap64 (x2 - 1)))).bind fun t318 => (if t318 = 0 then (impl_body.l0 k x0 x1 (wrap64 (x2 - 1))) else (some x2))))) else (none)) else (none)) else (some x2)
def impl_body.f (k : Nat) (l0 : List Int) (a1 : Int) (a2 : Int) : Option (Int) := impl_body.l0 k l0 a1 a2
theorem impl_body.mono_l : ∀ k, (∀ y0 y1 y2, LeO (impl_body.l0 k y0 y1 y2) (impl_body.l0 (k + 1) y0 y1 y2))
 | 0 => fun _ _ _ r h => by simp [impl_body.l0] at h
 | k + 1 => by
  have ih0 := impl_body.mono_l k
  ·intro y0 y1 y2
   unfold impl_body.l0
   repeat' first
   | (with_reducible exact ih0 _ _ _)
   | (with_reducible exact impl_RuneWide.mono _ _)
   | (with_reducible exact LeO.refl _)
   | (with_reducible exact LeO.none _)
   | (with_reducible refine LeO.ite ?_ ?_)
   | (with_reducible refine LeO.bind ?_ (fun _ => ?_))
   | exact ih0 _ _ _
   | exact impl_RuneWide.mono _ _
   | exact LeO.none _
   | refine LeO.ite ?_ ?_
   | refine LeO.bind ?_ (fun _ => ?_)
theorem impl_body.mono : ∀ a0 a1 a2 k, LeO (impl_body.f k a0 a1 a2) (impl_body.f (k + 1) a0 a1 a2) := by
 intro a0 a1 a2 k
 have ih0 := impl_body.mono_l k
 unfold impl_body.f
 repeat' first
   | (with_reducible exact ih0 _ _ _)
   | (with_reducible exact impl_RuneWide.mono _ _)
   | (with_reducible exact LeO.refl _)
   | (with_reducible exact LeO.none _)
   | (with_reducible refine LeO.ite ?_ ?_)
   | (with_reducible refine LeO.bind ?_ (fun _ => ?_))
   | exact ih0 _ _ _
   | exact impl_RuneWide.mono _ _
   | exact LeO.none _
   | refine LeO.ite ?_ ?_
   | refine LeO.bind ?_ (fun _ => ?_)
set_option maxHeartbeats 8000000 in
set_option maxRecDepth 100000 in
theorem impl_body.calls (k : Nat) (A0 : Option Addr) (c0 : Nat) (l0 : List Int) (a1 : Int) (a2 : Int) (r : Int) (w : World) (hr0 : Kd.C (Kd.int .i64) w A0 l0.length l0) (hc0 : l0.length ≤ c0) (h : impl_body.f k l0 a1 a2 = some r) :
  Calls Try.prog 109 #[.slice A0 l0.length c0, .int .i64 a1, .int .i64 a2] w fun e w' => e = .returned (.int .i64 r) ∧ Below w.heap.size w w' := by
 have HR0 := Aside0.mk hr0
 have HC0 := Aside0.mk hc0
 clear hr0 hc0
 have HB := Aside0.mk (Below.refl w.heap.size w)
 have H : (impl_body.l0 k l0 a1 a2) = some r := h
 clear h
 have H' := Aside0.mk H
 clear H
 go_enter Try.func109, Try.ntmps109
 go_wp2
 go_loopg [2] k (fun kq v2 w' => ∃ (x2_1 : Int), v2 = .int .i64 x2_1 ∧ Aside0 (impl_body.l0 kq l0 a1 x2_1 = some r) ∧ Aside0 (kq ≤ k) ∧ Aside0 (Below w.heap.size w w'))
 case atStart => exact ⟨(a2), (by first | rfl | (simp; done) | (simp [*]; done)), H', ⟨Nat.le_refl _⟩, ⟨by repeat (first | (with_reducible first | exact HB.out | apply below_alloc | apply pw_below_drewN | apply below_drew1) | exact HB.out)⟩⟩
 case round =>
  clear H'
  try clear c1
  try clear p2
  obtain ⟨x2_1, rfl, HA, HK1, HB⟩ := hrel
  cases gk with
  | zero => exact absurd HA.out (by simp [impl_body.l0])
  | succ k1 =>
   have H := HA.out
   clear HA
   simp only [impl_body.l0] at H
   by_cases c4 : x2_1 > a1
   ·rw [if_pos c4] at H
    have c4b0 : decide (a1 < x2_1) = true := decide_eq_true c4
    clear c4
    obtain ⟨ji5, hji5⟩ : ∃ j_ : Int, (wrap64 (x2_1 - 1)) = j_ := ⟨_, rfl⟩
    replace H : (if 0 ≤ (ji5) then (if (ji5) < (l0.length : Int) then (if (rd l0 (ji5)) = 32 then (impl_body.l0 k1 l0 a1 ji5) else (if (rd l0 (ji5)) = 10 then (impl_body.l0 k1 l0 a1 ji5) else ((impl_RuneWide.f k1 (rd l0 (ji5))).bind fun t318 => (if t318 = 0 then (impl_body.l0 k1 l0 a1 ji5) else (some x2_1))))) else (none)) else (none)) = some r := by first | (rw [hji5] at H; exact H) | (simp only [hji5] at H ⊢; exact H)
    have hji5w : (IntKind.i64.wrap (x2_1 - 1)) = ji5 := (i64_w _).trans hji5
    by_cases c6 : 0 ≤ (ji5)
    ·rw [if_pos c6] at H
     have c6b0 : decide (0 ≤ (ji5)) = true := decide_eq_true c6
     clear c6
     by_cases c7 : (ji5) < (l0.length : Int)
     ·rw [if_pos c7] at H
      have c7b0 : decide ((ji5) < (l0.length : Int)) = true := decide_eq_true c7
      clear c7
      by_cases c8 : (rd l0 (ji5)) = 32
      ·rw [if_pos c8] at H
       have c8b0 : ((rd l0 (ji5)) == 32) = true := beq_iff_eq.mpr c8
       have c8b1 : ((rd l0 (ji5)) != 32) = false := bne_eq_false_iff_eq.mpr c8
       clear c8
       have H' := Aside0.mk H
       clear H
       have p315 : 0 ≤ ((ji5) : Int) := of_decide_eq_true (by first | (with_reducible assumption) | assumption)
       have q315 : (ji5) < (l0.length : Int) := of_decide_eq_true (by first | (with_reducible assumption) | assumption)
       obtain ⟨ad315, e315, hx315_0⟩ := Kd.at_int HR0.out (ji5) p315 q315
       cases e315
       replace hx315_0 := (HB.out.cell (World.block_lt_of_cell? w _ hx315_0)).trans hx315_0
       replace p315 := eq_true p315
       replace q315 := eq_true q315
       go_wp2
       go_roundg k1
       case measure => have := HK1.out; omega
       case rel => exact ⟨(ji5), (by first | rfl | (simp; done) | (simp only [← hji5] <;> (first | rfl | simp)) | (simp [*]; done)), (by first | exact H' | (simp only [hji5]; exact H') | (simp only [hji5]; exact H')), ⟨by have := HK1.out; omega⟩, ⟨by repeat (first | (with_reducible first | exact HB.out | apply below_alloc | apply pw_below_drewN | apply below_drew1) | exact HB.out)⟩⟩
      ·rw [if_neg c8] at H
       have c8b0 : ((rd l0 (ji5)) == 32) = false := beq_eq_false_iff_ne.mpr c8
       have c8b1 : ((rd l0 (ji5)) != 32) = true := bne_iff_ne.mpr c8
       by_cases c9 : (rd l0 (ji5)) = 10
       ·rw [if_pos c9] at H
        have c9b0 : ((rd l0 (ji5)) == 10) = true := beq_iff_eq.mpr c9
        have c9b1 : ((rd l0 (ji5)) != 10) = false := bne_eq_false_iff_eq.mpr c9
        clear c9
        have H' := Aside0.mk H
        clear H
        have p315 : 0 ≤ ((ji5) : Int) := of_decide_eq_true (by first | (with_reducible assumption) | assumption)
        have q315 : (ji5) < (l0.length : Int) := of_decide_eq_true (by first | (with_reducible assumption) | assumption)
        obtain ⟨ad315, e315, hx315_0⟩ := Kd.at_int HR0.out (ji5) p315 q315
        cases e315
        replace hx315_0 := (HB.out.cell (World.block_lt_of_cell? w _ hx315_0)).trans hx315_0
        replace p315 := eq_true p315
        replace q315 := eq_true q315
        have p316 : 0 ≤ ((ji5) : Int) := of_decide_eq_true (by first | (with_reducible assumption) | assumption)
        have q316 : (ji5) < (l0.length : Int) := of_decide_eq_true (by first | (with_reducible assumption) | assumption)
        obtain ⟨ad316, e316, hx316_0⟩ := Kd.at_int HR0.out (ji5) p316 q316
        obtain rfl : ad315 = ad316 := (by injection e316)
        replace hx316_0 := (HB.out.cell (World.block_lt_of_cell? w _ hx316_0)).trans hx316_0
        replace p316 := eq_true p316
        replace q316 := eq_true q316
        go_wp2
        go_roundg k1
        case measure => have := HK1.out; omega
        case rel => exact ⟨(ji5), (by first | rfl | (simp; done) | (simp only [← hji5] <;> (first | rfl | simp)) | (simp [*]; done)), (by first | exact H' | (simp only [hji5]; exact H') | (simp only [hji5]; exact H')), ⟨by have := HK1.out; omega⟩, ⟨by repeat (first | (with_reducible first | exact HB.out | apply below_alloc | apply pw_below_drewN | apply below_drew1) | exact HB.out)⟩⟩
       ·rw [if_neg c9] at H
        have c9b0 : ((rd l0 (ji5)) == 10) = false := beq_eq_false_iff_ne.mpr c9
        have c9b1 : ((rd l0 (ji5)) != 10) = true := bne_iff_ne.mpr c9
        replace H := Option.bind_eq_some_iff.mp H
        obtain ⟨t318, A100, H⟩ := H
        replace H : (if t318 = 0 then (impl_body.l0 k1 l0 a1 ji5) else (some x2_1)) = some r := H
        have A10 := Aside0.mk A100
        clear A100
        by_cases c11 : t318 = 0
        ·rw [if_pos c11] at H
         have c11b0 : (t318 == 0) = true := beq_iff_eq.mpr c11
         have c11b1 : (t318 != 0) = false := bne_eq_false_iff_eq.mpr c11
         clear c11
         have H' := Aside0.mk H
         clear H
         have p315 : 0 ≤ ((ji5) : Int) := of_decide_eq_true (by first | (with_reducible assumption) | assumption)
         have q315 : (ji5) < (l0.length : Int) := of_decide_eq_true (by first | (with_reducible assumption) | assumption)
         obtain ⟨ad315, e315, hx315_0⟩ := Kd.at_int HR0.out (ji5) p315 q315
         cases e315
         replace hx315_0 := (HB.out.cell (World.block_lt_of_cell? w _ hx315_0)).trans hx315_0
         replace p315 := eq_true p315
         replace q315 := eq_true q315
         have p316 : 0 ≤ ((ji5) : Int) := of_decide_eq_true (by first | (with_reducible assumption) | assumption)
         have q316 : (ji5) < (l0.length : Int) := of_decide_eq_true (by first | (with_reducible assumption) | assumption)
         obtain ⟨ad316, e316, hx316_0⟩ := Kd.at_int HR0.out (ji5) p316 q316
         obtain rfl : ad315 = ad316 := (by injection e316)
         replace hx316_0 := (HB.out.cell (World.block_lt_of_cell? w _ hx316_0)).trans hx316_0
         replace p316 := eq_true p316
         replace q316 := eq_true q316
         have p317 : 0 ≤ ((ji5) : Int) := of_decide_eq_true (by first | (with_reducible assumption) | assumption)
         have q317 : (ji5) < (l0.length : Int) := of_decide_eq_true (by first | (with_reducible assumption) | assumption)
         obtain ⟨ad317, e317, hx317_0⟩ := Kd.at_int HR0.out (ji5) p317 q317
         obtain rfl : ad315 = ad317 := (by injection e317)
         replace hx317_0 := (HB.out.cell (World.block_lt_of_cell? w _ hx317_0)).trans hx317_0
         replace p317 := eq_true p317
         replace q317 := eq_true q317
         go_wp2_with (first | (go_at_call 106; (with_reducible refine (impl_RuneWide.calls k1 (rd l0 (ji5)) t318 _ A10.out).mono ?_); rintro e w12 ⟨rfl, hb⟩; have n0_ := Aside0.mk (below_step (by repeat (first | (with_reducible first | exact HB.out | apply below_alloc | apply pw_below_drewN | apply below_drew1) | exact HB.out)) hb); clear HB; have HB := n0_; clear n0_; (try clear hb); (try clear hb2); (try clear hk); (try clear hi)))
         go_roundg k1
         case measure => have := HK1.out; omega
         case rel => exact ⟨(ji5), (by first | rfl | (simp; done) | (simp only [← hji5] <;> (first | rfl | simp)) | (simp [*]; done)), (by first | exact H' | (simp only [hji5]; exact H') | (simp only [hji5]; exact H')), ⟨by have := HK1.out; omega⟩, ⟨by repeat (first | (with_reducible first | exact HB.out | apply below_alloc | apply pw_below_drewN | apply below_drew1) | exact HB.out)⟩⟩
        ·rw [if_neg c11] at H
         have c11b0 : (t318 == 0) = false := beq_eq_false_iff_ne.mpr c11
         have c11b1 : (t318 != 0) = true := bne_iff_ne.mpr c11
         obtain rfl := Option.some.inj H
         have p315 : 0 ≤ ((ji5) : Int) := of_decide_eq_true (by first | (with_reducible assumption) | assumption)
         have q315 : (ji5) < (l0.length : Int) := of_decide_eq_true (by first | (with_reducible assumption) | assumption)
         obtain ⟨ad315, e315, hx315_0⟩ := Kd.at_int HR0.out (ji5) p315 q315
         cases e315
         replace hx315_0 := (HB.out.cell (World.block_lt_of_cell? w _ hx315_0)).trans hx315_0
         replace p315 := eq_true p315
         replace q315 := eq_true q315
         have p316 : 0 ≤ ((ji5) : Int) := of_decide_eq_true (by first | (with_reducible assumption) | assumption)
         have q316 : (ji5) < (l0.length : Int) := of_decide_eq_true (by first | (with_reducible assumption) | assumption)
         obtain ⟨ad316, e316, hx316_0⟩ := Kd.at_int HR0.out (ji5) p316 q316
         obtain rfl : ad315 = ad316 := (by injection e316)
         replace hx316_0 := (HB.out.cell (World.block_lt_of_cell? w _ hx316_0)).trans hx316_0
         replace p316 := eq_true p316
         replace q316 := eq_true q316
         have p317 : 0 ≤ ((ji5) : Int) := of_decide_eq_true (by first | (with_reducible assumption) | assumption)
         have q317 : (ji5) < (l0.length : Int) := of_decide_eq_true (by first | (with_reducible assumption) | assumption)
         obtain ⟨ad317, e317, hx317_0⟩ := Kd.at_int HR0.out (ji5) p317 q317
         obtain rfl : ad315 = ad317 := (by injection e317)
         replace hx317_0 := (HB.out.cell (World.block_lt_of_cell? w _ hx317_0)).trans hx317_0
         replace p317 := eq_true p317
         replace q317 := eq_true q317
         go_wp2_with (first | (go_at_call 106; (with_reducible refine (impl_RuneWide.calls k1 (rd l0 (ji5)) t318 _ A10.out).mono ?_); rintro e w13 ⟨rfl, hb⟩; have n0_ := Aside0.mk (below_step (by repeat (first | (with_reducible first | exact HB.out | apply below_alloc | apply pw_below_drewN | apply below_drew1) | exact HB.out)) hb); clear HB; have HB := n0_; clear n0_; (try clear hb); (try clear hb2); (try clear hk); (try clear hi)))
         go_ret
         exact ⟨by first | rfl | (simp [errW_none, errW_some] <;> rfl) | (simp only [← hji5]; first | rfl | (simp [errW_none, errW_some] <;> rfl)) | (simp [*, errW_none, errW_some] <;> rfl), by repeat (first | (with_reducible first | exact HB.out | apply below_alloc | apply pw_below_drewN | apply below_drew1) | exact HB.out)⟩
     ·rw [if_neg c7] at H
      exact absurd H (by simp)
    ·rw [if_neg c6] at H
     exact absurd H (by simp)
   ·rw [if_neg c4] at H
    have c4b0 : decide (a1 < x2_1) = false := decide_eq_false c4
    clear c4
    obtain rfl := Option.some.inj H
    go_wp2
    go_ret
    exact ⟨by first | rfl | (simp [errW_none, errW_some] <;> rfl) | (simp [*, errW_none, errW_some] <;> rfl), by repeat (first | (with_reducible first | exact HB.out | apply below_alloc | apply pw_below_drewN | apply below_drew1) | exact HB.out)⟩

end Go.Proofs.Ytmjhdgofepdgkaa.PFnLineWide
