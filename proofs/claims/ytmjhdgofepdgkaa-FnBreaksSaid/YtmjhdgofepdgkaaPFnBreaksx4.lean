-- Written by a program of this session (wip/tools) out of the translation; its shape is that of the kit print.
import Derived.Test.YtmjhdgofepdgkaaPFnBreaksx0
import Derived.Test.YtmjhdgofepdgkaaPFnBreaksx2
import Derived.Test.YtmjhdgofepdgkaaPFnBreaksx3
namespace Go.Proofs.Ytmjhdgofepdgkaa.PFnBreaks
open Go.RowKit Go.Proofs.YtmjhdgofepdgkaaW.PrintWords Go.Proofs.YtmjhdgofepdgkaaW.PrintLast Go.Proofs.YtmjhdgofepdgkaaW.PrintMore
attribute [local go_sem] max2_int min2_int max_two min_two max_three min_three max_four min_four   -- for this text's walks alone
set_option linter.unusedVariables false
set_option linter.unusedSimpArgs false

/-! ### spec_l5Signs: function 80 -/
mutual
def spec_l5Signs.j0 : Nat → Int → Bool → Option (Int)
 | 0, _, _ => none
 | k + 1, x3, x4 => if x4 = true then (some 8) else (if x3 = 41 then (spec_l5Signs.j1 k x3 (x3 == 41)) else (if x3 = 93 then (spec_l5Signs.j1 k x3 (x3 == 93)) else (spec_l5Signs.j1 k x3 (x3 == 125))))
def spec_l5Signs.j1 : Nat → Int → Bool → Option (Int)
 | 0, _, _ => none
 | k + 1, x3, x8 => if x8 = true then (some 9) else (if x3 = 33 then (spec_l5Signs.j2 k x3 (x3 == 33)) else (spec_l5Signs.j2 k x3 (x3 == 63)))
def spec_l5Signs.j2 : Nat → Int → Bool → Option (Int)
 | 0, _, _ => none
 | k + 1, x3, x12 => if x12 = true then (some 10) else (if x3 = 34 then (some 11) else (if x3 = 45 then (some 12) else (if x3 = 44 then (spec_l5Signs.j3 k x3 (x3 == 44)) else (if x3 = 46 then (spec_l5Signs.j3 k x3 (x3 == 46)) else (if x3 = 58 then (spec_l5Signs.j3 k x3 (x3 == 58)) else (if x3 = 59 then (spec_l5Signs.j3 k x3 (x3 == 59)) else (spec_l5Signs.j3 k x3 (x3 == 47))))))))
def spec_l5Signs.j3 : Nat → Int → Bool → Option (Int)
 | 0, _, _ => none
 | k + 1, x3, x19 => if x19 = true then (some 13) else (if x3 = 9 then (some 14) else (if x3 = 173 then (some 14) else (some 1)))
end
def spec_l5Signs.f (k : Nat) (a0 : Int) : Option (Int) := if a0 = 40 then (spec_l5Signs.j0 k a0 (a0 == 40)) else (if a0 = 91 then (spec_l5Signs.j0 k a0 (a0 == 91)) else (spec_l5Signs.j0 k a0 (a0 == 123)))
theorem spec_l5Signs.mono_l : ∀ k, (∀ y0 y1, LeO (spec_l5Signs.j0 k y0 y1) (spec_l5Signs.j0 (k + 1) y0 y1)) ∧ (∀ y0 y1, LeO (spec_l5Signs.j1 k y0 y1) (spec_l5Signs.j1 (k + 1) y0 y1)) ∧ (∀ y0 y1, LeO (spec_l5Signs.j2 k y0 y1) (spec_l5Signs.j2 (k + 1) y0 y1)) ∧ (∀ y0 y1, LeO (spec_l5Signs.j3 k y0 y1) (spec_l5Signs.j3 (k + 1) y0 y1))
 | 0 => ⟨fun _ _ r h => by simp [spec_l5Signs.j0] at h, fun _ _ r h => by simp [spec_l5Signs.j1] at h, fun _ _ r h => by simp [spec_l5Signs.j2] at h, fun _ _ r h => by simp [spec_l5Signs.j3] at h⟩
 | k + 1 => by
  obtain ⟨ih0, ih1, ih2, ih3⟩ := spec_l5Signs.mono_l k
  refine ⟨?_, ?_, ?_, ?_⟩
  ·intro y0 y1
   unfold spec_l5Signs.j0
   repeat' first
   | (with_reducible exact ih0 _ _)
   | (with_reducible exact ih1 _ _)
   | (with_reducible exact ih2 _ _)
   | (with_reducible exact ih3 _ _)
   | (with_reducible exact LeO.refl _)
   | (with_reducible exact LeO.none _)
   | (with_reducible refine LeO.ite ?_ ?_)
   | (with_reducible refine LeO.bind ?_ (fun _ => ?_))
   | exact ih0 _ _
   | exact ih1 _ _
   | exact ih2 _ _
   | exact ih3 _ _
   | exact LeO.none _
   | refine LeO.ite ?_ ?_
   | refine LeO.bind ?_ (fun _ => ?_)
  ·intro y0 y1
   unfold spec_l5Signs.j1
   repeat' first
   | (with_reducible exact ih0 _ _)
   | (with_reducible exact ih1 _ _)
   | (with_reducible exact ih2 _ _)
   | (with_reducible exact ih3 _ _)
   | (with_reducible exact LeO.refl _)
   | (with_reducible exact LeO.none _)
   | (with_reducible refine LeO.ite ?_ ?_)
   | (with_reducible refine LeO.bind ?_ (fun _ => ?_))
   | exact ih0 _ _
   | exact ih1 _ _
   | exact ih2 _ _
   | exact ih3 _ _
   | exact LeO.none _
   | refine LeO.ite ?_ ?_
   | refine LeO.bind ?_ (fun _ => ?_)
  ·intro y0 y1
   unfold spec_l5Signs.j2
   repeat' first
   | (with_reducible exact ih0 _ _)
   | (with_reducible exact ih1 _ _)
   | (with_reducible exact ih2 _ _)
   | (with_reducible exact ih3 _ _)
   | (with_reducible exact LeO.refl _)
   | (with_reducible exact LeO.none _)
   | (with_reducible refine LeO.ite ?_ ?_)
   | (with_reducible refine LeO.bind ?_ (fun _ => ?_))
   | exact ih0 _ _
   | exact ih1 _ _
   | exact ih2 _ _
   | exact ih3 _ _
   | exact LeO.none _
   | refine LeO.ite ?_ ?_
   | refine LeO.bind ?_ (fun _ => ?_)
  ·intro y0 y1
   unfold spec_l5Signs.j3
   repeat' first
   | (with_reducible exact ih0 _ _)
   | (with_reducible exact ih1 _ _)
   | (with_reducible exact ih2 _ _)
   | (with_reducible exact ih3 _ _)
   | (with_reducible exact LeO.refl _)
   | (with_reducible exact LeO.none _)
   | (with_reducible refine LeO.ite ?_ ?_)
   | (with_reducible refine LeO.bind ?_ (fun _ => ?_))
   | exact ih0 _ _
   | exact ih1 _ _
   | exact ih2 _ _
   | exact ih3 _ _
   | exact LeO.none _
   | refine LeO.ite ?_ ?_
   | refine LeO.bind ?_ (fun _ => ?_)
theorem spec_l5Signs.mono : ∀ a0 k, LeO (spec_l5Signs.f k a0) (spec_l5Signs.f (k + 1) a0) := by
 intro a0 k
 obtain ⟨ih0, ih1, ih2, ih3⟩ := spec_l5Signs.mono_l k
 unfold spec_l5Signs.f
 repeat' first
   | (with_reducible exact ih0 _ _)
   | (with_reducible exact ih1 _ _)
   | (with_reducible exact ih2 _ _)
   | (with_reducible exact ih3 _ _)
   | (with_reducible exact LeO.refl _)
   | (with_reducible exact LeO.none _)
   | (with_reducible refine LeO.ite ?_ ?_)
   | (with_reducible refine LeO.bind ?_ (fun _ => ?_))
   | exact ih0 _ _
   | exact ih1 _ _
   | exact ih2 _ _
   | exact ih3 _ _
   | exact LeO.none _
   | refine LeO.ite ?_ ?_
   | refine LeO.bind ?_ (fun _ => ?_)
set_option maxHeartbeats 8000000 in
set_option maxRecDepth 100000 in
theorem spec_l5Signs.calls (k : Nat) (a0 : Int) (r : Int) (w : World) (h : spec_l5Signs.f k a0 = some r) :
  Calls Try.prog 80 #[.int .i64 a0] w fun e w' => e = .returned (.int .i64 r) ∧ Drawn0 w w' := by
 have H : (if a0 = 40 then (spec_l5Signs.j0 k a0 (a0 == 40)) else (if a0 = 91 then (spec_l5Signs.j0 k a0 (a0 == 91)) else (spec_l5Signs.j0 k a0 (a0 == 123)))) = some r := h
 clear h
 have HC2 := Aside0.mk H
 clear H
 go_enter Try.func80, Try.ntmps80
 go_upto_if 4 with (fail)
 go_cut [4] (fun v4 wc => ∃ (kq : Nat) (x4_1 : Bool), v4 = .bool x4_1 ∧ Aside0 (spec_l5Signs.j0 kq a0 x4_1 = some r) ∧ Aside0 (kq ≤ k) ∧ Drawn0 w wc)
 case first =>
  have H := HC2.out
  clear HC2
  by_cases c3 : a0 = 40
  ·rw [if_pos c3] at H
   have c3b0 : (a0 == 40) = true := beq_iff_eq.mpr c3
   have c3b1 : (a0 != 40) = false := bne_eq_false_iff_eq.mpr c3
   clear c3
   (first | rw [c3b0] | (simp only [i64_w, i32_w]; rw [c3b0]) | skip)
   have H' := Aside0.mk H
   clear H
   go_wp2
   go_meet
   case rel => exact ⟨_, ((a0 == 40)), (by first | rfl | (simp; done) | (simp [*]; done)), H', ⟨by first | omega | exact Nat.le_refl _⟩, by repeat (first | exact Drawn0.refl _ | apply Drawn0.step)⟩
  ·rw [if_neg c3] at H
   have c3b0 : (a0 == 40) = false := beq_eq_false_iff_ne.mpr c3
   have c3b1 : (a0 != 40) = true := bne_iff_ne.mpr c3
   (first | rw [c3b0] | (simp only [i64_w, i32_w]; rw [c3b0]) | skip)
   by_cases c4 : a0 = 91
   ·rw [if_pos c4] at H
    have c4b0 : (a0 == 91) = true := beq_iff_eq.mpr c4
    have c4b1 : (a0 != 91) = false := bne_eq_false_iff_eq.mpr c4
    clear c4
    have H' := Aside0.mk H
    clear H
    go_wp2
    go_meet
    case rel => exact ⟨_, ((a0 == 91)), (by first | rfl | (simp; done) | (simp [*]; done)), H', ⟨by first | omega | exact Nat.le_refl _⟩, by repeat (first | exact Drawn0.refl _ | apply Drawn0.step)⟩
   ·rw [if_neg c4] at H
    have c4b0 : (a0 == 91) = false := beq_eq_false_iff_ne.mpr c4
    have c4b1 : (a0 != 91) = true := bne_iff_ne.mpr c4
    have H' := Aside0.mk H
    clear H
    go_wp2
    go_meet
    case rel => exact ⟨_, ((a0 == 123)), (by first | rfl | (simp; done) | (simp [*]; done)), H', ⟨by first | omega | exact Nat.le_refl _⟩, by repeat (first | exact Drawn0.refl _ | apply Drawn0.step)⟩
 case rest =>
  clear HC2
  try clear p2
  try clear c3
  try clear c3b0
  try clear c3b1
  try clear c4
  try clear c4b0
  try clear c4b1
  obtain ⟨kq, x4_1, rfl, HA, HJ1, ⟨mc1, rfl⟩⟩ := hcut
  cases kq with
  | zero => exact absurd HA.out (by simp [spec_l5Signs.j0])
  | succ kj1 =>
   have H := HA.out
   clear HA
   simp only [spec_l5Signs.j0] at H
   by_cases c5 : x4_1 = true
   ·subst c5
    have H1 : (some 8) = some r := by rw [if_pos rfl] at H; exact H
    clear H
    have H := H1
    clear H1
    obtain rfl := Option.some.inj H
    go_wp2
    go_ret
    exact ⟨by first | rfl | (simp; done) | (simp [*]; done), by repeat (first | exact Drawn0.refl _ | apply Drawn0.step)⟩
   ·replace c5 := Bool.eq_false_iff.mpr c5
    subst c5
    have H1 : (if a0 = 41 then (spec_l5Signs.j1 kj1 a0 (a0 == 41)) else (if a0 = 93 then (spec_l5Signs.j1 kj1 a0 (a0 == 93)) else (spec_l5Signs.j1 kj1 a0 (a0 == 125)))) = some r := by rw [if_neg (show ¬ (false = true) by decide)] at H; exact H
    clear H
    have H := H1
    clear H1
    have HC6 := Aside0.mk H
    clear H
    go_upto_if 8 with (fail)
    go_cut [8] (fun v8 wc => ∃ (kq : Nat) (x8_5 : Bool), v8 = .bool x8_5 ∧ Aside0 (spec_l5Signs.j1 kq a0 x8_5 = some r) ∧ Aside0 (kq ≤ kj1) ∧ Drawn0 w wc)
    case first =>
     have H := HC6.out
     clear HC6
     by_cases c7 : a0 = 41
     ·rw [if_pos c7] at H
      have c7b0 : (a0 == 41) = true := beq_iff_eq.mpr c7
      have c7b1 : (a0 != 41) = false := bne_eq_false_iff_eq.mpr c7
      clear c7
      (first | rw [c7b0] | (simp only [i64_w, i32_w]; rw [c7b0]) | skip)
      have H' := Aside0.mk H
      clear H
      go_wp2
      go_meet
      case rel => exact ⟨_, ((a0 == 41)), (by first | rfl | (simp; done) | (simp [*]; done)), H', ⟨by have := HJ1.out; first | omega | exact Nat.le_refl _⟩, by repeat (first | exact Drawn0.refl _ | apply Drawn0.step)⟩
     ·rw [if_neg c7] at H
      have c7b0 : (a0 == 41) = false := beq_eq_false_iff_ne.mpr c7
      have c7b1 : (a0 != 41) = true := bne_iff_ne.mpr c7
      (first | rw [c7b0] | (simp only [i64_w, i32_w]; rw [c7b0]) | skip)
      by_cases c8 : a0 = 93
      ·rw [if_pos c8] at H
       have c8b0 : (a0 == 93) = true := beq_iff_eq.mpr c8
       have c8b1 : (a0 != 93) = false := bne_eq_false_iff_eq.mpr c8
       clear c8
       have H' := Aside0.mk H
       clear H
       go_wp2
       go_meet
       case rel => exact ⟨_, ((a0 == 93)), (by first | rfl | (simp; done) | (simp [*]; done)), H', ⟨by have := HJ1.out; first | omega | exact Nat.le_refl _⟩, by repeat (first | exact Drawn0.refl _ | apply Drawn0.step)⟩
      ·rw [if_neg c8] at H
       have c8b0 : (a0 == 93) = false := beq_eq_false_iff_ne.mpr c8
       have c8b1 : (a0 != 93) = true := bne_iff_ne.mpr c8
       have H' := Aside0.mk H
       clear H
       go_wp2
       go_meet
       case rel => exact ⟨_, ((a0 == 125)), (by first | rfl | (simp; done) | (simp [*]; done)), H', ⟨by have := HJ1.out; first | omega | exact Nat.le_refl _⟩, by repeat (first | exact Drawn0.refl _ | apply Drawn0.step)⟩
    case rest =>
     clear HC6
     try clear c1
     try clear p2
     try clear c3
     try clear c3b0
     try clear c3b1
     try clear c4
     try clear c4b0
     try clear c4b1
     try clear c5
     try clear c7
     try clear c7b0
     try clear c7b1
     try clear c8
     try clear c8b0
     try clear c8b1
     try clear p2
     obtain ⟨kq, x8_5, rfl, HA, HJ5, ⟨mc5, rfl⟩⟩ := hcut
     cases kq with
     | zero => exact absurd HA.out (by simp [spec_l5Signs.j1])
     | succ kj5 =>
      have H := HA.out
      clear HA
      simp only [spec_l5Signs.j1] at H
      by_cases c9 : x8_5 = true
      ·subst c9
       have H1 : (some 9) = some r := by rw [if_pos rfl] at H; exact H
       clear H
       have H := H1
       clear H1
       obtain rfl := Option.some.inj H
       go_wp2
       go_ret
       exact ⟨by first | rfl | (simp; done) | (simp [*]; done), by repeat (first | exact Drawn0.refl _ | apply Drawn0.step)⟩
      ·replace c9 := Bool.eq_false_iff.mpr c9
       subst c9
       have H1 : (if a0 = 33 then (spec_l5Signs.j2 kj5 a0 (a0 == 33)) else (spec_l5Signs.j2 kj5 a0 (a0 == 63))) = some r := by rw [if_neg (show ¬ (false = true) by decide)] at H; exact H
       clear H
       have H := H1
       clear H1
       have HC10 := Aside0.mk H
       clear H
       go_upto_if 12 with (fail)
       go_cut [12] (fun v12 wc => ∃ (kq : Nat) (x12_9 : Bool), v12 = .bool x12_9 ∧ Aside0 (spec_l5Signs.j2 kq a0 x12_9 = some r) ∧ Aside0 (kq ≤ kj5) ∧ Drawn0 w wc)
       case first =>
        have H := HC10.out
        clear HC10
        by_cases c11 : a0 = 33
        ·rw [if_pos c11] at H
         have c11b0 : (a0 == 33) = true := beq_iff_eq.mpr c11
         have c11b1 : (a0 != 33) = false := bne_eq_false_iff_eq.mpr c11
         clear c11
         (first | rw [c11b0] | (simp only [i64_w, i32_w]; rw [c11b0]) | skip)
         have H' := Aside0.mk H
         clear H
         go_wp2
         go_meet
         case rel => exact ⟨_, ((a0 == 33)), (by first | rfl | (simp; done) | (simp [*]; done)), H', ⟨by have := HJ1.out; have := HJ5.out; first | omega | exact Nat.le_refl _⟩, by repeat (first | exact Drawn0.refl _ | apply Drawn0.step)⟩
        ·rw [if_neg c11] at H
         have c11b0 : (a0 == 33) = false := beq_eq_false_iff_ne.mpr c11
         have c11b1 : (a0 != 33) = true := bne_iff_ne.mpr c11
         (first | rw [c11b0] | (simp only [i64_w, i32_w]; rw [c11b0]) | skip)
         have H' := Aside0.mk H
         clear H
         go_wp2
         go_meet
         case rel => exact ⟨_, ((a0 == 63)), (by first | rfl | (simp; done) | (simp [*]; done)), H', ⟨by have := HJ1.out; have := HJ5.out; first | omega | exact Nat.le_refl _⟩, by repeat (first | exact Drawn0.refl _ | apply Drawn0.step)⟩
       case rest =>
        clear HC10
        try clear c1
        try clear p2
        try clear c3
        try clear c3b0
        try clear c3b1
        try clear c4
        try clear c4b0
        try clear c4b1
        try clear c5
        try clear c7
        try clear c7b0
        try clear c7b1
        try clear c8
        try clear c8b0
        try clear c8b1
        try clear c9
        try clear c11
        try clear c11b0
        try clear c11b1
        try clear p2
        obtain ⟨kq, x12_9, rfl, HA, HJ9, ⟨mc9, rfl⟩⟩ := hcut
        cases kq with
        | zero => exact absurd HA.out (by simp [spec_l5Signs.j2])
        | succ kj9 =>
         have H := HA.out
         clear HA
         simp only [spec_l5Signs.j2] at H
         by_cases c12 : x12_9 = true
         ·subst c12
          have H1 : (some 10) = some r := by rw [if_pos rfl] at H; exact H
          clear H
          have H := H1
          clear H1
          obtain rfl := Option.some.inj H
          go_wp2
          go_ret
          exact ⟨by first | rfl | (simp; done) | (simp [*]; done), by repeat (first | exact Drawn0.refl _ | apply Drawn0.step)⟩
         ·replace c12 := Bool.eq_false_iff.mpr c12
          subst c12
          have H1 : (if a0 = 34 then (some 11) else (if a0 = 45 then (some 12) else (if a0 = 44 then (spec_l5Signs.j3 kj9 a0 (a0 == 44)) else (if a0 = 46 then (spec_l5Signs.j3 kj9 a0 (a0 == 46)) else (if a0 = 58 then (spec_l5Signs.j3 kj9 a0 (a0 == 58)) else (if a0 = 59 then (spec_l5Signs.j3 kj9 a0 (a0 == 59)) else (spec_l5Signs.j3 kj9 a0 (a0 == 47)))))))) = some r := by rw [if_neg (show ¬ (false = true) by decide)] at H; exact H
          clear H
          have H := H1
          clear H1
          by_cases c13 : a0 = 34
          ·rw [if_pos c13] at H
           have c13b0 : (a0 == 34) = true := beq_iff_eq.mpr c13
           have c13b1 : (a0 != 34) = false := bne_eq_false_iff_eq.mpr c13
           clear c13
           obtain rfl := Option.some.inj H
           go_wp2
           go_ret
           exact ⟨by first | rfl | (simp; done) | (simp [*]; done), by repeat (first | exact Drawn0.refl _ | apply Drawn0.step)⟩
          ·rw [if_neg c13] at H
           have c13b0 : (a0 == 34) = false := beq_eq_false_iff_ne.mpr c13
           have c13b1 : (a0 != 34) = true := bne_iff_ne.mpr c13
           by_cases c14 : a0 = 45
           ·rw [if_pos c14] at H
            have c14b0 : (a0 == 45) = true := beq_iff_eq.mpr c14
            have c14b1 : (a0 != 45) = false := bne_eq_false_iff_eq.mpr c14
            clear c14
            obtain rfl := Option.some.inj H
            go_wp2
            go_ret
            exact ⟨by first | rfl | (simp; done) | (simp [*]; done), by repeat (first | exact Drawn0.refl _ | apply Drawn0.step)⟩
           ·rw [if_neg c14] at H
            have c14b0 : (a0 == 45) = false := beq_eq_false_iff_ne.mpr c14
            have c14b1 : (a0 != 45) = true := bne_iff_ne.mpr c14
            have HC15 := Aside0.mk H
            clear H
            go_upto_if 19 with (fail)
            go_cut [19] (fun v19 wc => ∃ (kq : Nat) (x19_14 : Bool), v19 = .bool x19_14 ∧ Aside0 (spec_l5Signs.j3 kq a0 x19_14 = some r) ∧ Aside0 (kq ≤ kj9) ∧ Drawn0 w wc)
            case first =>
             have H := HC15.out
             clear HC15
             by_cases c16 : a0 = 44
             ·rw [if_pos c16] at H
              have c16b0 : (a0 == 44) = true := beq_iff_eq.mpr c16
              have c16b1 : (a0 != 44) = false := bne_eq_false_iff_eq.mpr c16
              clear c16
              (first | rw [c16b0] | (simp only [i64_w, i32_w]; rw [c16b0]) | skip)
              have H' := Aside0.mk H
              clear H
              go_wp2
              go_meet
              case rel => exact ⟨_, ((a0 == 44)), (by first | rfl | (simp; done) | (simp [*]; done)), H', ⟨by have := HJ1.out; have := HJ5.out; have := HJ9.out; first | omega | exact Nat.le_refl _⟩, by repeat (first | exact Drawn0.refl _ | apply Drawn0.step)⟩
             ·rw [if_neg c16] at H
              have c16b0 : (a0 == 44) = false := beq_eq_false_iff_ne.mpr c16
              have c16b1 : (a0 != 44) = true := bne_iff_ne.mpr c16
              (first | rw [c16b0] | (simp only [i64_w, i32_w]; rw [c16b0]) | skip)
              by_cases c17 : a0 = 46
              ·rw [if_pos c17] at H
               have c17b0 : (a0 == 46) = true := beq_iff_eq.mpr c17
               have c17b1 : (a0 != 46) = false := bne_eq_false_iff_eq.mpr c17
               clear c17
               have H' := Aside0.mk H
               clear H
               go_wp2
               go_meet
               case rel => exact ⟨_, ((a0 == 46)), (by first | rfl | (simp; done) | (simp [*]; done)), H', ⟨by have := HJ1.out; have := HJ5.out; have := HJ9.out; first | omega | exact Nat.le_refl _⟩, by repeat (first | exact Drawn0.refl _ | apply Drawn0.step)⟩
              ·rw [if_neg c17] at H
               have c17b0 : (a0 == 46) = false := beq_eq_false_iff_ne.mpr c17
               have c17b1 : (a0 != 46) = true := bne_iff_ne.mpr c17
               by_cases c18 : a0 = 58
               ·rw [if_pos c18] at H
                have c18b0 : (a0 == 58) = true := beq_iff_eq.mpr c18
                have c18b1 : (a0 != 58) = false := bne_eq_false_iff_eq.mpr c18
                clear c18
                have H' := Aside0.mk H
                clear H
                go_wp2
                go_meet
                case rel => exact ⟨_, ((a0 == 58)), (by first | rfl | (simp; done) | (simp [*]; done)), H', ⟨by have := HJ1.out; have := HJ5.out; have := HJ9.out; first | omega | exact Nat.le_refl _⟩, by repeat (first | exact Drawn0.refl _ | apply Drawn0.step)⟩
               ·rw [if_neg c18] at H
                have c18b0 : (a0 == 58) = false := beq_eq_false_iff_ne.mpr c18
                have c18b1 : (a0 != 58) = true := bne_iff_ne.mpr c18
                by_cases c19 : a0 = 59
                ·rw [if_pos c19] at H
                 have c19b0 : (a0 == 59) = true := beq_iff_eq.mpr c19
                 have c19b1 : (a0 != 59) = false := bne_eq_false_iff_eq.mpr c19
                 clear c19
                 have H' := Aside0.mk H
                 clear H
                 go_wp2
                 go_meet
                 case rel => exact ⟨_, ((a0 == 59)), (by first | rfl | (simp; done) | (simp [*]; done)), H', ⟨by have := HJ1.out; have := HJ5.out; have := HJ9.out; first | omega | exact Nat.le_refl _⟩, by repeat (first | exact Drawn0.refl _ | apply Drawn0.step)⟩
                ·rw [if_neg c19] at H
                 have c19b0 : (a0 == 59) = false := beq_eq_false_iff_ne.mpr c19
                 have c19b1 : (a0 != 59) = true := bne_iff_ne.mpr c19
                 have H' := Aside0.mk H
                 clear H
                 go_wp2
                 go_meet
                 case rel => exact ⟨_, ((a0 == 47)), (by first | rfl | (simp; done) | (simp [*]; done)), H', ⟨by have := HJ1.out; have := HJ5.out; have := HJ9.out; first | omega | exact Nat.le_refl _⟩, by repeat (first | exact Drawn0.refl _ | apply Drawn0.step)⟩
            case rest =>
             clear HC15
             try clear c1
             try clear p2
             try clear c3
             try clear c3b0
             try clear c3b1
             try clear c4
             try clear c4b0
             try clear c4b1
             try clear c5
             try clear c7
             try clear c7b0
             try clear c7b1
             try clear c8
             try clear c8b0
             try clear c8b1
             try clear c9
             try clear c11
             try clear c11b0
             try clear c11b1
             try clear c12
             try clear c13
             try clear c13b0
             try clear c13b1
             try clear c14
             try clear c14b0
             try clear c14b1
             try clear c16
             try clear c16b0
             try clear c16b1
             try clear c17
             try clear c17b0
             try clear c17b1
             try clear c18
             try clear c18b0
             try clear c18b1
             try clear c19
             try clear c19b0
             try clear c19b1
             try clear p2
             obtain ⟨kq, x19_14, rfl, HA, HJ14, ⟨mc14, rfl⟩⟩ := hcut
             cases kq with
             | zero => exact absurd HA.out (by simp [spec_l5Signs.j3])
             | succ kj14 =>
              have H := HA.out
              clear HA
              simp only [spec_l5Signs.j3] at H
              by_cases c20 : x19_14 = true
              ·subst c20
               have H1 : (some 13) = some r := by rw [if_pos rfl] at H; exact H
               clear H
               have H := H1
               clear H1
               obtain rfl := Option.some.inj H
               go_wp2
               go_ret
               exact ⟨by first | rfl | (simp; done) | (simp [*]; done), by repeat (first | exact Drawn0.refl _ | apply Drawn0.step)⟩
              ·replace c20 := Bool.eq_false_iff.mpr c20
               subst c20
               have H1 : (if a0 = 9 then (some 14) else (if a0 = 173 then (some 14) else (some 1))) = some r := by rw [if_neg (show ¬ (false = true) by decide)] at H; exact H
               clear H
               have H := H1
               clear H1
               by_cases c21 : a0 = 9
               ·rw [if_pos c21] at H
                have c21b0 : (a0 == 9) = true := beq_iff_eq.mpr c21
                have c21b1 : (a0 != 9) = false := bne_eq_false_iff_eq.mpr c21
                clear c21
                obtain rfl := Option.some.inj H
                go_wp2
                go_ret
                exact ⟨by first | rfl | (simp; done) | (simp [*]; done), by repeat (first | exact Drawn0.refl _ | apply Drawn0.step)⟩
               ·rw [if_neg c21] at H
                have c21b0 : (a0 == 9) = false := beq_eq_false_iff_ne.mpr c21
                have c21b1 : (a0 != 9) = true := bne_iff_ne.mpr c21
                by_cases c22 : a0 = 173
                ·rw [if_pos c22] at H
                 have c22b0 : (a0 == 173) = true := beq_iff_eq.mpr c22
                 have c22b1 : (a0 != 173) = false := bne_eq_false_iff_eq.mpr c22
                 clear c22
                 obtain rfl := Option.some.inj H
                 go_wp2
                 go_ret
                 exact ⟨by first | rfl | (simp; done) | (simp [*]; done), by repeat (first | exact Drawn0.refl _ | apply Drawn0.step)⟩
                ·rw [if_neg c22] at H
                 have c22b0 : (a0 == 173) = false := beq_eq_false_iff_ne.mpr c22
                 have c22b1 : (a0 != 173) = true := bne_iff_ne.mpr c22
                 obtain rfl := Option.some.inj H
                 go_wp2
                 go_ret
                 exact ⟨by first | rfl | (simp; done) | (simp [*]; done), by repeat (first | exact Drawn0.refl _ | apply Drawn0.step)⟩

/-! ### spec_RuneLine: function 37 -/
mutual
def spec_RuneLine.j0 : Nat → Int → Bool → Option (Int)
 | 0, _, _ => none
 | k + 1, x0, x15 => if x15 = true then (some 7) else ((spec_l1In.f x0 48 57).bind fun t156 => (if t156 = true then (spec_RuneLine.j1 k x0 true) else ((spec_l1In.f x0 1632 1641).bind fun t157 => (spec_RuneLine.j1 k x0 t157))))
def spec_RuneLine.j1 : Nat → Int → Bool → Option (Int)
 | 0, _, _ => none
 | k + 1, x0, x28 => if x28 = true then (some 2) else ((spec_l1In.f x0 19968 40959).bind fun t158 => (if t158 = true then (some 15) else ((spec_l5Signs.f k x0).bind fun t159 => (some t159))))
end
def spec_RuneLine.f (k : Nat) (a0 : Int) : Option (Int) := if a0 = 10 then (some 4) else (if a0 = 32 then (some 3) else (if a0 = 160 then (some 5) else (if a0 = 8203 then (some 6) else ((spec_RuneBidi.f k a0).bind fun t154 => (if t154 = 9 then (spec_RuneLine.j0 k a0 true) else (if a0 = 8205 then (spec_RuneLine.j0 k a0 true) else ((spec_RuneBidi.f k a0).bind fun t155 => (spec_RuneLine.j0 k a0 (decide (t155 ≥ 14))))))))))
theorem spec_RuneLine.mono_l : ∀ k, (∀ y0 y1, LeO (spec_RuneLine.j0 k y0 y1) (spec_RuneLine.j0 (k + 1) y0 y1)) ∧ (∀ y0 y1, LeO (spec_RuneLine.j1 k y0 y1) (spec_RuneLine.j1 (k + 1) y0 y1))
 | 0 => ⟨fun _ _ r h => by simp [spec_RuneLine.j0] at h, fun _ _ r h => by simp [spec_RuneLine.j1] at h⟩
 | k + 1 => by
  obtain ⟨ih0, ih1⟩ := spec_RuneLine.mono_l k
  refine ⟨?_, ?_⟩
  ·intro y0 y1
   unfold spec_RuneLine.j0
   repeat' first
   | (with_reducible exact ih0 _ _)
   | (with_reducible exact ih1 _ _)
   | (with_reducible exact spec_RuneBidi.mono _ _)
   | (with_reducible exact spec_l5Signs.mono _ _)
   | (with_reducible exact LeO.refl _)
   | (with_reducible exact LeO.none _)
   | (with_reducible refine LeO.ite ?_ ?_)
   | (with_reducible refine LeO.bind ?_ (fun _ => ?_))
   | exact ih0 _ _
   | exact ih1 _ _
   | exact spec_RuneBidi.mono _ _
   | exact spec_l5Signs.mono _ _
   | exact LeO.none _
   | refine LeO.ite ?_ ?_
   | refine LeO.bind ?_ (fun _ => ?_)
  ·intro y0 y1
   unfold spec_RuneLine.j1
   repeat' first
   | (with_reducible exact ih0 _ _)
   | (with_reducible exact ih1 _ _)
   | (with_reducible exact spec_RuneBidi.mono _ _)
   | (with_reducible exact spec_l5Signs.mono _ _)
   | (with_reducible exact LeO.refl _)
   | (with_reducible exact LeO.none _)
   | (with_reducible refine LeO.ite ?_ ?_)
   | (with_reducible refine LeO.bind ?_ (fun _ => ?_))
   | exact ih0 _ _
   | exact ih1 _ _
   | exact spec_RuneBidi.mono _ _
   | exact spec_l5Signs.mono _ _
   | exact LeO.none _
   | refine LeO.ite ?_ ?_
   | refine LeO.bind ?_ (fun _ => ?_)
theorem spec_RuneLine.mono : ∀ a0 k, LeO (spec_RuneLine.f k a0) (spec_RuneLine.f (k + 1) a0) := by
 intro a0 k
 obtain ⟨ih0, ih1⟩ := spec_RuneLine.mono_l k
 unfold spec_RuneLine.f
 repeat' first
   | (with_reducible exact ih0 _ _)
   | (with_reducible exact ih1 _ _)
   | (with_reducible exact spec_RuneBidi.mono _ _)
   | (with_reducible exact spec_l5Signs.mono _ _)
   | (with_reducible exact LeO.refl _)
   | (with_reducible exact LeO.none _)
   | (with_reducible refine LeO.ite ?_ ?_)
   | (with_reducible refine LeO.bind ?_ (fun _ => ?_))
   | exact ih0 _ _
   | exact ih1 _ _
   | exact spec_RuneBidi.mono _ _
   | exact spec_l5Signs.mono _ _
   | exact LeO.none _
   | refine LeO.ite ?_ ?_
   | refine LeO.bind ?_ (fun _ => ?_)
set_option maxHeartbeats 8000000 in
set_option maxRecDepth 100000 in
theorem spec_RuneLine.calls (k : Nat) (a0 : Int) (r : Int) (w : World) (h : spec_RuneLine.f k a0 = some r) :
  Calls Try.prog 37 #[.int .i64 a0] w fun e w' => e = .returned (.int .i64 r) ∧ Below w.heap.size w w' := by
 have HB := Aside0.mk (Below.refl w.heap.size w)
 have H : (if a0 = 10 then (some 4) else (if a0 = 32 then (some 3) else (if a0 = 160 then (some 5) else (if a0 = 8203 then (some 6) else ((spec_RuneBidi.f k a0).bind fun t154 => (if t154 = 9 then (spec_RuneLine.j0 k a0 true) else (if a0 = 8205 then (spec_RuneLine.j0 k a0 true) else ((spec_RuneBidi.f k a0).bind fun t155 => (spec_RuneLine.j0 k a0 (decide (t155 ≥ 14))))))))))) = some r := h
 clear h
 by_cases c2 : a0 = 10
 ·rw [if_pos c2] at H
  have c2b0 : (a0 == 10) = true := beq_iff_eq.mpr c2
  have c2b1 : (a0 != 10) = false := bne_eq_false_iff_eq.mpr c2
  clear c2
  obtain rfl := Option.some.inj H
  go_enter Try.func37, Try.ntmps37
  go_wp2
  go_ret
  exact ⟨by first | rfl | (simp [errW_none, errW_some] <;> rfl) | (simp [*, errW_none, errW_some] <;> rfl), by repeat (first | (with_reducible first | exact HB.out | apply below_alloc | apply pw_below_drewN | apply below_drew1) | exact HB.out)⟩
 ·rw [if_neg c2] at H
  have c2b0 : (a0 == 10) = false := beq_eq_false_iff_ne.mpr c2
  have c2b1 : (a0 != 10) = true := bne_iff_ne.mpr c2
  by_cases c3 : a0 = 32
  ·rw [if_pos c3] at H
   have c3b0 : (a0 == 32) = true := beq_iff_eq.mpr c3
   have c3b1 : (a0 != 32) = false := bne_eq_false_iff_eq.mpr c3
   clear c3
   obtain rfl := Option.some.inj H
   go_enter Try.func37, Try.ntmps37
   go_wp2
   go_ret
   exact ⟨by first | rfl | (simp [errW_none, errW_some] <;> rfl) | (simp [*, errW_none, errW_some] <;> rfl), by repeat (first | (with_reducible first | exact HB.out | apply below_alloc | apply pw_below_drewN | apply below_drew1) | exact HB.out)⟩
  ·rw [if_neg c3] at H
   have c3b0 : (a0 == 32) = false := beq_eq_false_iff_ne.mpr c3
   have c3b1 : (a0 != 32) = true := bne_iff_ne.mpr c3
   by_cases c4 : a0 = 160
   ·rw [if_pos c4] at H
    have c4b0 : (a0 == 160) = true := beq_iff_eq.mpr c4
    have c4b1 : (a0 != 160) = false := bne_eq_false_iff_eq.mpr c4
    clear c4
    obtain rfl := Option.some.inj H
    go_enter Try.func37, Try.ntmps37
    go_wp2
    go_ret
    exact ⟨by first | rfl | (simp [errW_none, errW_some] <;> rfl) | (simp [*, errW_none, errW_some] <;> rfl), by repeat (first | (with_reducible first | exact HB.out | apply below_alloc | apply pw_below_drewN | apply below_drew1) | exact HB.out)⟩
   ·rw [if_neg c4] at H
    have c4b0 : (a0 == 160) = false := beq_eq_false_iff_ne.mpr c4
    have c4b1 : (a0 != 160) = true := bne_iff_ne.mpr c4
    by_cases c5 : a0 = 8203
    ·rw [if_pos c5] at H
     have c5b0 : (a0 == 8203) = true := beq_iff_eq.mpr c5
     have c5b1 : (a0 != 8203) = false := bne_eq_false_iff_eq.mpr c5
     clear c5
     obtain rfl := Option.some.inj H
     go_enter Try.func37, Try.ntmps37
     go_wp2
     go_ret
     exact ⟨by first | rfl | (simp [errW_none, errW_some] <;> rfl) | (simp [*, errW_none, errW_some] <;> rfl), by repeat (first | (with_reducible first | exact HB.out | apply below_alloc | apply pw_below_drewN | apply below_drew1) | exact HB.out)⟩
    ·rw [if_neg c5] at H
     have c5b0 : (a0 == 8203) = false := beq_eq_false_iff_ne.mpr c5
     have c5b1 : (a0 != 8203) = true := bne_iff_ne.mpr c5
     have HC6 := Aside0.mk H
     clear H
     go_enter Try.func37, Try.ntmps37
     go_upto_region 9 with (fail)
     go_cut [15] (fun v15 wc => ∃ (kq : Nat) (x15_5 : Bool), v15 = .bool x15_5 ∧ Aside0 (spec_RuneLine.j0 kq a0 x15_5 = some r) ∧ Aside0 (kq ≤ k) ∧ Aside0 (Below w.heap.size w wc))
     case first =>
      have H := HC6.out
      clear HC6
      replace H := Option.bind_eq_some_iff.mp H
      obtain ⟨t154, A70, H⟩ := H
      replace H : (if t154 = 9 then (spec_RuneLine.j0 k a0 true) else (if a0 = 8205 then (spec_RuneLine.j0 k a0 true) else ((spec_RuneBidi.f k a0).bind fun t155 => (spec_RuneLine.j0 k a0 (decide (t155 ≥ 14)))))) = some r := H
      have A7 := Aside0.mk A70
      clear A70
      by_cases c8 : t154 = 9
      ·rw [if_pos c8] at H
       have c8b0 : (t154 == 9) = true := beq_iff_eq.mpr c8
       have c8b1 : (t154 != 9) = false := bne_eq_false_iff_eq.mpr c8
       clear c8
       (first | rw [c8b0] | (simp only [i64_w, i32_w]; rw [c8b0]) | skip)
       have H' := Aside0.mk H
       clear H
       go_wp2_with (first | ((with_reducible refine gate_callee (f := 79) rfl ?_); refine goesL_ (some 17) rfl rfl Try.func79 (by kernel_rfl) rfl #[.int .i64 a0] rfl (by (try simp only [List.map_toArray, List.map_cons, List.map_nil]); first | done | rfl | (simp only [List.length_drop, List.length_take]; rfl)) ?_; (with_reducible refine (spec_RuneBidi.calls k a0 t154 _ A7.out).mono ?_); rintro e w9 ⟨rfl, hb⟩; refine ⟨_, rfl, ?_⟩; have n0_ := Aside0.mk (below_step (by repeat (first | (with_reducible first | exact HB.out | apply below_alloc | apply pw_below_drewN | apply below_drew1) | exact HB.out)) hb); clear HB; have HB := n0_; clear n0_; (try clear hb); (try clear hb2); (try clear hk); (try clear hi)))
       go_meet
       case rel => exact ⟨_, (true), (by first | rfl | (simp; done) | (simp [*]; done)), H', ⟨by first | omega | exact Nat.le_refl _⟩, ⟨by repeat (first | (with_reducible first | exact HB.out | apply below_alloc | apply pw_below_drewN | apply below_drew1) | exact HB.out)⟩⟩
      ·rw [if_neg c8] at H
       have c8b0 : (t154 == 9) = false := beq_eq_false_iff_ne.mpr c8
       have c8b1 : (t154 != 9) = true := bne_iff_ne.mpr c8
       (first | rw [c8b0] | (simp only [i64_w, i32_w]; rw [c8b0]) | skip)
       by_cases c10 : a0 = 8205
       ·rw [if_pos c10] at H
        have c10b0 : (a0 == 8205) = true := beq_iff_eq.mpr c10
        have c10b1 : (a0 != 8205) = false := bne_eq_false_iff_eq.mpr c10
        clear c10
        have H' := Aside0.mk H
        clear H
        go_wp2_with (first | ((with_reducible refine gate_callee (f := 79) rfl ?_); refine goesL_ (some 17) rfl rfl Try.func79 (by kernel_rfl) rfl #[.int .i64 a0] rfl (by (try simp only [List.map_toArray, List.map_cons, List.map_nil]); first | done | rfl | (simp only [List.length_drop, List.length_take]; rfl)) ?_; (with_reducible refine (spec_RuneBidi.calls k a0 t154 _ A7.out).mono ?_); rintro e w11 ⟨rfl, hb⟩; refine ⟨_, rfl, ?_⟩; have n0_ := Aside0.mk (below_step (by repeat (first | (with_reducible first | exact HB.out | apply below_alloc | apply pw_below_drewN | apply below_drew1) | exact HB.out)) hb); clear HB; have HB := n0_; clear n0_; (try clear hb); (try clear hb2); (try clear hk); (try clear hi)))
        go_meet
        case rel => exact ⟨_, (true), (by first | rfl | (simp; done) | (simp [*]; done)), H', ⟨by first | omega | exact Nat.le_refl _⟩, ⟨by repeat (first | (with_reducible first | exact HB.out | apply below_alloc | apply pw_below_drewN | apply below_drew1) | exact HB.out)⟩⟩
       ·rw [if_neg c10] at H
        have c10b0 : (a0 == 8205) = false := beq_eq_false_iff_ne.mpr c10
        have c10b1 : (a0 != 8205) = true := bne_iff_ne.mpr c10
        replace H := Option.bind_eq_some_iff.mp H
        obtain ⟨t155, A120, H⟩ := H
        replace H : (spec_RuneLine.j0 k a0 (decide (t155 ≥ 14))) = some r := H
        have A12 := Aside0.mk A120
        clear A120
        have H' := Aside0.mk H
        clear H
        go_wp2_with (first | ((with_reducible refine gate_callee (f := 79) rfl ?_); refine goesL_ (some 17) rfl rfl Try.func79 (by kernel_rfl) rfl #[.int .i64 a0] rfl (by (try simp only [List.map_toArray, List.map_cons, List.map_nil]); first | done | rfl | (simp only [List.length_drop, List.length_take]; rfl)) ?_; (with_reducible refine (spec_RuneBidi.calls k a0 t154 _ A7.out).mono ?_); rintro e w13 ⟨rfl, hb⟩; refine ⟨_, rfl, ?_⟩; have n0_ := Aside0.mk (below_step (by repeat (first | (with_reducible first | exact HB.out | apply below_alloc | apply pw_below_drewN | apply below_drew1) | exact HB.out)) hb); clear HB; have HB := n0_; clear n0_; (try clear hb); (try clear hb2); (try clear hk); (try clear hi)) | (go_at_call 79; (with_reducible refine (spec_RuneBidi.calls k a0 t155 _ A12.out).mono ?_); rintro e w14 ⟨rfl, hb⟩; have n0_ := Aside0.mk (below_step (by repeat (first | (with_reducible first | exact HB.out | apply below_alloc | apply pw_below_drewN | apply below_drew1) | exact HB.out)) hb); clear HB; have HB := n0_; clear n0_; (try clear hb); (try clear hb2); (try clear hk); (try clear hi)))
        go_meet
        case rel => exact ⟨_, (decide (t155 ≥ 14)), (by first | rfl | (simp; done) | (simp [*]; done)), H', ⟨by first | omega | exact Nat.le_refl _⟩, ⟨by repeat (first | (with_reducible first | exact HB.out | apply below_alloc | apply pw_below_drewN | apply below_drew1) | exact HB.out)⟩⟩
     case rest =>
      clear HC6
      try clear c1
      try clear c2
      try clear c2b0
      try clear c2b1
      try clear p2
      try clear c3
      try clear c3b0
      try clear c3b1
      try clear c4
      try clear c4b0
      try clear c4b1
      try clear c5
      try clear c5b0
      try clear c5b1
      try clear c7
      try clear c8
      try clear c8b0
      try clear c8b1
      try clear c10
      try clear c10b0
      try clear c10b1
      obtain ⟨kq, x15_5, rfl, HA, HJ5, HB⟩ := hcut
      cases kq with
      | zero => exact absurd HA.out (by simp [spec_RuneLine.j0])
      | succ kj5 =>
       have H := HA.out
       clear HA
       simp only [spec_RuneLine.j0] at H
       by_cases c15 : x15_5 = true
       ·subst c15
        have H1 : (some 7) = some r := by rw [if_pos rfl] at H; exact H
        clear H
        have H := H1
        clear H1
        obtain rfl := Option.some.inj H
        go_wp2
        go_ret
        exact ⟨by first | rfl | (simp [errW_none, errW_some] <;> rfl) | (simp [*, errW_none, errW_some] <;> rfl), by repeat (first | (with_reducible first | exact HB.out | apply below_alloc | apply pw_below_drewN | apply below_drew1) | exact HB.out)⟩
       ·replace c15 := Bool.eq_false_iff.mpr c15
        subst c15
        have H1 : ((spec_l1In.f a0 48 57).bind fun t156 => (if t156 = true then (spec_RuneLine.j1 kj5 a0 true) else ((spec_l1In.f a0 1632 1641).bind fun t157 => (spec_RuneLine.j1 kj5 a0 t157)))) = some r := by rw [if_neg (show ¬ (false = true) by decide)] at H; exact H
        clear H
        have H := H1
        clear H1
        have HC16 := Aside0.mk H
        clear H
        go_upto_region 11 with (fail)
        go_cut [28] (fun v28 wc => ∃ (kq : Nat) (x28_15 : Bool), v28 = .bool x28_15 ∧ Aside0 (spec_RuneLine.j1 kq a0 x28_15 = some r) ∧ Aside0 (kq ≤ kj5) ∧ Aside0 (Below w.heap.size w wc))
        case first =>
         have H := HC16.out
         clear HC16
         replace H := Option.bind_eq_some_iff.mp H
         obtain ⟨t156, A170, H⟩ := H
         replace H : (if t156 = true then (spec_RuneLine.j1 kj5 a0 true) else ((spec_l1In.f a0 1632 1641).bind fun t157 => (spec_RuneLine.j1 kj5 a0 t157))) = some r := H
         have A17 := Aside0.mk A170
         clear A170
         by_cases c18 : t156 = true
         ·subst c18
          have H1 : (spec_RuneLine.j1 kj5 a0 true) = some r := by rw [if_pos rfl] at H; exact H
          clear H
          have H := H1
          clear H1
          have H' := Aside0.mk H
          clear H
          go_wp2_with (first | ((with_reducible refine gate_callee (f := 74) rfl ?_); refine goesL_ (some 30) rfl rfl Try.func74 (by kernel_rfl) rfl #[.int .i64 a0, .int .i64 48, .int .i64 57] rfl (by (try simp only [List.map_toArray, List.map_cons, List.map_nil]); first | done | rfl | (simp only [List.length_drop, List.length_take]; rfl)) ?_; (with_reducible refine (spec_l1In.calls a0 48 57 true _ A17.out).mono ?_); rintro e w' ⟨rfl, ⟨nd, rfl⟩⟩; refine ⟨_, rfl, ?_⟩))
          go_meet
          case rel => exact ⟨_, (true), (by first | rfl | (simp; done) | (simp [*]; done)), H', ⟨by have := HJ5.out; first | omega | exact Nat.le_refl _⟩, ⟨by repeat (first | (with_reducible first | exact HB.out | apply below_alloc | apply pw_below_drewN | apply below_drew1) | exact HB.out)⟩⟩
         ·replace c18 := Bool.eq_false_iff.mpr c18
          subst c18
          have H1 : ((spec_l1In.f a0 1632 1641).bind fun t157 => (spec_RuneLine.j1 kj5 a0 t157)) = some r := by rw [if_neg (show ¬ (false = true) by decide)] at H; exact H
          clear H
          have H := H1
          clear H1
          replace H := Option.bind_eq_some_iff.mp H
          obtain ⟨t157, A190, H⟩ := H
          replace H : (spec_RuneLine.j1 kj5 a0 t157) = some r := H
          have A19 := Aside0.mk A190
          clear A190
          have H' := Aside0.mk H
          clear H
          go_wp2_with (first | ((with_reducible refine gate_callee (f := 74) rfl ?_); refine goesL_ (some 30) rfl rfl Try.func74 (by kernel_rfl) rfl #[.int .i64 a0, .int .i64 48, .int .i64 57] rfl (by (try simp only [List.map_toArray, List.map_cons, List.map_nil]); first | done | rfl | (simp only [List.length_drop, List.length_take]; rfl)) ?_; (with_reducible refine (spec_l1In.calls a0 48 57 false _ A17.out).mono ?_); rintro e w' ⟨rfl, ⟨nd, rfl⟩⟩; refine ⟨_, rfl, ?_⟩) | (go_at_call 74; (with_reducible refine (spec_l1In.calls a0 1632 1641 t157 _ A19.out).mono ?_); rintro e w' ⟨rfl, ⟨nd, rfl⟩⟩))
          go_meet
          case rel => exact ⟨_, (t157), (by first | rfl | (simp; done) | (simp [*]; done)), H', ⟨by have := HJ5.out; first | omega | exact Nat.le_refl _⟩, ⟨by repeat (first | (with_reducible first | exact HB.out | apply below_alloc | apply pw_below_drewN | apply below_drew1) | exact HB.out)⟩⟩
        case rest =>
         clear HC16
         try clear c1
         try clear c2
         try clear c2b0
         try clear c2b1
         try clear p2
         try clear c3
         try clear c3b0
         try clear c3b1
         try clear c4
         try clear c4b0
         try clear c4b1
         try clear c5
         try clear c5b0
         try clear c5b1
         try clear c7
         try clear c8
         try clear c8b0
         try clear c8b1
         try clear c10
         try clear c10b0
         try clear c10b1
         try clear c15
         try clear c18
         try clear p2
         obtain ⟨kq, x28_15, rfl, HA, HJ15, HB⟩ := hcut
         cases kq with
         | zero => exact absurd HA.out (by simp [spec_RuneLine.j1])
         | succ kj15 =>
          have H := HA.out
          clear HA
          simp only [spec_RuneLine.j1] at H
          by_cases c20 : x28_15 = true
          ·subst c20
           have H1 : (some 2) = some r := by rw [if_pos rfl] at H; exact H
           clear H
           have H := H1
           clear H1
           obtain rfl := Option.some.inj H
           go_wp2
           go_ret
           exact ⟨by first | rfl | (simp [errW_none, errW_some] <;> rfl) | (simp [*, errW_none, errW_some] <;> rfl), by repeat (first | (with_reducible first | exact HB.out | apply below_alloc | apply pw_below_drewN | apply below_drew1) | exact HB.out)⟩
          ·replace c20 := Bool.eq_false_iff.mpr c20
           subst c20
           have H1 : ((spec_l1In.f a0 19968 40959).bind fun t158 => (if t158 = true then (some 15) else ((spec_l5Signs.f kj15 a0).bind fun t159 => (some t159)))) = some r := by rw [if_neg (show ¬ (false = true) by decide)] at H; exact H
           clear H
           have H := H1
           clear H1
           replace H := Option.bind_eq_some_iff.mp H
           obtain ⟨t158, A210, H⟩ := H
           replace H : (if t158 = true then (some 15) else ((spec_l5Signs.f kj15 a0).bind fun t159 => (some t159))) = some r := H
           have A21 := Aside0.mk A210
           clear A210
           by_cases c22 : t158 = true
           ·subst c22
            have H1 : (some 15) = some r := by rw [if_pos rfl] at H; exact H
            clear H
            have H := H1
            clear H1
            obtain rfl := Option.some.inj H
            go_wp2_with (first | ((with_reducible refine gate_callee (f := 74) rfl ?_); refine goesL_ (some 37) rfl rfl Try.func74 (by kernel_rfl) rfl #[.int .i64 a0, .int .i64 19968, .int .i64 40959] rfl (by (try simp only [List.map_toArray, List.map_cons, List.map_nil]); first | done | rfl | (simp only [List.length_drop, List.length_take]; rfl)) ?_; (with_reducible refine (spec_l1In.calls a0 19968 40959 true _ A21.out).mono ?_); rintro e w' ⟨rfl, ⟨nd, rfl⟩⟩; refine ⟨_, rfl, ?_⟩))
            go_ret
            exact ⟨by first | rfl | (simp [errW_none, errW_some] <;> rfl) | (simp [*, errW_none, errW_some] <;> rfl), by repeat (first | (with_reducible first | exact HB.out | apply below_alloc | apply pw_below_drewN | apply below_drew1) | exact HB.out)⟩
           ·replace c22 := Bool.eq_false_iff.mpr c22
            subst c22
            have H1 : ((spec_l5Signs.f kj15 a0).bind fun t159 => (some t159)) = some r := by rw [if_neg (show ¬ (false = true) by decide)] at H; exact H
            clear H
            have H := H1
            clear H1
            replace H := Option.bind_eq_some_iff.mp H
            obtain ⟨t159, A230, H⟩ := H
            replace H : (some t159) = some r := H
            have A23 := Aside0.mk A230
            clear A230
            obtain rfl := Option.some.inj H
            go_wp2_with (first | ((with_reducible refine gate_callee (f := 74) rfl ?_); refine goesL_ (some 37) rfl rfl Try.func74 (by kernel_rfl) rfl #[.int .i64 a0, .int .i64 19968, .int .i64 40959] rfl (by (try simp only [List.map_toArray, List.map_cons, List.map_nil]); first | done | rfl | (simp only [List.length_drop, List.length_take]; rfl)) ?_; (with_reducible refine (spec_l1In.calls a0 19968 40959 false _ A21.out).mono ?_); rintro e w' ⟨rfl, ⟨nd, rfl⟩⟩; refine ⟨_, rfl, ?_⟩) | ((with_reducible refine gate_callee (f := 80) rfl ?_); refine goesL_ (some 39) rfl rfl Try.func80 (by kernel_rfl) rfl #[.int .i64 a0] rfl (by (try simp only [List.map_toArray, List.map_cons, List.map_nil]); first | done | rfl | (simp only [List.length_drop, List.length_take]; rfl)) ?_; (with_reducible refine (spec_l5Signs.calls kj15 a0 t159 _ A23.out).mono ?_); rintro e w' ⟨rfl, ⟨nd, rfl⟩⟩; refine ⟨_, rfl, ?_⟩))
            go_ret
            exact ⟨by first | rfl | (simp [errW_none, errW_some] <;> rfl) | (simp [*, errW_none, errW_some] <;> rfl), by repeat (first | (with_reducible first | exact HB.out | apply below_alloc | apply pw_below_drewN | apply below_drew1) | exact HB.out)⟩

end Go.Proofs.Ytmjhdgofepdgkaa.PFnBreaks
