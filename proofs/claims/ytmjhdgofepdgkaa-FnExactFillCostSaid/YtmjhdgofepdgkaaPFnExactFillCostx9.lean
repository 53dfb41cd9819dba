-- Written by a program of this session (wip/tools) out of the translation; its shape is that of the kit print.
import Derived.Test.YtmjhdgofepdgkaaPFnExactFillCostx0
import Derived.Test.YtmjhdgofepdgkaaPFnExactFillCostx7
import Derived.Test.YtmjhdgofepdgkaaPFnExactFillCostx8
namespace Go.Proofs.Ytmjhdgofepdgkaa.PFnExactFillCost
open Go.RowKit Go.Proofs.YtmjhdgofepdgkaaW.PrintWords Go.Proofs.YtmjhdgofepdgkaaW.PrintLast Go.Proofs.YtmjhdgofepdgkaaW.PrintMore
attribute [local go_sem] zbb zcb zjb zkb zxa zya zdb zeb
set_option linter.unusedVariables false
set_option maxHeartbeats 8000000
set_option maxRecDepth 100000
set_option linter.unusedSimpArgs false
mutual
def spec_l5Place.j0 : Nat → Int → Int → Int → Bool → Option (Int)
 | 0, _, _, _, _ => none
 | k + 1, x0, x1, x2, x10 => if x10 = true then (some 0) else (if x2 = 6 then (some 1) else (if x0 = 5 then (spec_l5Place.j1 k x0 x1 x2 true) else (if x1 = 5 then (if x0 = 3 then (spec_l5Place.j1 k x0 x1 x2 false) else (if x0 = 14 then (spec_l5Place.j1 k x0 x1 x2 false) else (spec_l5Place.j1 k x0 x1 x2 (x0 != 12)))) else (spec_l5Place.j1 k x0 x1 x2 false))))
def spec_l5Place.j1 : Nat → Int → Int → Int → Bool → Option (Int)
 | 0, _, _, _, _ => none
 | k + 1, x0, x1, x2, x24 => if x24 = true then (some 0) else ((spec_l5Never.f x1).bind fun t225 => (if t225 = true then (if x0 = 3 then ((spec_l5Never.f x1).bind fun t226 => (if t226 = true then (if x2 = 0 then (spec_l5Place.j2 k x0 x1 x2 false) else (spec_l5Place.j2 k x0 x1 x2 (x1 != 13))) else (spec_l5Place.j2 k x0 x1 x2 false))) else (spec_l5Place.j2 k x0 x1 x2 true)) else ((spec_l5Never.f x1).bind fun t227 => (if t227 = true then (if x2 = 0 then (spec_l5Place.j2 k x0 x1 x2 false) else (spec_l5Place.j2 k x0 x1 x2 (x1 != 13))) else (spec_l5Place.j2 k x0 x1 x2 false)))))
def spec_l5Place.j2 : Nat → Int → Int → Int → Bool → Option (Int)
 | 0, _, _, _, _ => none
 | k + 1, x0, x1, x2, x43 => if x43 = true then (some 0) else (if x2 = 8 then (some 0) else (if x0 = 3 then (some 1) else (if x0 = 11 then (some 0) else (if x1 = 11 then (some 0) else (if x1 = 14 then (some 0) else (if x1 = 12 then (some 0) else ((spec_l5Inner.f k x0 x1).bind fun t228 => (some t228))))))))
end
def spec_l5Place.f (k : Nat) (a0 : Int) (a1 : Int) (a2 : Int) : Option (Int) := if a0 = 4 then (some 2) else (if a1 = 4 then (spec_l5Place.j0 k a0 a1 a2 true) else (if a1 = 3 then (spec_l5Place.j0 k a0 a1 a2 true) else (spec_l5Place.j0 k a0 a1 a2 (a1 == 6))))
theorem spec_l5Place.calls (k : Nat) (a0 : Int) (a1 : Int) (a2 : Int) (r : Int) (w : World) (h : spec_l5Place.f k a0 a1 a2 = some r) :
  Calls Try.prog 114 #[.int .i64 a0, .int .i64 a1, .int .i64 a2] w fun e w' => e = .returned (.int .i64 r) ∧ zm w w' := by
 have H : (if a0 = 4 then (some 2) else (if a1 = 4 then (spec_l5Place.j0 k a0 a1 a2 true) else (if a1 = 3 then (spec_l5Place.j0 k a0 a1 a2 true) else (spec_l5Place.j0 k a0 a1 a2 (a1 == 6))))) = some r := h
 clear h
 by_cases c4 : a0 = 4
 ·rw [if_pos c4] at H
  have c4b0 : (a0 == 4) = true := beq_iff_eq.mpr c4
  have c4b1 : (a0 != 4) = false := bne_eq_false_iff_eq.mpr c4
  clear c4
  obtain rfl := Option.some.inj H
  go_enter Try.func114, Try.ntmps114
  go_wp2
  go_ret
  exact ⟨by first | rfl | (simp; done) | (simp [*]; done), by repeat (first | exact zm.refl _ | apply zm.step)⟩
 ·rw [if_neg c4] at H
  have c4b0 : (a0 == 4) = false := beq_eq_false_iff_ne.mpr c4
  have c4b1 : (a0 != 4) = true := bne_iff_ne.mpr c4
  have HC5 := za.mk H
  clear H
  go_enter Try.func114, Try.ntmps114
  go_upto_region 3 with (fail)
  go_cut [10] (fun v10 wc => ∃ (kq : Nat) (x10_4 : Bool), v10 = .bool x10_4 ∧ za (spec_l5Place.j0 kq a0 a1 a2 x10_4 = some r) ∧ za (kq ≤ k) ∧ zm w wc)
  case first =>
   have H := HC5.out
   clear HC5
   by_cases c6 : a1 = 4
   ·rw [if_pos c6] at H
    have c6b0 : (a1 == 4) = true := beq_iff_eq.mpr c6
    have c6b1 : (a1 != 4) = false := bne_eq_false_iff_eq.mpr c6
    clear c6
    (first | rw [c6b0] | (simp only [zr, zs]; rw [c6b0]) | skip)
    have H' := za.mk H
    clear H
    go_wp2
    go_meet
    case rel => exact ⟨_, (true), (by first | rfl | (simp; done) | (simp [*]; done)), H', ⟨by first | omega | exact Nat.le_refl _⟩, by repeat (first | exact zm.refl _ | apply zm.step)⟩
   ·rw [if_neg c6] at H
    have c6b0 : (a1 == 4) = false := beq_eq_false_iff_ne.mpr c6
    have c6b1 : (a1 != 4) = true := bne_iff_ne.mpr c6
    (first | rw [c6b0] | (simp only [zr, zs]; rw [c6b0]) | skip)
    by_cases c7 : a1 = 3
    ·rw [if_pos c7] at H
     have c7b0 : (a1 == 3) = true := beq_iff_eq.mpr c7
     have c7b1 : (a1 != 3) = false := bne_eq_false_iff_eq.mpr c7
     clear c7
     have H' := za.mk H
     clear H
     go_wp2
     go_meet
     case rel => exact ⟨_, (true), (by first | rfl | (simp; done) | (simp [*]; done)), H', ⟨by first | omega | exact Nat.le_refl _⟩, by repeat (first | exact zm.refl _ | apply zm.step)⟩
    ·rw [if_neg c7] at H
     have c7b0 : (a1 == 3) = false := beq_eq_false_iff_ne.mpr c7
     have c7b1 : (a1 != 3) = true := bne_iff_ne.mpr c7
     have H' := za.mk H
     clear H
     go_wp2
     go_meet
     case rel => exact ⟨_, ((a1 == 6)), (by first | rfl | (simp; done) | (simp [*]; done)), H', ⟨by first | omega | exact Nat.le_refl _⟩, by repeat (first | exact zm.refl _ | apply zm.step)⟩
  case rest =>
   clear HC5
   try clear c1
   try clear p2
   try clear c4
   try clear c4b0
   try clear c4b1
   try clear c6
   try clear c6b0
   try clear c6b1
   try clear c7
   try clear c7b0
   try clear c7b1
   obtain ⟨kq, x10_4, rfl, HA, HJ4, ⟨mc4, rfl⟩⟩ := hcut
   cases kq with
   | zero => exact absurd HA.out (by simp [spec_l5Place.j0])
   | succ kj4 =>
    have H := HA.out
    clear HA
    simp only [spec_l5Place.j0] at H
    by_cases c8 : x10_4 = true
    ·subst c8
     have H1 : (some 0) = some r := by rw [if_pos rfl] at H; exact H
     clear H
     have H := H1
     clear H1
     obtain rfl := Option.some.inj H
     go_wp2
     go_ret
     exact ⟨by first | rfl | (simp; done) | (simp [*]; done), by repeat (first | exact zm.refl _ | apply zm.step)⟩
    ·replace c8 := Bool.eq_false_iff.mpr c8
     subst c8
     have H1 : (if a2 = 6 then (some 1) else (if a0 = 5 then (spec_l5Place.j1 kj4 a0 a1 a2 true) else (if a1 = 5 then (if a0 = 3 then (spec_l5Place.j1 kj4 a0 a1 a2 false) else (if a0 = 14 then (spec_l5Place.j1 kj4 a0 a1 a2 false) else (spec_l5Place.j1 kj4 a0 a1 a2 (a0 != 12)))) else (spec_l5Place.j1 kj4 a0 a1 a2 false)))) = some r := by rw [if_neg (show ¬ (false = true) by decide)] at H; exact H
     clear H
     have H := H1
     clear H1
     by_cases c9 : a2 = 6
     ·rw [if_pos c9] at H
      have c9b0 : (a2 == 6) = true := beq_iff_eq.mpr c9
      have c9b1 : (a2 != 6) = false := bne_eq_false_iff_eq.mpr c9
      clear c9
      obtain rfl := Option.some.inj H
      go_wp2
      go_ret
      exact ⟨by first | rfl | (simp; done) | (simp [*]; done), by repeat (first | exact zm.refl _ | apply zm.step)⟩
     ·rw [if_neg c9] at H
      have c9b0 : (a2 == 6) = false := beq_eq_false_iff_ne.mpr c9
      have c9b1 : (a2 != 6) = true := bne_iff_ne.mpr c9
      have HC10 := za.mk H
      clear H
      go_upto_region 7 with (fail)
      go_cut [24] (fun v24 wc => ∃ (kq : Nat) (x24_9 : Bool), v24 = .bool x24_9 ∧ za (spec_l5Place.j1 kq a0 a1 a2 x24_9 = some r) ∧ za (kq ≤ kj4) ∧ zm w wc)
      case first =>
       have H := HC10.out
       clear HC10
       by_cases c11 : a0 = 5
       ·rw [if_pos c11] at H
        have c11b0 : (a0 == 5) = true := beq_iff_eq.mpr c11
        have c11b1 : (a0 != 5) = false := bne_eq_false_iff_eq.mpr c11
        clear c11
        (first | rw [c11b0] | (simp only [zr, zs]; rw [c11b0]) | skip)
        have H' := za.mk H
        clear H
        go_wp2
        go_meet
        case rel => exact ⟨_, (true), (by first | rfl | (simp; done) | (simp [*]; done)), H', ⟨by have := HJ4.out; first | omega | exact Nat.le_refl _⟩, by repeat (first | exact zm.refl _ | apply zm.step)⟩
       ·rw [if_neg c11] at H
        have c11b0 : (a0 == 5) = false := beq_eq_false_iff_ne.mpr c11
        have c11b1 : (a0 != 5) = true := bne_iff_ne.mpr c11
        (first | rw [c11b0] | (simp only [zr, zs]; rw [c11b0]) | skip)
        by_cases c12 : a1 = 5
        ·rw [if_pos c12] at H
         have c12b0 : (a1 == 5) = true := beq_iff_eq.mpr c12
         have c12b1 : (a1 != 5) = false := bne_eq_false_iff_eq.mpr c12
         clear c12
         by_cases c13 : a0 = 3
         ·rw [if_pos c13] at H
          have c13b0 : (a0 == 3) = true := beq_iff_eq.mpr c13
          have c13b1 : (a0 != 3) = false := bne_eq_false_iff_eq.mpr c13
          clear c13
          have H' := za.mk H
          clear H
          go_wp2
          go_meet
          case rel => exact ⟨_, (false), (by first | rfl | (simp; done) | (simp [*]; done)), H', ⟨by have := HJ4.out; first | omega | exact Nat.le_refl _⟩, by repeat (first | exact zm.refl _ | apply zm.step)⟩
         ·rw [if_neg c13] at H
          have c13b0 : (a0 == 3) = false := beq_eq_false_iff_ne.mpr c13
          have c13b1 : (a0 != 3) = true := bne_iff_ne.mpr c13
          by_cases c14 : a0 = 14
          ·rw [if_pos c14] at H
           have c14b0 : (a0 == 14) = true := beq_iff_eq.mpr c14
           have c14b1 : (a0 != 14) = false := bne_eq_false_iff_eq.mpr c14
           clear c14
           have H' := za.mk H
           clear H
           go_wp2
           go_meet
           case rel => exact ⟨_, (false), (by first | rfl | (simp; done) | (simp [*]; done)), H', ⟨by have := HJ4.out; first | omega | exact Nat.le_refl _⟩, by repeat (first | exact zm.refl _ | apply zm.step)⟩
          ·rw [if_neg c14] at H
           have c14b0 : (a0 == 14) = false := beq_eq_false_iff_ne.mpr c14
           have c14b1 : (a0 != 14) = true := bne_iff_ne.mpr c14
           have H' := za.mk H
           clear H
           go_wp2
           go_meet
           case rel => exact ⟨_, ((a0 != 12)), (by first | rfl | (simp; done) | (simp [*]; done)), H', ⟨by have := HJ4.out; first | omega | exact Nat.le_refl _⟩, by repeat (first | exact zm.refl _ | apply zm.step)⟩
        ·rw [if_neg c12] at H
         have c12b0 : (a1 == 5) = false := beq_eq_false_iff_ne.mpr c12
         have c12b1 : (a1 != 5) = true := bne_iff_ne.mpr c12
         have H' := za.mk H
         clear H
         go_wp2
         go_meet
         case rel => exact ⟨_, (false), (by first | rfl | (simp; done) | (simp [*]; done)), H', ⟨by have := HJ4.out; first | omega | exact Nat.le_refl _⟩, by repeat (first | exact zm.refl _ | apply zm.step)⟩
      case rest =>
       clear HC10
       try clear c1
       try clear p2
       try clear c4
       try clear c4b0
       try clear c4b1
       try clear c6
       try clear c6b0
       try clear c6b1
       try clear c7
       try clear c7b0
       try clear c7b1
       try clear c8
       try clear c9
       try clear c9b0
       try clear c9b1
       try clear c11
       try clear c11b0
       try clear c11b1
       try clear c12
       try clear c12b0
       try clear c12b1
       try clear c13
       try clear c13b0
       try clear c13b1
       try clear c14
       try clear c14b0
       try clear c14b1
       try clear p2
       obtain ⟨kq, x24_9, rfl, HA, HJ9, ⟨mc9, rfl⟩⟩ := hcut
       cases kq with
       | zero => exact absurd HA.out (by simp [spec_l5Place.j1])
       | succ kj9 =>
        have H := HA.out
        clear HA
        simp only [spec_l5Place.j1] at H
        by_cases c15 : x24_9 = true
        ·subst c15
         have H1 : (some 0) = some r := by rw [if_pos rfl] at H; exact H
         clear H
         have H := H1
         clear H1
         obtain rfl := Option.some.inj H
         go_wp2
         go_ret
         exact ⟨by first | rfl | (simp; done) | (simp [*]; done), by repeat (first | exact zm.refl _ | apply zm.step)⟩
        ·replace c15 := Bool.eq_false_iff.mpr c15
         subst c15
         have H1 : ((spec_l5Never.f a1).bind fun t225 => (if t225 = true then (if a0 = 3 then ((spec_l5Never.f a1).bind fun t226 => (if t226 = true then (if a2 = 0 then (spec_l5Place.j2 kj9 a0 a1 a2 false) else (spec_l5Place.j2 kj9 a0 a1 a2 (a1 != 13))) else (spec_l5Place.j2 kj9 a0 a1 a2 false))) else (spec_l5Place.j2 kj9 a0 a1 a2 true)) else ((spec_l5Never.f a1).bind fun t227 => (if t227 = true then (if a2 = 0 then (spec_l5Place.j2 kj9 a0 a1 a2 false) else (spec_l5Place.j2 kj9 a0 a1 a2 (a1 != 13))) else (spec_l5Place.j2 kj9 a0 a1 a2 false))))) = some r := by rw [if_neg (show ¬ (false = true) by decide)] at H; exact H
         clear H
         have H := H1
         clear H1
         have HC16 := za.mk H
         clear H
         go_upto_region 9 with (fail)
         go_cut [43] (fun v43 wc => ∃ (kq : Nat) (x43_15 : Bool), v43 = .bool x43_15 ∧ za (spec_l5Place.j2 kq a0 a1 a2 x43_15 = some r) ∧ za (kq ≤ kj9) ∧ zm w wc)
         case first =>
          have H := HC16.out
          clear HC16
          replace H := Option.bind_eq_some_iff.mp H
          obtain ⟨t225, A170, H⟩ := H
          replace H : (if t225 = true then (if a0 = 3 then ((spec_l5Never.f a1).bind fun t226 => (if t226 = true then (if a2 = 0 then (spec_l5Place.j2 kj9 a0 a1 a2 false) else (spec_l5Place.j2 kj9 a0 a1 a2 (a1 != 13))) else (spec_l5Place.j2 kj9 a0 a1 a2 false))) else (spec_l5Place.j2 kj9 a0 a1 a2 true)) else ((spec_l5Never.f a1).bind fun t227 => (if t227 = true then (if a2 = 0 then (spec_l5Place.j2 kj9 a0 a1 a2 false) else (spec_l5Place.j2 kj9 a0 a1 a2 (a1 != 13))) else (spec_l5Place.j2 kj9 a0 a1 a2 false)))) = some r := H
          have A17 := za.mk A170
          clear A170
          by_cases c18 : t225 = true
          ·subst c18
           have H1 : (if a0 = 3 then ((spec_l5Never.f a1).bind fun t226 => (if t226 = true then (if a2 = 0 then (spec_l5Place.j2 kj9 a0 a1 a2 false) else (spec_l5Place.j2 kj9 a0 a1 a2 (a1 != 13))) else (spec_l5Place.j2 kj9 a0 a1 a2 false))) else (spec_l5Place.j2 kj9 a0 a1 a2 true)) = some r := by rw [if_pos rfl] at H; exact H
           clear H
           have H := H1
           clear H1
           by_cases c19 : a0 = 3
           ·rw [if_pos c19] at H
            have c19b0 : (a0 == 3) = true := beq_iff_eq.mpr c19
            have c19b1 : (a0 != 3) = false := bne_eq_false_iff_eq.mpr c19
            clear c19
            (first | rw [c19b0] | (simp only [zr, zs]; rw [c19b0]) | skip)
            replace H := Option.bind_eq_some_iff.mp H
            obtain ⟨t226, A200, H⟩ := H
            replace H : (if t226 = true then (if a2 = 0 then (spec_l5Place.j2 kj9 a0 a1 a2 false) else (spec_l5Place.j2 kj9 a0 a1 a2 (a1 != 13))) else (spec_l5Place.j2 kj9 a0 a1 a2 false)) = some r := H
            have A20 := za.mk A200
            clear A200
            by_cases c21 : t226 = true
            ·subst c21
             have H1 : (if a2 = 0 then (spec_l5Place.j2 kj9 a0 a1 a2 false) else (spec_l5Place.j2 kj9 a0 a1 a2 (a1 != 13))) = some r := by rw [if_pos rfl] at H; exact H
             clear H
             have H := H1
             clear H1
             by_cases c22 : a2 = 0
             ·rw [if_pos c22] at H
              have c22b0 : (a2 == 0) = true := beq_iff_eq.mpr c22
              have c22b1 : (a2 != 0) = false := bne_eq_false_iff_eq.mpr c22
              clear c22
              have H' := za.mk H
              clear H
              go_wp2_with (first | ((with_reducible refine zj (f := 130) rfl ?_); refine zgo (some 45) Try.func130 #[.int .i64 a1] rfl ?_; (with_reducible refine (spec_l5Never.calls a1 true _ A17.out).mono ?_); rintro e w' ⟨rfl, ⟨nd, rfl⟩⟩; refine ⟨_, rfl, ?_⟩) | (go_at_call 130; (with_reducible refine (spec_l5Never.calls a1 true _ A20.out).mono ?_); rintro e w' ⟨rfl, ⟨nd, rfl⟩⟩))
              go_meet
              case rel => exact ⟨_, (false), (by first | rfl | (simp; done) | (simp [*]; done)), H', ⟨by have := HJ4.out; have := HJ9.out; first | omega | exact Nat.le_refl _⟩, by repeat (first | exact zm.refl _ | apply zm.step)⟩
             ·rw [if_neg c22] at H
              have c22b0 : (a2 == 0) = false := beq_eq_false_iff_ne.mpr c22
              have c22b1 : (a2 != 0) = true := bne_iff_ne.mpr c22
              have H' := za.mk H
              clear H
              go_wp2_with (first | ((with_reducible refine zj (f := 130) rfl ?_); refine zgo (some 45) Try.func130 #[.int .i64 a1] rfl ?_; (with_reducible refine (spec_l5Never.calls a1 true _ A17.out).mono ?_); rintro e w' ⟨rfl, ⟨nd, rfl⟩⟩; refine ⟨_, rfl, ?_⟩) | (go_at_call 130; (with_reducible refine (spec_l5Never.calls a1 true _ A20.out).mono ?_); rintro e w' ⟨rfl, ⟨nd, rfl⟩⟩))
              go_meet
              case rel => exact ⟨_, ((a1 != 13)), (by first | rfl | (simp; done) | (simp [*]; done)), H', ⟨by have := HJ4.out; have := HJ9.out; first | omega | exact Nat.le_refl _⟩, by repeat (first | exact zm.refl _ | apply zm.step)⟩
            ·replace c21 := Bool.eq_false_iff.mpr c21
             subst c21
             have H1 : (spec_l5Place.j2 kj9 a0 a1 a2 false) = some r := by rw [if_neg (show ¬ (false = true) by decide)] at H; exact H
             clear H
             have H := H1
             clear H1
             have H' := za.mk H
             clear H
             go_wp2_with (first | ((with_reducible refine zj (f := 130) rfl ?_); refine zgo (some 45) Try.func130 #[.int .i64 a1] rfl ?_; (with_reducible refine (spec_l5Never.calls a1 true _ A17.out).mono ?_); rintro e w' ⟨rfl, ⟨nd, rfl⟩⟩; refine ⟨_, rfl, ?_⟩) | (go_at_call 130; (with_reducible refine (spec_l5Never.calls a1 false _ A20.out).mono ?_); rintro e w' ⟨rfl, ⟨nd, rfl⟩⟩))
             go_meet
             case rel => exact ⟨_, (false), (by first | rfl | (simp; done) | (simp [*]; done)), H', ⟨by have := HJ4.out; have := HJ9.out; first | omega | exact Nat.le_refl _⟩, by repeat (first | exact zm.refl _ | apply zm.step)⟩
           ·rw [if_neg c19] at H
            have c19b0 : (a0 == 3) = false := beq_eq_false_iff_ne.mpr c19
            have c19b1 : (a0 != 3) = true := bne_iff_ne.mpr c19
            (first | rw [c19b0] | (simp only [zr, zs]; rw [c19b0]) | skip)
            have H' := za.mk H
            clear H
            go_wp2_with (first | ((with_reducible refine zj (f := 130) rfl ?_); refine zgo (some 45) Try.func130 #[.int .i64 a1] rfl ?_; (with_reducible refine (spec_l5Never.calls a1 true _ A17.out).mono ?_); rintro e w' ⟨rfl, ⟨nd, rfl⟩⟩; refine ⟨_, rfl, ?_⟩))
            go_meet
            case rel => exact ⟨_, (true), (by first | rfl | (simp; done) | (simp [*]; done)), H', ⟨by have := HJ4.out; have := HJ9.out; first | omega | exact Nat.le_refl _⟩, by repeat (first | exact zm.refl _ | apply zm.step)⟩
          ·replace c18 := Bool.eq_false_iff.mpr c18
           subst c18
           have H1 : ((spec_l5Never.f a1).bind fun t227 => (if t227 = true then (if a2 = 0 then (spec_l5Place.j2 kj9 a0 a1 a2 false) else (spec_l5Place.j2 kj9 a0 a1 a2 (a1 != 13))) else (spec_l5Place.j2 kj9 a0 a1 a2 false))) = some r := by rw [if_neg (show ¬ (false = true) by decide)] at H; exact H
           clear H
           have H := H1
           clear H1
           replace H := Option.bind_eq_some_iff.mp H
           obtain ⟨t227, A230, H⟩ := H
           replace H : (if t227 = true then (if a2 = 0 then (spec_l5Place.j2 kj9 a0 a1 a2 false) else (spec_l5Place.j2 kj9 a0 a1 a2 (a1 != 13))) else (spec_l5Place.j2 kj9 a0 a1 a2 false)) = some r := H
           have A23 := za.mk A230
           clear A230
           by_cases c24 : t227 = true
           ·subst c24
            have H1 : (if a2 = 0 then (spec_l5Place.j2 kj9 a0 a1 a2 false) else (spec_l5Place.j2 kj9 a0 a1 a2 (a1 != 13))) = some r := by rw [if_pos rfl] at H; exact H
            clear H
            have H := H1
            clear H1
            by_cases c25 : a2 = 0
            ·rw [if_pos c25] at H
             have c25b0 : (a2 == 0) = true := beq_iff_eq.mpr c25
             have c25b1 : (a2 != 0) = false := bne_eq_false_iff_eq.mpr c25
             clear c25
             have H' := za.mk H
             clear H
             go_wp2_with (first | ((with_reducible refine zj (f := 130) rfl ?_); refine zgo (some 45) Try.func130 #[.int .i64 a1] rfl ?_; (with_reducible refine (spec_l5Never.calls a1 false _ A17.out).mono ?_); rintro e w' ⟨rfl, ⟨nd, rfl⟩⟩; refine ⟨_, rfl, ?_⟩) | (go_at_call 130; (with_reducible refine (spec_l5Never.calls a1 true _ A23.out).mono ?_); rintro e w' ⟨rfl, ⟨nd, rfl⟩⟩))
             go_meet
             case rel => exact ⟨_, (false), (by first | rfl | (simp; done) | (simp [*]; done)), H', ⟨by have := HJ4.out; have := HJ9.out; first | omega | exact Nat.le_refl _⟩, by repeat (first | exact zm.refl _ | apply zm.step)⟩
            ·rw [if_neg c25] at H
             have c25b0 : (a2 == 0) = false := beq_eq_false_iff_ne.mpr c25
             have c25b1 : (a2 != 0) = true := bne_iff_ne.mpr c25
             have H' := za.mk H
             clear H
             go_wp2_with (first | ((with_reducible refine zj (f := 130) rfl ?_); refine zgo (some 45) Try.func130 #[.int .i64 a1] rfl ?_; (with_reducible refine (spec_l5Never.calls a1 false _ A17.out).mono ?_); rintro e w' ⟨rfl, ⟨nd, rfl⟩⟩; refine ⟨_, rfl, ?_⟩) | (go_at_call 130; (with_reducible refine (spec_l5Never.calls a1 true _ A23.out).mono ?_); rintro e w' ⟨rfl, ⟨nd, rfl⟩⟩))
             go_meet
             case rel => exact ⟨_, ((a1 != 13)), (by first | rfl | (simp; done) | (simp [*]; done)), H', ⟨by have := HJ4.out; have := HJ9.out; first | omega | exact Nat.le_refl _⟩, by repeat (first | exact zm.refl _ | apply zm.step)⟩
           ·replace c24 := Bool.eq_false_iff.mpr c24
            subst c24
            have H1 : (spec_l5Place.j2 kj9 a0 a1 a2 false) = some r := by rw [if_neg (show ¬ (false = true) by decide)] at H; exact H
            clear H
            have H := H1
            clear H1
            have H' := za.mk H
            clear H
            go_wp2_with (first | ((with_reducible refine zj (f := 130) rfl ?_); refine zgo (some 45) Try.func130 #[.int .i64 a1] rfl ?_; (with_reducible refine (spec_l5Never.calls a1 false _ A17.out).mono ?_); rintro e w' ⟨rfl, ⟨nd, rfl⟩⟩; refine ⟨_, rfl, ?_⟩) | (go_at_call 130; (with_reducible refine (spec_l5Never.calls a1 false _ A23.out).mono ?_); rintro e w' ⟨rfl, ⟨nd, rfl⟩⟩))
            go_meet
            case rel => exact ⟨_, (false), (by first | rfl | (simp; done) | (simp [*]; done)), H', ⟨by have := HJ4.out; have := HJ9.out; first | omega | exact Nat.le_refl _⟩, by repeat (first | exact zm.refl _ | apply zm.step)⟩
         case rest =>
          clear HC16
          try clear c1
          try clear c2
          try clear p2
          try clear c4
          try clear c4b0
          try clear c4b1
          try clear c6
          try clear c6b0
          try clear c6b1
          try clear c7
          try clear c7b0
          try clear c7b1
          try clear c8
          try clear c9
          try clear c9b0
          try clear c9b1
          try clear c11
          try clear c11b0
          try clear c11b1
          try clear c12
          try clear c12b0
          try clear c12b1
          try clear c13
          try clear c13b0
          try clear c13b1
          try clear c14
          try clear c14b0
          try clear c14b1
          try clear c15
          try clear c18
          try clear c19
          try clear c19b0
          try clear c19b1
          try clear c21
          try clear c22
          try clear c22b0
          try clear c22b1
          try clear c24
          try clear c25
          try clear c25b0
          try clear c25b1
          try clear p2
          obtain ⟨kq, x43_15, rfl, HA, HJ15, ⟨mc15, rfl⟩⟩ := hcut
          cases kq with
          | zero => exact absurd HA.out (by simp [spec_l5Place.j2])
          | succ kj15 =>
           have H := HA.out
           clear HA
           simp only [spec_l5Place.j2] at H
           by_cases c26 : x43_15 = true
           ·subst c26
            have H1 : (some 0) = some r := by rw [if_pos rfl] at H; exact H
            clear H
            have H := H1
            clear H1
            obtain rfl := Option.some.inj H
            go_wp2
            go_ret
            exact ⟨by first | rfl | (simp; done) | (simp [*]; done), by repeat (first | exact zm.refl _ | apply zm.step)⟩
           ·replace c26 := Bool.eq_false_iff.mpr c26
            subst c26
            have H1 : (if a2 = 8 then (some 0) else (if a0 = 3 then (some 1) else (if a0 = 11 then (some 0) else (if a1 = 11 then (some 0) else (if a1 = 14 then (some 0) else (if a1 = 12 then (some 0) else ((spec_l5Inner.f kj15 a0 a1).bind fun t228 => (some t228)))))))) = some r := by rw [if_neg (show ¬ (false = true) by decide)] at H; exact H
            clear H
            have H := H1
            clear H1
            by_cases c27 : a2 = 8
            ·rw [if_pos c27] at H
             have c27b0 : (a2 == 8) = true := beq_iff_eq.mpr c27
             have c27b1 : (a2 != 8) = false := bne_eq_false_iff_eq.mpr c27
             clear c27
             obtain rfl := Option.some.inj H
             go_wp2
             go_ret
             exact ⟨by first | rfl | (simp; done) | (simp [*]; done), by repeat (first | exact zm.refl _ | apply zm.step)⟩
            ·rw [if_neg c27] at H
             have c27b0 : (a2 == 8) = false := beq_eq_false_iff_ne.mpr c27
             have c27b1 : (a2 != 8) = true := bne_iff_ne.mpr c27
             by_cases c28 : a0 = 3
             ·rw [if_pos c28] at H
              have c28b0 : (a0 == 3) = true := beq_iff_eq.mpr c28
              have c28b1 : (a0 != 3) = false := bne_eq_false_iff_eq.mpr c28
              clear c28
              obtain rfl := Option.some.inj H
              go_wp2
              go_ret
              exact ⟨by first | rfl | (simp; done) | (simp [*]; done), by repeat (first | exact zm.refl _ | apply zm.step)⟩
             ·rw [if_neg c28] at H
              have c28b0 : (a0 == 3) = false := beq_eq_false_iff_ne.mpr c28
              have c28b1 : (a0 != 3) = true := bne_iff_ne.mpr c28
              by_cases c29 : a0 = 11
              ·rw [if_pos c29] at H
               have c29b0 : (a0 == 11) = true := beq_iff_eq.mpr c29
               have c29b1 : (a0 != 11) = false := bne_eq_false_iff_eq.mpr c29
               clear c29
               obtain rfl := Option.some.inj H
               go_wp2
               go_ret
               exact ⟨by first | rfl | (simp; done) | (simp [*]; done), by repeat (first | exact zm.refl _ | apply zm.step)⟩
              ·rw [if_neg c29] at H
               have c29b0 : (a0 == 11) = false := beq_eq_false_iff_ne.mpr c29
               have c29b1 : (a0 != 11) = true := bne_iff_ne.mpr c29
               by_cases c30 : a1 = 11
               ·rw [if_pos c30] at H
                have c30b0 : (a1 == 11) = true := beq_iff_eq.mpr c30
                have c30b1 : (a1 != 11) = false := bne_eq_false_iff_eq.mpr c30
                clear c30
                obtain rfl := Option.some.inj H
                go_wp2
                go_ret
                exact ⟨by first | rfl | (simp; done) | (simp [*]; done), by repeat (first | exact zm.refl _ | apply zm.step)⟩
               ·rw [if_neg c30] at H
                have c30b0 : (a1 == 11) = false := beq_eq_false_iff_ne.mpr c30
                have c30b1 : (a1 != 11) = true := bne_iff_ne.mpr c30
                by_cases c31 : a1 = 14
                ·rw [if_pos c31] at H
                 have c31b0 : (a1 == 14) = true := beq_iff_eq.mpr c31
                 have c31b1 : (a1 != 14) = false := bne_eq_false_iff_eq.mpr c31
                 clear c31
                 obtain rfl := Option.some.inj H
                 go_wp2
                 go_ret
                 exact ⟨by first | rfl | (simp; done) | (simp [*]; done), by repeat (first | exact zm.refl _ | apply zm.step)⟩
                ·rw [if_neg c31] at H
                 have c31b0 : (a1 == 14) = false := beq_eq_false_iff_ne.mpr c31
                 have c31b1 : (a1 != 14) = true := bne_iff_ne.mpr c31
                 by_cases c32 : a1 = 12
                 ·rw [if_pos c32] at H
                  have c32b0 : (a1 == 12) = true := beq_iff_eq.mpr c32
                  have c32b1 : (a1 != 12) = false := bne_eq_false_iff_eq.mpr c32
                  clear c32
                  obtain rfl := Option.some.inj H
                  go_wp2
                  go_ret
                  exact ⟨by first | rfl | (simp; done) | (simp [*]; done), by repeat (first | exact zm.refl _ | apply zm.step)⟩
                 ·rw [if_neg c32] at H
                  have c32b0 : (a1 == 12) = false := beq_eq_false_iff_ne.mpr c32
                  have c32b1 : (a1 != 12) = true := bne_iff_ne.mpr c32
                  replace H := Option.bind_eq_some_iff.mp H
                  obtain ⟨t228, A330, H⟩ := H
                  replace H : (some t228) = some r := H
                  have A33 := za.mk A330
                  clear A330
                  obtain rfl := Option.some.inj H
                  go_wp2_with (first | ((with_reducible refine zj (f := 131) rfl ?_); refine zgo (some 85) Try.func131 #[.int .i64 a0, .int .i64 a1] rfl ?_; (with_reducible refine (spec_l5Inner.calls kj15 a0 a1 t228 _ A33.out).mono ?_); rintro e w' ⟨rfl, ⟨nd, rfl⟩⟩; refine ⟨_, rfl, ?_⟩))
                  go_ret
                  exact ⟨by first | rfl | (simp; done) | (simp [*]; done), by repeat (first | exact zm.refl _ | apply zm.step)⟩
end Go.Proofs.Ytmjhdgofepdgkaa.PFnExactFillCost
