-- Written by a program of this session (wip/tools) out of the translation; its shape is that of the kit print.
import Derived.Test.YtmjhdgofepdgkaaPFnExactFillCostx0
import Derived.Test.YtmjhdgofepdgkaaPFnExactFillCostx7
namespace Go.Proofs.Ytmjhdgofepdgkaa.PFnExactFillCost
open Go.RowKit Go.Proofs.YtmjhdgofepdgkaaW.PrintWords Go.Proofs.YtmjhdgofepdgkaaW.PrintLast Go.Proofs.YtmjhdgofepdgkaaW.PrintMore
attribute [local go_sem] zbb zcb zjb zkb zxa zya zdb zeb
set_option linter.unusedVariables false
set_option maxHeartbeats 8000000
set_option maxRecDepth 100000
set_option linter.unusedSimpArgs false
mutual
def spec_l5Inner.j0 : Nat → Int → Int → Bool → Option (Int)
 | 0, _, _, _ => none
 | k + 1, x0, x1, x5 => if x5 = true then (some 0) else (if x1 = 2 then (if x0 = 12 then (spec_l5Inner.j1 k x0 x1 true) else (spec_l5Inner.j1 k x0 x1 (x0 == 13))) else (spec_l5Inner.j1 k x0 x1 false))
def spec_l5Inner.j1 : Nat → Int → Int → Bool → Option (Int)
 | 0, _, _, _ => none
 | k + 1, x0, x1, x12 => if x12 = true then (some 0) else (if x0 = 13 then (spec_l5Inner.j2 k x0 x1 (x1 == 1)) else (spec_l5Inner.j2 k x0 x1 false))
def spec_l5Inner.j2 : Nat → Int → Int → Bool → Option (Int)
 | 0, _, _, _ => none
 | k + 1, x0, x1, x23 => if x23 = true then (some 0) else ((spec_l5Word.f x0).bind fun t222 => (if t222 = true then (if x1 = 8 then (some 0) else (if x0 = 9 then ((spec_l5Word.f x1).bind fun t223 => (if t223 = true then (some 0) else (some 1))) else (some 1))) else (if x0 = 9 then ((spec_l5Word.f x1).bind fun t224 => (if t224 = true then (some 0) else (some 1))) else (some 1))))
end
def spec_l5Inner.f (k : Nat) (a0 : Int) (a1 : Int) : Option (Int) := (spec_l5Word.f a0).bind fun t220 => (if t220 = true then ((spec_l5Word.f a1).bind fun t221 => (spec_l5Inner.j0 k a0 a1 t221)) else (spec_l5Inner.j0 k a0 a1 false))
theorem spec_l5Inner.calls (k : Nat) (a0 : Int) (a1 : Int) (r : Int) (w : World) (h : spec_l5Inner.f k a0 a1 = some r) :
  Calls Try.prog 131 #[.int .i64 a0, .int .i64 a1] w fun e w' => e = .returned (.int .i64 r) ∧ zm w w' := by
 have H : ((spec_l5Word.f a0).bind fun t220 => (if t220 = true then ((spec_l5Word.f a1).bind fun t221 => (spec_l5Inner.j0 k a0 a1 t221)) else (spec_l5Inner.j0 k a0 a1 false))) = some r := h
 clear h
 have HC3 := za.mk H
 clear H
 go_enter Try.func131, Try.ntmps131
 go_upto_region 1 with (fail)
 go_cut [5] (fun v5 wc => ∃ (kq : Nat) (x5_2 : Bool), v5 = .bool x5_2 ∧ za (spec_l5Inner.j0 kq a0 a1 x5_2 = some r) ∧ za (kq ≤ k) ∧ zm w wc)
 case first =>
  have H := HC3.out
  clear HC3
  replace H := Option.bind_eq_some_iff.mp H
  obtain ⟨t220, A40, H⟩ := H
  replace H : (if t220 = true then ((spec_l5Word.f a1).bind fun t221 => (spec_l5Inner.j0 k a0 a1 t221)) else (spec_l5Inner.j0 k a0 a1 false)) = some r := H
  have A4 := za.mk A40
  clear A40
  by_cases c5 : t220 = true
  ·subst c5
   have H1 : ((spec_l5Word.f a1).bind fun t221 => (spec_l5Inner.j0 k a0 a1 t221)) = some r := by rw [if_pos rfl] at H; exact H
   clear H
   have H := H1
   clear H1
   replace H := Option.bind_eq_some_iff.mp H
   obtain ⟨t221, A60, H⟩ := H
   replace H : (spec_l5Inner.j0 k a0 a1 t221) = some r := H
   have A6 := za.mk A60
   clear A60
   have H' := za.mk H
   clear H
   go_wp2_with (first | ((with_reducible refine zj (f := 162) rfl ?_); refine zgo (some 7) Try.func162 #[.int .i64 a0] rfl ?_; (with_reducible refine (spec_l5Word.calls a0 true _ A4.out).mono ?_); rintro e w' ⟨rfl, ⟨nd, rfl⟩⟩; refine ⟨_, rfl, ?_⟩) | (go_at_call 162; (with_reducible refine (spec_l5Word.calls a1 t221 _ A6.out).mono ?_); rintro e w' ⟨rfl, ⟨nd, rfl⟩⟩))
   go_meet
   case rel => exact ⟨_, (t221), (by first | rfl | (simp; done) | (simp [*]; done)), H', ⟨by first | omega | exact Nat.le_refl _⟩, by repeat (first | exact zm.refl _ | apply zm.step)⟩
  ·replace c5 := Bool.eq_false_iff.mpr c5
   subst c5
   have H1 : (spec_l5Inner.j0 k a0 a1 false) = some r := by rw [if_neg (show ¬ (false = true) by decide)] at H; exact H
   clear H
   have H := H1
   clear H1
   have H' := za.mk H
   clear H
   go_wp2_with (first | ((with_reducible refine zj (f := 162) rfl ?_); refine zgo (some 7) Try.func162 #[.int .i64 a0] rfl ?_; (with_reducible refine (spec_l5Word.calls a0 false _ A4.out).mono ?_); rintro e w' ⟨rfl, ⟨nd, rfl⟩⟩; refine ⟨_, rfl, ?_⟩))
   go_meet
   case rel => exact ⟨_, (false), (by first | rfl | (simp; done) | (simp [*]; done)), H', ⟨by first | omega | exact Nat.le_refl _⟩, by repeat (first | exact zm.refl _ | apply zm.step)⟩
 case rest =>
  clear HC3
  try clear c1
  try clear p2
  try clear c5
  obtain ⟨kq, x5_2, rfl, HA, HJ2, ⟨mc2, rfl⟩⟩ := hcut
  cases kq with
  | zero => exact absurd HA.out (by simp [spec_l5Inner.j0])
  | succ kj2 =>
   have H := HA.out
   clear HA
   simp only [spec_l5Inner.j0] at H
   by_cases c7 : x5_2 = true
   ·subst c7
    have H1 : (some 0) = some r := by rw [if_pos rfl] at H; exact H
    clear H
    have H := H1
    clear H1
    obtain rfl := Option.some.inj H
    go_wp2
    go_ret
    exact ⟨by first | rfl | (simp; done) | (simp [*]; done), by repeat (first | exact zm.refl _ | apply zm.step)⟩
   ·replace c7 := Bool.eq_false_iff.mpr c7
    subst c7
    have H1 : (if a1 = 2 then (if a0 = 12 then (spec_l5Inner.j1 kj2 a0 a1 true) else (spec_l5Inner.j1 kj2 a0 a1 (a0 == 13))) else (spec_l5Inner.j1 kj2 a0 a1 false)) = some r := by rw [if_neg (show ¬ (false = true) by decide)] at H; exact H
    clear H
    have H := H1
    clear H1
    have HC8 := za.mk H
    clear H
    go_upto_region 3 with (fail)
    go_cut [12] (fun v12 wc => ∃ (kq : Nat) (x12_7 : Bool), v12 = .bool x12_7 ∧ za (spec_l5Inner.j1 kq a0 a1 x12_7 = some r) ∧ za (kq ≤ kj2) ∧ zm w wc)
    case first =>
     have H := HC8.out
     clear HC8
     by_cases c9 : a1 = 2
     ·rw [if_pos c9] at H
      have c9b0 : (a1 == 2) = true := beq_iff_eq.mpr c9
      have c9b1 : (a1 != 2) = false := bne_eq_false_iff_eq.mpr c9
      clear c9
      (first | rw [c9b0] | (simp only [zr, zs]; rw [c9b0]) | skip)
      by_cases c10 : a0 = 12
      ·rw [if_pos c10] at H
       have c10b0 : (a0 == 12) = true := beq_iff_eq.mpr c10
       have c10b1 : (a0 != 12) = false := bne_eq_false_iff_eq.mpr c10
       clear c10
       have H' := za.mk H
       clear H
       go_wp2
       go_meet
       case rel => exact ⟨_, (true), (by first | rfl | (simp; done) | (simp [*]; done)), H', ⟨by have := HJ2.out; first | omega | exact Nat.le_refl _⟩, by repeat (first | exact zm.refl _ | apply zm.step)⟩
      ·rw [if_neg c10] at H
       have c10b0 : (a0 == 12) = false := beq_eq_false_iff_ne.mpr c10
       have c10b1 : (a0 != 12) = true := bne_iff_ne.mpr c10
       have H' := za.mk H
       clear H
       go_wp2
       go_meet
       case rel => exact ⟨_, ((a0 == 13)), (by first | rfl | (simp; done) | (simp [*]; done)), H', ⟨by have := HJ2.out; first | omega | exact Nat.le_refl _⟩, by repeat (first | exact zm.refl _ | apply zm.step)⟩
     ·rw [if_neg c9] at H
      have c9b0 : (a1 == 2) = false := beq_eq_false_iff_ne.mpr c9
      have c9b1 : (a1 != 2) = true := bne_iff_ne.mpr c9
      (first | rw [c9b0] | (simp only [zr, zs]; rw [c9b0]) | skip)
      have H' := za.mk H
      clear H
      go_wp2
      go_meet
      case rel => exact ⟨_, (false), (by first | rfl | (simp; done) | (simp [*]; done)), H', ⟨by have := HJ2.out; first | omega | exact Nat.le_refl _⟩, by repeat (first | exact zm.refl _ | apply zm.step)⟩
    case rest =>
     clear HC8
     try clear c1
     try clear c2
     try clear p2
     try clear c5
     try clear c7
     try clear c9
     try clear c9b0
     try clear c9b1
     try clear c10
     try clear c10b0
     try clear c10b1
     try clear p2
     obtain ⟨kq, x12_7, rfl, HA, HJ7, ⟨mc7, rfl⟩⟩ := hcut
     cases kq with
     | zero => exact absurd HA.out (by simp [spec_l5Inner.j1])
     | succ kj7 =>
      have H := HA.out
      clear HA
      simp only [spec_l5Inner.j1] at H
      by_cases c11 : x12_7 = true
      ·subst c11
       have H1 : (some 0) = some r := by rw [if_pos rfl] at H; exact H
       clear H
       have H := H1
       clear H1
       obtain rfl := Option.some.inj H
       go_wp2
       go_ret
       exact ⟨by first | rfl | (simp; done) | (simp [*]; done), by repeat (first | exact zm.refl _ | apply zm.step)⟩
      ·replace c11 := Bool.eq_false_iff.mpr c11
       subst c11
       have H1 : (if a0 = 13 then (spec_l5Inner.j2 kj7 a0 a1 (a1 == 1)) else (spec_l5Inner.j2 kj7 a0 a1 false)) = some r := by rw [if_neg (show ¬ (false = true) by decide)] at H; exact H
       clear H
       have H := H1
       clear H1
       have HC12 := za.mk H
       clear H
       go_upto_region 5 with (fail)
       go_cut [23] (fun v23 wc => ∃ (kq : Nat) (x23_11 : Bool), v23 = .bool x23_11 ∧ za (spec_l5Inner.j2 kq a0 a1 x23_11 = some r) ∧ za (kq ≤ kj7) ∧ zm w wc)
       case first =>
        have H := HC12.out
        clear HC12
        by_cases c13 : a0 = 13
        ·rw [if_pos c13] at H
         have c13b0 : (a0 == 13) = true := beq_iff_eq.mpr c13
         have c13b1 : (a0 != 13) = false := bne_eq_false_iff_eq.mpr c13
         clear c13
         (first | rw [c13b0] | (simp only [zr, zs]; rw [c13b0]) | skip)
         have H' := za.mk H
         clear H
         go_wp2
         go_meet
         case rel => exact ⟨_, ((a1 == 1)), (by first | rfl | (simp; done) | (simp [*]; done)), H', ⟨by have := HJ2.out; have := HJ7.out; first | omega | exact Nat.le_refl _⟩, by repeat (first | exact zm.refl _ | apply zm.step)⟩
        ·rw [if_neg c13] at H
         have c13b0 : (a0 == 13) = false := beq_eq_false_iff_ne.mpr c13
         have c13b1 : (a0 != 13) = true := bne_iff_ne.mpr c13
         (first | rw [c13b0] | (simp only [zr, zs]; rw [c13b0]) | skip)
         have H' := za.mk H
         clear H
         go_wp2
         go_meet
         case rel => exact ⟨_, (false), (by first | rfl | (simp; done) | (simp [*]; done)), H', ⟨by have := HJ2.out; have := HJ7.out; first | omega | exact Nat.le_refl _⟩, by repeat (first | exact zm.refl _ | apply zm.step)⟩
       case rest =>
        clear HC12
        try clear c1
        try clear c2
        try clear p2
        try clear c5
        try clear c7
        try clear c9
        try clear c9b0
        try clear c9b1
        try clear c10
        try clear c10b0
        try clear c10b1
        try clear c11
        try clear c13
        try clear c13b0
        try clear c13b1
        try clear p2
        obtain ⟨kq, x23_11, rfl, HA, HJ11, ⟨mc11, rfl⟩⟩ := hcut
        cases kq with
        | zero => exact absurd HA.out (by simp [spec_l5Inner.j2])
        | succ kj11 =>
         have H := HA.out
         clear HA
         simp only [spec_l5Inner.j2] at H
         by_cases c14 : x23_11 = true
         ·subst c14
          have H1 : (some 0) = some r := by rw [if_pos rfl] at H; exact H
          clear H
          have H := H1
          clear H1
          obtain rfl := Option.some.inj H
          go_wp2
          go_ret
          exact ⟨by first | rfl | (simp; done) | (simp [*]; done), by repeat (first | exact zm.refl _ | apply zm.step)⟩
         ·replace c14 := Bool.eq_false_iff.mpr c14
          subst c14
          have H1 : ((spec_l5Word.f a0).bind fun t222 => (if t222 = true then (if a1 = 8 then (some 0) else (if a0 = 9 then ((spec_l5Word.f a1).bind fun t223 => (if t223 = true then (some 0) else (some 1))) else (some 1))) else (if a0 = 9 then ((spec_l5Word.f a1).bind fun t224 => (if t224 = true then (some 0) else (some 1))) else (some 1)))) = some r := by rw [if_neg (show ¬ (false = true) by decide)] at H; exact H
          clear H
          have H := H1
          clear H1
          replace H := Option.bind_eq_some_iff.mp H
          obtain ⟨t222, A150, H⟩ := H
          replace H : (if t222 = true then (if a1 = 8 then (some 0) else (if a0 = 9 then ((spec_l5Word.f a1).bind fun t223 => (if t223 = true then (some 0) else (some 1))) else (some 1))) else (if a0 = 9 then ((spec_l5Word.f a1).bind fun t224 => (if t224 = true then (some 0) else (some 1))) else (some 1))) = some r := H
          have A15 := za.mk A150
          clear A150
          by_cases c16 : t222 = true
          ·subst c16
           have H1 : (if a1 = 8 then (some 0) else (if a0 = 9 then ((spec_l5Word.f a1).bind fun t223 => (if t223 = true then (some 0) else (some 1))) else (some 1))) = some r := by rw [if_pos rfl] at H; exact H
           clear H
           have H := H1
           clear H1
           by_cases c17 : a1 = 8
           ·rw [if_pos c17] at H
            have c17b0 : (a1 == 8) = true := beq_iff_eq.mpr c17
            have c17b1 : (a1 != 8) = false := bne_eq_false_iff_eq.mpr c17
            clear c17
            obtain rfl := Option.some.inj H
            go_wp2_with (first | ((with_reducible refine zj (f := 162) rfl ?_); refine zgo (some 32) Try.func162 #[.int .i64 a0] rfl ?_; (with_reducible refine (spec_l5Word.calls a0 true _ A15.out).mono ?_); rintro e w' ⟨rfl, ⟨nd, rfl⟩⟩; refine ⟨_, rfl, ?_⟩))
            go_ret
            exact ⟨by first | rfl | (simp; done) | (simp [*]; done), by repeat (first | exact zm.refl _ | apply zm.step)⟩
           ·rw [if_neg c17] at H
            have c17b0 : (a1 == 8) = false := beq_eq_false_iff_ne.mpr c17
            have c17b1 : (a1 != 8) = true := bne_iff_ne.mpr c17
            by_cases c18 : a0 = 9
            ·rw [if_pos c18] at H
             have c18b0 : (a0 == 9) = true := beq_iff_eq.mpr c18
             have c18b1 : (a0 != 9) = false := bne_eq_false_iff_eq.mpr c18
             clear c18
             replace H := Option.bind_eq_some_iff.mp H
             obtain ⟨t223, A190, H⟩ := H
             replace H : (if t223 = true then (some 0) else (some 1)) = some r := H
             have A19 := za.mk A190
             clear A190
             by_cases c20 : t223 = true
             ·subst c20
              have H1 : (some 0) = some r := by rw [if_pos rfl] at H; exact H
              clear H
              have H := H1
              clear H1
              obtain rfl := Option.some.inj H
              go_wp2_with (first | ((with_reducible refine zj (f := 162) rfl ?_); refine zgo (some 32) Try.func162 #[.int .i64 a0] rfl ?_; (with_reducible refine (spec_l5Word.calls a0 true _ A15.out).mono ?_); rintro e w' ⟨rfl, ⟨nd, rfl⟩⟩; refine ⟨_, rfl, ?_⟩) | (go_at_call 162; (with_reducible refine (spec_l5Word.calls a1 true _ A19.out).mono ?_); rintro e w' ⟨rfl, ⟨nd, rfl⟩⟩))
              go_ret
              exact ⟨by first | rfl | (simp; done) | (simp [*]; done), by repeat (first | exact zm.refl _ | apply zm.step)⟩
             ·replace c20 := Bool.eq_false_iff.mpr c20
              subst c20
              have H1 : (some 1) = some r := by rw [if_neg (show ¬ (false = true) by decide)] at H; exact H
              clear H
              have H := H1
              clear H1
              obtain rfl := Option.some.inj H
              go_wp2_with (first | ((with_reducible refine zj (f := 162) rfl ?_); refine zgo (some 32) Try.func162 #[.int .i64 a0] rfl ?_; (with_reducible refine (spec_l5Word.calls a0 true _ A15.out).mono ?_); rintro e w' ⟨rfl, ⟨nd, rfl⟩⟩; refine ⟨_, rfl, ?_⟩) | (go_at_call 162; (with_reducible refine (spec_l5Word.calls a1 false _ A19.out).mono ?_); rintro e w' ⟨rfl, ⟨nd, rfl⟩⟩))
              go_ret
              exact ⟨by first | rfl | (simp; done) | (simp [*]; done), by repeat (first | exact zm.refl _ | apply zm.step)⟩
            ·rw [if_neg c18] at H
             have c18b0 : (a0 == 9) = false := beq_eq_false_iff_ne.mpr c18
             have c18b1 : (a0 != 9) = true := bne_iff_ne.mpr c18
             obtain rfl := Option.some.inj H
             go_wp2_with (first | ((with_reducible refine zj (f := 162) rfl ?_); refine zgo (some 32) Try.func162 #[.int .i64 a0] rfl ?_; (with_reducible refine (spec_l5Word.calls a0 true _ A15.out).mono ?_); rintro e w' ⟨rfl, ⟨nd, rfl⟩⟩; refine ⟨_, rfl, ?_⟩))
             go_ret
             exact ⟨by first | rfl | (simp; done) | (simp [*]; done), by repeat (first | exact zm.refl _ | apply zm.step)⟩
          ·replace c16 := Bool.eq_false_iff.mpr c16
           subst c16
           have H1 : (if a0 = 9 then ((spec_l5Word.f a1).bind fun t224 => (if t224 = true then (some 0) else (some 1))) else (some 1)) = some r := by rw [if_neg (show ¬ (false = true) by decide)] at H; exact H
           clear H
           have H := H1
           clear H1
           by_cases c21 : a0 = 9
           ·rw [if_pos c21] at H
            have c21b0 : (a0 == 9) = true := beq_iff_eq.mpr c21
            have c21b1 : (a0 != 9) = false := bne_eq_false_iff_eq.mpr c21
            clear c21
            replace H := Option.bind_eq_some_iff.mp H
            obtain ⟨t224, A220, H⟩ := H
            replace H : (if t224 = true then (some 0) else (some 1)) = some r := H
            have A22 := za.mk A220
            clear A220
            by_cases c23 : t224 = true
            ·subst c23
             have H1 : (some 0) = some r := by rw [if_pos rfl] at H; exact H
             clear H
             have H := H1
             clear H1
             obtain rfl := Option.some.inj H
             go_wp2_with (first | ((with_reducible refine zj (f := 162) rfl ?_); refine zgo (some 32) Try.func162 #[.int .i64 a0] rfl ?_; (with_reducible refine (spec_l5Word.calls a0 false _ A15.out).mono ?_); rintro e w' ⟨rfl, ⟨nd, rfl⟩⟩; refine ⟨_, rfl, ?_⟩) | (go_at_call 162; (with_reducible refine (spec_l5Word.calls a1 true _ A22.out).mono ?_); rintro e w' ⟨rfl, ⟨nd, rfl⟩⟩))
             go_ret
             exact ⟨by first | rfl | (simp; done) | (simp [*]; done), by repeat (first | exact zm.refl _ | apply zm.step)⟩
            ·replace c23 := Bool.eq_false_iff.mpr c23
             subst c23
             have H1 : (some 1) = some r := by rw [if_neg (show ¬ (false = true) by decide)] at H; exact H
             clear H
             have H := H1
             clear H1
             obtain rfl := Option.some.inj H
             go_wp2_with (first | ((with_reducible refine zj (f := 162) rfl ?_); refine zgo (some 32) Try.func162 #[.int .i64 a0] rfl ?_; (with_reducible refine (spec_l5Word.calls a0 false _ A15.out).mono ?_); rintro e w' ⟨rfl, ⟨nd, rfl⟩⟩; refine ⟨_, rfl, ?_⟩) | (go_at_call 162; (with_reducible refine (spec_l5Word.calls a1 false _ A22.out).mono ?_); rintro e w' ⟨rfl, ⟨nd, rfl⟩⟩))
             go_ret
             exact ⟨by first | rfl | (simp; done) | (simp [*]; done), by repeat (first | exact zm.refl _ | apply zm.step)⟩
           ·rw [if_neg c21] at H
            have c21b0 : (a0 == 9) = false := beq_eq_false_iff_ne.mpr c21
            have c21b1 : (a0 != 9) = true := bne_iff_ne.mpr c21
            obtain rfl := Option.some.inj H
            go_wp2_with (first | ((with_reducible refine zj (f := 162) rfl ?_); refine zgo (some 32) Try.func162 #[.int .i64 a0] rfl ?_; (with_reducible refine (spec_l5Word.calls a0 false _ A15.out).mono ?_); rintro e w' ⟨rfl, ⟨nd, rfl⟩⟩; refine ⟨_, rfl, ?_⟩))
            go_ret
            exact ⟨by first | rfl | (simp; done) | (simp [*]; done), by repeat (first | exact zm.refl _ | apply zm.step)⟩
end Go.Proofs.Ytmjhdgofepdgkaa.PFnExactFillCost
