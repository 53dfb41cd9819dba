-- Written by a program of this session (wip/tools) out of the translation; its shape is that of the kit print.
import Derived.Test.YtmjhdgofepdgkaaPFnExactFillCostx0
import Derived.Test.YtmjhdgofepdgkaaPFnExactFillCostx14
namespace Go.Proofs.Ytmjhdgofepdgkaa.PFnExactFillCost
open Go.RowKit Go.Proofs.YtmjhdgofepdgkaaW.PrintWords Go.Proofs.YtmjhdgofepdgkaaW.PrintLast Go.Proofs.YtmjhdgofepdgkaaW.PrintMore
attribute [local go_sem] zbb zcb zjb zkb zxa zya zdb zeb
set_option linter.unusedVariables false
set_option maxHeartbeats 8000000
set_option maxRecDepth 100000
set_option linter.unusedSimpArgs false
mutual
def impl_RuneWide.j0 : Nat → Int → Int → Bool → Option (Int)
 | 0, _, _, _ => none
 | k + 1, x0, x3, x6 => if x6 = true then (some 0) else (if x0 = 105 then (impl_RuneWide.j1 k x0 x3 (x0 == 105)) else (if x0 = 106 then (impl_RuneWide.j1 k x0 x3 (x0 == 106)) else (if x0 = 108 then (impl_RuneWide.j1 k x0 x3 (x0 == 108)) else (if x0 = 102 then (impl_RuneWide.j1 k x0 x3 (x0 == 102)) else (impl_RuneWide.j1 k x0 x3 (x0 == 116))))))
def impl_RuneWide.j1 : Nat → Int → Int → Bool → Option (Int)
 | 0, _, _, _ => none
 | k + 1, x0, x3, x17 => if x17 = true then (some 6) else (if x0 = 109 then (impl_RuneWide.j2 k x0 x3 (x0 == 109)) else (impl_RuneWide.j2 k x0 x3 (x0 == 119)))
def impl_RuneWide.j2 : Nat → Int → Int → Bool → Option (Int)
 | 0, _, _, _ => none
 | k + 1, x0, x3, x28 => if x28 = true then (some 16) else (if x0 ≥ 19968 then (impl_RuneWide.j3 k x3 (decide (x0 ≤ 40959))) else (impl_RuneWide.j3 k x3 false))
def impl_RuneWide.j3 : Nat → Int → Bool → Option (Int)
 | 0, _, _ => none
 | k + 1, x3, x33 => if x33 = true then (some 20) else (if x3 = 2 then (impl_RuneWide.j4 k x3 (x3 == 2)) else (impl_RuneWide.j4 k x3 (x3 == 3)))
def impl_RuneWide.j4 : Nat → Int → Bool → Option (Int)
 | 0, _, _ => none
 | k + 1, x3, x40 => if x40 = true then (some 12) else (if x3 = 11 then (some 40) else (if x3 = 12 then (some 6) else (if x3 = 8 then (some 6) else (some 10))))
end
def impl_RuneWide.f (k : Nat) (a0 : Int) : Option (Int) := (impl_RuneBidi.f a0).bind fun t316 => (if t316 = 9 then (impl_RuneWide.j0 k a0 t316 (t316 == 9)) else (if t316 = 10 then (impl_RuneWide.j0 k a0 t316 (t316 == 10)) else (if t316 ≥ 14 then (impl_RuneWide.j0 k a0 t316 (decide (t316 ≥ 14))) else (if a0 = 10 then (impl_RuneWide.j0 k a0 t316 (a0 == 10)) else (impl_RuneWide.j0 k a0 t316 (a0 == 13))))))
theorem impl_RuneWide.calls (k : Nat) (a0 : Int) (r : Int) (w : World) (h : impl_RuneWide.f k a0 = some r) :
  Calls Try.prog 106 #[.int .i64 a0] w fun e w' => e = .returned (.int .i64 r) ∧ Below w.heap.size w w' := by
 have HB := za.mk (Below.refl w.heap.size w)
 have H : ((impl_RuneBidi.f a0).bind fun t316 => (if t316 = 9 then (impl_RuneWide.j0 k a0 t316 (t316 == 9)) else (if t316 = 10 then (impl_RuneWide.j0 k a0 t316 (t316 == 10)) else (if t316 ≥ 14 then (impl_RuneWide.j0 k a0 t316 (decide (t316 ≥ 14))) else (if a0 = 10 then (impl_RuneWide.j0 k a0 t316 (a0 == 10)) else (impl_RuneWide.j0 k a0 t316 (a0 == 13))))))) = some r := h
 clear h
 replace H := Option.bind_eq_some_iff.mp H
 obtain ⟨t316, A20, H⟩ := H
 replace H : (if t316 = 9 then (impl_RuneWide.j0 k a0 t316 (t316 == 9)) else (if t316 = 10 then (impl_RuneWide.j0 k a0 t316 (t316 == 10)) else (if t316 ≥ 14 then (impl_RuneWide.j0 k a0 t316 (decide (t316 ≥ 14))) else (if a0 = 10 then (impl_RuneWide.j0 k a0 t316 (a0 == 10)) else (impl_RuneWide.j0 k a0 t316 (a0 == 13)))))) = some r := H
 have A2 := za.mk A20
 clear A20
 have HC3 := za.mk H
 clear H
 go_enter Try.func106, Try.ntmps106
 go_upto_if 6 with (first | ((with_reducible refine zj (f := 128) rfl ?_); refine zgo (some 5) Try.func128 #[.int .i64 a0] rfl ?_; (with_reducible refine (impl_RuneBidi.calls a0 t316 _ A2.out).mono ?_); rintro e w4 ⟨rfl, hb⟩; refine ⟨_, rfl, ?_⟩; have n0_ := za.mk (zg (by repeat (first | (with_reducible first | exact HB.out | apply zc | apply zb | apply zd) | exact HB.out)) hb); clear HB; have HB := n0_; clear n0_; (try clear hb); (try clear hb2); (try clear hk); (try clear hi)))
 (try simp only [Act.put, List.setIfInBounds_toArray, List.set_cons_zero, List.set_cons_succ])
 go_cut [6] (fun v6 wc => ∃ (kq : Nat) (x6_2 : Bool), v6 = .bool x6_2 ∧ za (impl_RuneWide.j0 kq a0 t316 x6_2 = some r) ∧ za (kq ≤ k) ∧ za (Below w.heap.size w wc))
 case first =>
  have H := HC3.out
  clear HC3
  by_cases c5 : t316 = 9
  ·rw [if_pos c5] at H
   have c5b0 : (t316 == 9) = true := beq_iff_eq.mpr c5
   have c5b1 : (t316 != 9) = false := bne_eq_false_iff_eq.mpr c5
   clear c5
   (first | rw [c5b0] | (simp only [zr, zs]; rw [c5b0]) | skip)
   have H' := za.mk H
   clear H
   go_wp2
   go_meet
   case rel => exact ⟨_, ((t316 == 9)), (by first | rfl | (simp; done) | (simp [*]; done)), H', ⟨by first | omega | exact Nat.le_refl _⟩, ⟨by repeat (first | (with_reducible first | exact HB.out | apply zc | apply zb | apply zd) | exact HB.out)⟩⟩
  ·rw [if_neg c5] at H
   have c5b0 : (t316 == 9) = false := beq_eq_false_iff_ne.mpr c5
   have c5b1 : (t316 != 9) = true := bne_iff_ne.mpr c5
   (first | rw [c5b0] | (simp only [zr, zs]; rw [c5b0]) | skip)
   by_cases c6 : t316 = 10
   ·rw [if_pos c6] at H
    have c6b0 : (t316 == 10) = true := beq_iff_eq.mpr c6
    have c6b1 : (t316 != 10) = false := bne_eq_false_iff_eq.mpr c6
    clear c6
    have H' := za.mk H
    clear H
    go_wp2
    go_meet
    case rel => exact ⟨_, ((t316 == 10)), (by first | rfl | (simp; done) | (simp [*]; done)), H', ⟨by first | omega | exact Nat.le_refl _⟩, ⟨by repeat (first | (with_reducible first | exact HB.out | apply zc | apply zb | apply zd) | exact HB.out)⟩⟩
   ·rw [if_neg c6] at H
    have c6b0 : (t316 == 10) = false := beq_eq_false_iff_ne.mpr c6
    have c6b1 : (t316 != 10) = true := bne_iff_ne.mpr c6
    by_cases c7 : t316 ≥ 14
    ·rw [if_pos c7] at H
     have c7b0 : decide (14 ≤ t316) = true := decide_eq_true c7
     clear c7
     have H' := za.mk H
     clear H
     go_wp2
     go_meet
     case rel => exact ⟨_, (decide (t316 ≥ 14)), (by first | rfl | (simp; done) | (simp [*]; done)), H', ⟨by first | omega | exact Nat.le_refl _⟩, ⟨by repeat (first | (with_reducible first | exact HB.out | apply zc | apply zb | apply zd) | exact HB.out)⟩⟩
    ·rw [if_neg c7] at H
     have c7b0 : decide (14 ≤ t316) = false := decide_eq_false c7
     clear c7
     by_cases c8 : a0 = 10
     ·rw [if_pos c8] at H
      have c8b0 : (a0 == 10) = true := beq_iff_eq.mpr c8
      have c8b1 : (a0 != 10) = false := bne_eq_false_iff_eq.mpr c8
      clear c8
      have H' := za.mk H
      clear H
      go_wp2
      go_meet
      case rel => exact ⟨_, ((a0 == 10)), (by first | rfl | (simp; done) | (simp [*]; done)), H', ⟨by first | omega | exact Nat.le_refl _⟩, ⟨by repeat (first | (with_reducible first | exact HB.out | apply zc | apply zb | apply zd) | exact HB.out)⟩⟩
     ·rw [if_neg c8] at H
      have c8b0 : (a0 == 10) = false := beq_eq_false_iff_ne.mpr c8
      have c8b1 : (a0 != 10) = true := bne_iff_ne.mpr c8
      have H' := za.mk H
      clear H
      go_wp2
      go_meet
      case rel => exact ⟨_, ((a0 == 13)), (by first | rfl | (simp; done) | (simp [*]; done)), H', ⟨by first | omega | exact Nat.le_refl _⟩, ⟨by repeat (first | (with_reducible first | exact HB.out | apply zc | apply zb | apply zd) | exact HB.out)⟩⟩
 case rest =>
  clear HC3
  try clear c1
  try clear p2
  try clear c5
  try clear c5b0
  try clear c5b1
  try clear c6
  try clear c6b0
  try clear c6b1
  try clear c7
  try clear c7b0
  try clear c8
  try clear c8b0
  try clear c8b1
  obtain ⟨kq, x6_2, rfl, HA, HJ2, HB⟩ := hcut
  cases kq with
  | zero => exact absurd HA.out (by simp [impl_RuneWide.j0])
  | succ kj2 =>
   have H := HA.out
   clear HA
   simp only [impl_RuneWide.j0] at H
   by_cases c9 : x6_2 = true
   ·subst c9
    have H1 : (some 0) = some r := by rw [if_pos rfl] at H; exact H
    clear H
    have H := H1
    clear H1
    obtain rfl := Option.some.inj H
    go_wp2
    go_ret
    exact ⟨by first | rfl | (simp [zh, zi] <;> rfl) | (simp [*, zh, zi] <;> rfl), by repeat (first | (with_reducible first | exact HB.out | apply zc | apply zb | apply zd) | exact HB.out)⟩
   ·replace c9 := Bool.eq_false_iff.mpr c9
    subst c9
    have H1 : (if a0 = 105 then (impl_RuneWide.j1 kj2 a0 t316 (a0 == 105)) else (if a0 = 106 then (impl_RuneWide.j1 kj2 a0 t316 (a0 == 106)) else (if a0 = 108 then (impl_RuneWide.j1 kj2 a0 t316 (a0 == 108)) else (if a0 = 102 then (impl_RuneWide.j1 kj2 a0 t316 (a0 == 102)) else (impl_RuneWide.j1 kj2 a0 t316 (a0 == 116)))))) = some r := by rw [if_neg (show ¬ (false = true) by decide)] at H; exact H
    clear H
    have H := H1
    clear H1
    have HC10 := za.mk H
    clear H
    go_upto_if 17 with (fail)
    go_cut [17] (fun v17 wc => ∃ (kq : Nat) (x17_9 : Bool), v17 = .bool x17_9 ∧ za (impl_RuneWide.j1 kq a0 t316 x17_9 = some r) ∧ za (kq ≤ kj2) ∧ za (Below w.heap.size w wc))
    case first =>
     have H := HC10.out
     clear HC10
     by_cases c11 : a0 = 105
     ·rw [if_pos c11] at H
      have c11b0 : (a0 == 105) = true := beq_iff_eq.mpr c11
      have c11b1 : (a0 != 105) = false := bne_eq_false_iff_eq.mpr c11
      clear c11
      (first | rw [c11b0] | (simp only [zr, zs]; rw [c11b0]) | skip)
      have H' := za.mk H
      clear H
      go_wp2
      go_meet
      case rel => exact ⟨_, ((a0 == 105)), (by first | rfl | (simp; done) | (simp [*]; done)), H', ⟨by have := HJ2.out; first | omega | exact Nat.le_refl _⟩, ⟨by repeat (first | (with_reducible first | exact HB.out | apply zc | apply zb | apply zd) | exact HB.out)⟩⟩
     ·rw [if_neg c11] at H
      have c11b0 : (a0 == 105) = false := beq_eq_false_iff_ne.mpr c11
      have c11b1 : (a0 != 105) = true := bne_iff_ne.mpr c11
      (first | rw [c11b0] | (simp only [zr, zs]; rw [c11b0]) | skip)
      by_cases c12 : a0 = 106
      ·rw [if_pos c12] at H
       have c12b0 : (a0 == 106) = true := beq_iff_eq.mpr c12
       have c12b1 : (a0 != 106) = false := bne_eq_false_iff_eq.mpr c12
       clear c12
       have H' := za.mk H
       clear H
       go_wp2
       go_meet
       case rel => exact ⟨_, ((a0 == 106)), (by first | rfl | (simp; done) | (simp [*]; done)), H', ⟨by have := HJ2.out; first | omega | exact Nat.le_refl _⟩, ⟨by repeat (first | (with_reducible first | exact HB.out | apply zc | apply zb | apply zd) | exact HB.out)⟩⟩
      ·rw [if_neg c12] at H
       have c12b0 : (a0 == 106) = false := beq_eq_false_iff_ne.mpr c12
       have c12b1 : (a0 != 106) = true := bne_iff_ne.mpr c12
       by_cases c13 : a0 = 108
       ·rw [if_pos c13] at H
        have c13b0 : (a0 == 108) = true := beq_iff_eq.mpr c13
        have c13b1 : (a0 != 108) = false := bne_eq_false_iff_eq.mpr c13
        clear c13
        have H' := za.mk H
        clear H
        go_wp2
        go_meet
        case rel => exact ⟨_, ((a0 == 108)), (by first | rfl | (simp; done) | (simp [*]; done)), H', ⟨by have := HJ2.out; first | omega | exact Nat.le_refl _⟩, ⟨by repeat (first | (with_reducible first | exact HB.out | apply zc | apply zb | apply zd) | exact HB.out)⟩⟩
       ·rw [if_neg c13] at H
        have c13b0 : (a0 == 108) = false := beq_eq_false_iff_ne.mpr c13
        have c13b1 : (a0 != 108) = true := bne_iff_ne.mpr c13
        by_cases c14 : a0 = 102
        ·rw [if_pos c14] at H
         have c14b0 : (a0 == 102) = true := beq_iff_eq.mpr c14
         have c14b1 : (a0 != 102) = false := bne_eq_false_iff_eq.mpr c14
         clear c14
         have H' := za.mk H
         clear H
         go_wp2
         go_meet
         case rel => exact ⟨_, ((a0 == 102)), (by first | rfl | (simp; done) | (simp [*]; done)), H', ⟨by have := HJ2.out; first | omega | exact Nat.le_refl _⟩, ⟨by repeat (first | (with_reducible first | exact HB.out | apply zc | apply zb | apply zd) | exact HB.out)⟩⟩
        ·rw [if_neg c14] at H
         have c14b0 : (a0 == 102) = false := beq_eq_false_iff_ne.mpr c14
         have c14b1 : (a0 != 102) = true := bne_iff_ne.mpr c14
         have H' := za.mk H
         clear H
         go_wp2
         go_meet
         case rel => exact ⟨_, ((a0 == 116)), (by first | rfl | (simp; done) | (simp [*]; done)), H', ⟨by have := HJ2.out; first | omega | exact Nat.le_refl _⟩, ⟨by repeat (first | (with_reducible first | exact HB.out | apply zc | apply zb | apply zd) | exact HB.out)⟩⟩
    case rest =>
     clear HC10
     try clear c1
     try clear p2
     try clear c5
     try clear c5b0
     try clear c5b1
     try clear c6
     try clear c6b0
     try clear c6b1
     try clear c7
     try clear c7b0
     try clear c8
     try clear c8b0
     try clear c8b1
     try clear c9
     try clear c10
     try clear c11
     try clear c11b0
     try clear c11b1
     try clear c12
     try clear c12b0
     try clear c12b1
     try clear c13
     try clear c13b0
     try clear c13b1
     try clear c14
     try clear c14b0
     try clear c14b1
     try clear p2
     obtain ⟨kq, x17_9, rfl, HA, HJ9, HB⟩ := hcut
     cases kq with
     | zero => exact absurd HA.out (by simp [impl_RuneWide.j1])
     | succ kj9 =>
      have H := HA.out
      clear HA
      simp only [impl_RuneWide.j1] at H
      by_cases c15 : x17_9 = true
      ·subst c15
       have H1 : (some 6) = some r := by rw [if_pos rfl] at H; exact H
       clear H
       have H := H1
       clear H1
       obtain rfl := Option.some.inj H
       go_wp2
       go_ret
       exact ⟨by first | rfl | (simp [zh, zi] <;> rfl) | (simp [*, zh, zi] <;> rfl), by repeat (first | (with_reducible first | exact HB.out | apply zc | apply zb | apply zd) | exact HB.out)⟩
      ·replace c15 := Bool.eq_false_iff.mpr c15
       subst c15
       have H1 : (if a0 = 109 then (impl_RuneWide.j2 kj9 a0 t316 (a0 == 109)) else (impl_RuneWide.j2 kj9 a0 t316 (a0 == 119))) = some r := by rw [if_neg (show ¬ (false = true) by decide)] at H; exact H
       clear H
       have H := H1
       clear H1
       have HC16 := za.mk H
       clear H
       go_upto_if 28 with (fail)
       go_cut [28] (fun v28 wc => ∃ (kq : Nat) (x28_15 : Bool), v28 = .bool x28_15 ∧ za (impl_RuneWide.j2 kq a0 t316 x28_15 = some r) ∧ za (kq ≤ kj9) ∧ za (Below w.heap.size w wc))
       case first =>
        have H := HC16.out
        clear HC16
        by_cases c17 : a0 = 109
        ·rw [if_pos c17] at H
         have c17b0 : (a0 == 109) = true := beq_iff_eq.mpr c17
         have c17b1 : (a0 != 109) = false := bne_eq_false_iff_eq.mpr c17
         clear c17
         (first | rw [c17b0] | (simp only [zr, zs]; rw [c17b0]) | skip)
         have H' := za.mk H
         clear H
         go_wp2
         go_meet
         case rel => exact ⟨_, ((a0 == 109)), (by first | rfl | (simp; done) | (simp [*]; done)), H', ⟨by have := HJ2.out; have := HJ9.out; first | omega | exact Nat.le_refl _⟩, ⟨by repeat (first | (with_reducible first | exact HB.out | apply zc | apply zb | apply zd) | exact HB.out)⟩⟩
        ·rw [if_neg c17] at H
         have c17b0 : (a0 == 109) = false := beq_eq_false_iff_ne.mpr c17
         have c17b1 : (a0 != 109) = true := bne_iff_ne.mpr c17
         (first | rw [c17b0] | (simp only [zr, zs]; rw [c17b0]) | skip)
         have H' := za.mk H
         clear H
         go_wp2
         go_meet
         case rel => exact ⟨_, ((a0 == 119)), (by first | rfl | (simp; done) | (simp [*]; done)), H', ⟨by have := HJ2.out; have := HJ9.out; first | omega | exact Nat.le_refl _⟩, ⟨by repeat (first | (with_reducible first | exact HB.out | apply zc | apply zb | apply zd) | exact HB.out)⟩⟩
       case rest =>
        clear HC16
        try clear c1
        try clear p2
        try clear c5
        try clear c5b0
        try clear c5b1
        try clear c6
        try clear c6b0
        try clear c6b1
        try clear c7
        try clear c7b0
        try clear c8
        try clear c8b0
        try clear c8b1
        try clear c9
        try clear c10
        try clear c11
        try clear c11b0
        try clear c11b1
        try clear c12
        try clear c12b0
        try clear c12b1
        try clear c13
        try clear c13b0
        try clear c13b1
        try clear c14
        try clear c14b0
        try clear c14b1
        try clear c15
        try clear c17
        try clear c17b0
        try clear c17b1
        try clear p2
        obtain ⟨kq, x28_15, rfl, HA, HJ15, HB⟩ := hcut
        cases kq with
        | zero => exact absurd HA.out (by simp [impl_RuneWide.j2])
        | succ kj15 =>
         have H := HA.out
         clear HA
         simp only [impl_RuneWide.j2] at H
         by_cases c18 : x28_15 = true
         ·subst c18
          have H1 : (some 16) = some r := by rw [if_pos rfl] at H; exact H
          clear H
          have H := H1
          clear H1
          obtain rfl := Option.some.inj H
          go_wp2
          go_ret
          exact ⟨by first | rfl | (simp [zh, zi] <;> rfl) | (simp [*, zh, zi] <;> rfl), by repeat (first | (with_reducible first | exact HB.out | apply zc | apply zb | apply zd) | exact HB.out)⟩
         ·replace c18 := Bool.eq_false_iff.mpr c18
          subst c18
          have H1 : (if a0 ≥ 19968 then (impl_RuneWide.j3 kj15 t316 (decide (a0 ≤ 40959))) else (impl_RuneWide.j3 kj15 t316 false)) = some r := by rw [if_neg (show ¬ (false = true) by decide)] at H; exact H
          clear H
          have H := H1
          clear H1
          have HC19 := za.mk H
          clear H
          go_upto_region 17 with (fail)
          go_cut [33] (fun v33 wc => ∃ (kq : Nat) (x33_18 : Bool), v33 = .bool x33_18 ∧ za (impl_RuneWide.j3 kq t316 x33_18 = some r) ∧ za (kq ≤ kj15) ∧ za (Below w.heap.size w wc))
          case first =>
           have H := HC19.out
           clear HC19
           by_cases c20 : a0 ≥ 19968
           ·rw [if_pos c20] at H
            have c20b0 : decide (19968 ≤ a0) = true := decide_eq_true c20
            clear c20
            (first | rw [c20b0] | (simp only [zr, zs]; rw [c20b0]) | skip)
            have H' := za.mk H
            clear H
            go_wp2
            go_meet
            case rel => exact ⟨_, (decide (a0 ≤ 40959)), (by first | rfl | (simp; done) | (simp [*]; done)), H', ⟨by have := HJ2.out; have := HJ9.out; have := HJ15.out; first | omega | exact Nat.le_refl _⟩, ⟨by repeat (first | (with_reducible first | exact HB.out | apply zc | apply zb | apply zd) | exact HB.out)⟩⟩
           ·rw [if_neg c20] at H
            have c20b0 : decide (19968 ≤ a0) = false := decide_eq_false c20
            clear c20
            (first | rw [c20b0] | (simp only [zr, zs]; rw [c20b0]) | skip)
            have H' := za.mk H
            clear H
            go_wp2
            go_meet
            case rel => exact ⟨_, (false), (by first | rfl | (simp; done) | (simp [*]; done)), H', ⟨by have := HJ2.out; have := HJ9.out; have := HJ15.out; first | omega | exact Nat.le_refl _⟩, ⟨by repeat (first | (with_reducible first | exact HB.out | apply zc | apply zb | apply zd) | exact HB.out)⟩⟩
          case rest =>
           clear HC19
           try clear c1
           try clear c2
           try clear p2
           try clear c5
           try clear c5b0
           try clear c5b1
           try clear c6
           try clear c6b0
           try clear c6b1
           try clear c7
           try clear c7b0
           try clear c8
           try clear c8b0
           try clear c8b1
           try clear c9
           try clear c10
           try clear c11
           try clear c11b0
           try clear c11b1
           try clear c12
           try clear c12b0
           try clear c12b1
           try clear c13
           try clear c13b0
           try clear c13b1
           try clear c14
           try clear c14b0
           try clear c14b1
           try clear c15
           try clear c17
           try clear c17b0
           try clear c17b1
           try clear c18
           try clear c20
           try clear c20b0
           try clear p2
           obtain ⟨kq, x33_18, rfl, HA, HJ18, HB⟩ := hcut
           cases kq with
           | zero => exact absurd HA.out (by simp [impl_RuneWide.j3])
           | succ kj18 =>
            have H := HA.out
            clear HA
            simp only [impl_RuneWide.j3] at H
            by_cases c21 : x33_18 = true
            ·subst c21
             have H1 : (some 20) = some r := by rw [if_pos rfl] at H; exact H
             clear H
             have H := H1
             clear H1
             obtain rfl := Option.some.inj H
             go_wp2
             go_ret
             exact ⟨by first | rfl | (simp [zh, zi] <;> rfl) | (simp [*, zh, zi] <;> rfl), by repeat (first | (with_reducible first | exact HB.out | apply zc | apply zb | apply zd) | exact HB.out)⟩
            ·replace c21 := Bool.eq_false_iff.mpr c21
             subst c21
             have H1 : (if t316 = 2 then (impl_RuneWide.j4 kj18 t316 (t316 == 2)) else (impl_RuneWide.j4 kj18 t316 (t316 == 3))) = some r := by rw [if_neg (show ¬ (false = true) by decide)] at H; exact H
             clear H
             have H := H1
             clear H1
             have HC22 := za.mk H
             clear H
             go_upto_if 40 with (fail)
             go_cut [40] (fun v40 wc => ∃ (kq : Nat) (x40_21 : Bool), v40 = .bool x40_21 ∧ za (impl_RuneWide.j4 kq t316 x40_21 = some r) ∧ za (kq ≤ kj18) ∧ za (Below w.heap.size w wc))
             case first =>
              have H := HC22.out
              clear HC22
              by_cases c23 : t316 = 2
              ·rw [if_pos c23] at H
               have c23b0 : (t316 == 2) = true := beq_iff_eq.mpr c23
               have c23b1 : (t316 != 2) = false := bne_eq_false_iff_eq.mpr c23
               clear c23
               (first | rw [c23b0] | (simp only [zr, zs]; rw [c23b0]) | skip)
               have H' := za.mk H
               clear H
               go_wp2
               go_meet
               case rel => exact ⟨_, ((t316 == 2)), (by first | rfl | (simp; done) | (simp [*]; done)), H', ⟨by have := HJ2.out; have := HJ9.out; have := HJ15.out; have := HJ18.out; first | omega | exact Nat.le_refl _⟩, ⟨by repeat (first | (with_reducible first | exact HB.out | apply zc | apply zb | apply zd) | exact HB.out)⟩⟩
              ·rw [if_neg c23] at H
               have c23b0 : (t316 == 2) = false := beq_eq_false_iff_ne.mpr c23
               have c23b1 : (t316 != 2) = true := bne_iff_ne.mpr c23
               (first | rw [c23b0] | (simp only [zr, zs]; rw [c23b0]) | skip)
               have H' := za.mk H
               clear H
               go_wp2
               go_meet
               case rel => exact ⟨_, ((t316 == 3)), (by first | rfl | (simp; done) | (simp [*]; done)), H', ⟨by have := HJ2.out; have := HJ9.out; have := HJ15.out; have := HJ18.out; first | omega | exact Nat.le_refl _⟩, ⟨by repeat (first | (with_reducible first | exact HB.out | apply zc | apply zb | apply zd) | exact HB.out)⟩⟩
             case rest =>
              clear HC22
              try clear c1
              try clear c2
              try clear p2
              try clear c5
              try clear c5b0
              try clear c5b1
              try clear c6
              try clear c6b0
              try clear c6b1
              try clear c7
              try clear c7b0
              try clear c8
              try clear c8b0
              try clear c8b1
              try clear c9
              try clear c10
              try clear c11
              try clear c11b0
              try clear c11b1
              try clear c12
              try clear c12b0
              try clear c12b1
              try clear c13
              try clear c13b0
              try clear c13b1
              try clear c14
              try clear c14b0
              try clear c14b1
              try clear c15
              try clear c17
              try clear c17b0
              try clear c17b1
              try clear c18
              try clear c20
              try clear c20b0
              try clear c21
              try clear c23
              try clear c23b0
              try clear c23b1
              try clear p2
              obtain ⟨kq, x40_21, rfl, HA, HJ21, HB⟩ := hcut
              cases kq with
              | zero => exact absurd HA.out (by simp [impl_RuneWide.j4])
              | succ kj21 =>
               have H := HA.out
               clear HA
               simp only [impl_RuneWide.j4] at H
               by_cases c24 : x40_21 = true
               ·subst c24
                have H1 : (some 12) = some r := by rw [if_pos rfl] at H; exact H
                clear H
                have H := H1
                clear H1
                obtain rfl := Option.some.inj H
                go_wp2
                go_ret
                exact ⟨by first | rfl | (simp [zh, zi] <;> rfl) | (simp [*, zh, zi] <;> rfl), by repeat (first | (with_reducible first | exact HB.out | apply zc | apply zb | apply zd) | exact HB.out)⟩
               ·replace c24 := Bool.eq_false_iff.mpr c24
                subst c24
                have H1 : (if t316 = 11 then (some 40) else (if t316 = 12 then (some 6) else (if t316 = 8 then (some 6) else (some 10)))) = some r := by rw [if_neg (show ¬ (false = true) by decide)] at H; exact H
                clear H
                have H := H1
                clear H1
                by_cases c25 : t316 = 11
                ·rw [if_pos c25] at H
                 have c25b0 : (t316 == 11) = true := beq_iff_eq.mpr c25
                 have c25b1 : (t316 != 11) = false := bne_eq_false_iff_eq.mpr c25
                 clear c25
                 obtain rfl := Option.some.inj H
                 go_wp2
                 go_ret
                 exact ⟨by first | rfl | (simp [zh, zi] <;> rfl) | (simp [*, zh, zi] <;> rfl), by repeat (first | (with_reducible first | exact HB.out | apply zc | apply zb | apply zd) | exact HB.out)⟩
                ·rw [if_neg c25] at H
                 have c25b0 : (t316 == 11) = false := beq_eq_false_iff_ne.mpr c25
                 have c25b1 : (t316 != 11) = true := bne_iff_ne.mpr c25
                 by_cases c26 : t316 = 12
                 ·rw [if_pos c26] at H
                  have c26b0 : (t316 == 12) = true := beq_iff_eq.mpr c26
                  have c26b1 : (t316 != 12) = false := bne_eq_false_iff_eq.mpr c26
                  clear c26
                  obtain rfl := Option.some.inj H
                  go_wp2
                  go_ret
                  exact ⟨by first | rfl | (simp [zh, zi] <;> rfl) | (simp [*, zh, zi] <;> rfl), by repeat (first | (with_reducible first | exact HB.out | apply zc | apply zb | apply zd) | exact HB.out)⟩
                 ·rw [if_neg c26] at H
                  have c26b0 : (t316 == 12) = false := beq_eq_false_iff_ne.mpr c26
                  have c26b1 : (t316 != 12) = true := bne_iff_ne.mpr c26
                  by_cases c27 : t316 = 8
                  ·rw [if_pos c27] at H
                   have c27b0 : (t316 == 8) = true := beq_iff_eq.mpr c27
                   have c27b1 : (t316 != 8) = false := bne_eq_false_iff_eq.mpr c27
                   clear c27
                   obtain rfl := Option.some.inj H
                   go_wp2
                   go_ret
                   exact ⟨by first | rfl | (simp [zh, zi] <;> rfl) | (simp [*, zh, zi] <;> rfl), by repeat (first | (with_reducible first | exact HB.out | apply zc | apply zb | apply zd) | exact HB.out)⟩
                  ·rw [if_neg c27] at H
                   have c27b0 : (t316 == 8) = false := beq_eq_false_iff_ne.mpr c27
                   have c27b1 : (t316 != 8) = true := bne_iff_ne.mpr c27
                   obtain rfl := Option.some.inj H
                   go_wp2
                   go_ret
                   exact ⟨by first | rfl | (simp [zh, zi] <;> rfl) | (simp [*, zh, zi] <;> rfl), by repeat (first | (with_reducible first | exact HB.out | apply zc | apply zb | apply zd) | exact HB.out)⟩
def impl_clusterWide.l0 : Nat → List Int → List Bool → Int → Int → Option (Int)
 | 0, _, _, _, _ => none
 | k + 1, x0, x5, x6, x7 => if x7 < (x0.length : Int) then (if 0 ≤ x7 then (if x7 < (x5.length : Int) then (if rdOf false x5 x7 = true then ((impl_RuneWide.f k (rd x0 x7)).bind fun t324 => (impl_clusterWide.l0 k x0 x5 (mx x6 t324) (wrap64 (x7 + 1)))) else (some x6)) else (none)) else (none)) else (some x6)
def impl_clusterWide.f (k : Nat) (l0 : List Int) (a1 : Int) : Option (Int) := (impl_joined.f k l0).bind fun t317 => (if 0 ≤ a1 then (if a1 < (l0.length : Int) then ((impl_RuneWide.f k (rd l0 a1)).bind fun t321 => (impl_clusterWide.l0 k l0 t317 t321 (wrap64 (a1 + 1)))) else (none)) else (none))
theorem impl_clusterWide.calls (k : Nat) (A0 : Option Addr) (c0 : Nat) (l0 : List Int) (a1 : Int) (r : Int) (w : World) (hr0 : Kd.C (Kd.int .i64) w A0 l0.length l0) (hc0 : l0.length ≤ c0) (h : impl_clusterWide.f k l0 a1 = some r) :
  Calls Try.prog 62 #[.slice A0 l0.length c0, .int .i64 a1] w fun e w' => e = .returned (.int .i64 r) ∧ Below w.heap.size w w' := by
 have HR0 := za.mk hr0
 have HC0 := za.mk hc0
 clear hr0 hc0
 have HB := za.mk (Below.refl w.heap.size w)
 have H : ((impl_joined.f k l0).bind fun t317 => (if 0 ≤ a1 then (if a1 < (l0.length : Int) then ((impl_RuneWide.f k (rd l0 a1)).bind fun t321 => (impl_clusterWide.l0 k l0 t317 t321 (wrap64 (a1 + 1)))) else (none)) else (none))) = some r := h
 clear h
 replace H := Option.bind_eq_some_iff.mp H
 obtain ⟨t317, A30, H⟩ := H
 replace H : (if 0 ≤ a1 then (if a1 < (l0.length : Int) then ((impl_RuneWide.f k (rd l0 a1)).bind fun t321 => (impl_clusterWide.l0 k l0 t317 t321 (wrap64 (a1 + 1)))) else (none)) else (none)) = some r := H
 have A3 := za.mk A30
 clear A30
 by_cases c4 : 0 ≤ a1
 ·rw [if_pos c4] at H
  have c4b0 : decide (0 ≤ a1) = true := decide_eq_true c4
  clear c4
  by_cases c5 : a1 < (l0.length : Int)
  ·rw [if_pos c5] at H
   have c5b0 : decide (a1 < (l0.length : Int)) = true := decide_eq_true c5
   clear c5
   replace H := Option.bind_eq_some_iff.mp H
   obtain ⟨t321, A60, H⟩ := H
   replace H : (impl_clusterWide.l0 k l0 t317 t321 (wrap64 (a1 + 1))) = some r := H
   have A6 := za.mk A60
   clear A60
   have H' := za.mk H
   clear H
   go_enter Try.func62, Try.ntmps62
   go_wp2_with (first | ((with_reducible refine zj (f := 105) rfl ?_); refine zgo (some 9) Try.func105 #[.slice A0 l0.length c0] rfl ?_; (with_reducible refine (impl_joined.calls k _ _ l0 t317 _ ?side1 ?side2 A3.out).mono ?_); (case side1 => repeat (first | exact HR0.out | (with_reducible refine Kd.zea ?_ _) | (with_reducible refine Kd.zga ?_ _) | (with_reducible refine Kd.zha ?_))); (case side2 => exact HC0.out); rintro e w7 ⟨v318, rfl, ho0, hb⟩; refine ⟨_, rfl, ?_⟩; have n0_ := za.mk (Kd.zqa ho0 (zp (by repeat (first | (with_reducible first | exact HB.out | apply zc | apply zb | apply zd) | exact HB.out)))); have n1_ := za.mk (zg (by repeat (first | (with_reducible first | exact HB.out | apply zc | apply zb | apply zd) | exact HB.out)) hb); clear HB; have HO319 := n0_; have HB := n1_; clear n0_ n1_; (try clear hb); (try clear hb2); (try clear hk); (try clear hi); (try clear ho0); have p320 : 0 ≤ (a1 : Int) := of_decide_eq_true (by assumption); have q320 : a1 < (l0.length : Int) := of_decide_eq_true (by assumption); obtain ⟨ad320, e320, hx320_0⟩ := Kd.zfa HR0.out a1 p320 q320; cases e320; replace hx320_0 := (HB.out.cell (World.block_lt_of_cell? w _ hx320_0)).trans hx320_0; replace p320 := eq_true p320; replace q320 := eq_true q320) | ((with_reducible refine zj (f := 106) rfl ?_); refine zgo (some 14) Try.func106 #[.int .i64 (rd l0 a1)] rfl ?_; (with_reducible refine (impl_RuneWide.calls k (rd l0 a1) t321 _ A6.out).mono ?_); rintro e w8 ⟨rfl, hb⟩; refine ⟨_, rfl, ?_⟩; have n0_ := za.mk (Kd.zba (by (with_reducible repeat (first | apply Kd.zn | apply Kd.zo | apply Kd.zq)); exact HO319.out) hb); have n1_ := za.mk (zg (by repeat (first | (with_reducible first | exact HB.out | apply zc | apply zb | apply zd) | exact HB.out)) hb); clear HO319; clear HB; have HO319 := n0_; have HB := n1_; clear n0_ n1_; (try clear hb); (try clear hb2); (try clear hk); (try clear hi)))
   go_loopg [6, 7] k (fun kq v6 v7 w' => ∃ (x6_1 : Int) (x7_1 : Int), v6 = .int .i64 x6_1 ∧ v7 = .int .i64 x7_1 ∧ za (impl_clusterWide.l0 kq l0 t317 x6_1 x7_1 = some r) ∧ za (kq ≤ k) ∧ za (Kd.R Kd.bool 4 w' w.heap.size (fun _ => True) v318 t317) ∧ za (Below w.heap.size w w'))
   case atStart => exact ⟨(t321), (wrap64 (a1 + 1)), (by first | rfl | (simp; done) | (simp [*]; done)), (by first | rfl | (simp; done) | (simp [*]; done)), H', ⟨Nat.le_refl _⟩, ⟨by (with_reducible repeat (first | apply Kd.zn | apply Kd.zo | apply Kd.zq)); exact HO319.out⟩, ⟨by repeat (first | (with_reducible first | exact HB.out | apply zc | apply zb | apply zd) | exact HB.out)⟩⟩
   case round =>
    clear H'
    try clear c1
    try clear p2
    try clear p3
    try clear q3
    try clear hx3
    try clear c4
    try clear c4b0
    try clear c5
    try clear c5b0
    try clear c6
    try clear p6
    try clear hx320_0
    try clear p320
    try clear q320
    obtain ⟨x6_1, x7_1, rfl, rfl, HA, HK1, HO_5, HB⟩ := hrel
    cases gk with
    | zero => exact absurd HA.out (by simp [impl_clusterWide.l0])
    | succ k1 =>
     have H := HA.out
     clear HA
     simp only [impl_clusterWide.l0] at H
     by_cases c9 : x7_1 < (l0.length : Int)
     ·rw [if_pos c9] at H
      have c9b0 : decide (x7_1 < (l0.length : Int)) = true := decide_eq_true c9
      clear c9
      by_cases c10 : 0 ≤ x7_1
      ·rw [if_pos c10] at H
       have c10b0 : decide (0 ≤ x7_1) = true := decide_eq_true c10
       clear c10
       by_cases c11 : x7_1 < (t317.length : Int)
       ·rw [if_pos c11] at H
        have c11b0 : decide (x7_1 < (t317.length : Int)) = true := decide_eq_true c11
        clear c11
        obtain ⟨bq12, hbq12⟩ : ∃ b_ : Bool, b_ = (rdOf false t317 x7_1) := ⟨_, rfl⟩
        replace H : (if bq12 = true then ((impl_RuneWide.f k1 (rd l0 x7_1)).bind fun t324 => (impl_clusterWide.l0 k1 l0 t317 (mx x6_1 t324) (wrap64 (x7_1 + 1)))) else (some x6_1)) = some r := by rw [← hbq12] at H; exact H
        have Nbq12 := za.mk hbq12
        clear hbq12
        by_cases c13 : bq12 = true
        ·subst c13
         have H1 : ((impl_RuneWide.f k1 (rd l0 x7_1)).bind fun t324 => (impl_clusterWide.l0 k1 l0 t317 (mx x6_1 t324) (wrap64 (x7_1 + 1)))) = some r := by rw [if_pos rfl] at H; exact H
         clear H
         have H := H1
         clear H1
         replace H := Option.bind_eq_some_iff.mp H
         obtain ⟨t324, A140, H⟩ := H
         replace H : (impl_clusterWide.l0 k1 l0 t317 (mx x6_1 t324) (wrap64 (x7_1 + 1))) = some r := H
         have A14 := za.mk A140
         clear A140
         obtain ⟨ji15, hji15⟩ : ∃ j_ : Int, (mx x6_1 t324) = j_ := ⟨_, rfl⟩
         replace H : (impl_clusterWide.l0 k1 l0 t317 ji15 (wrap64 (x7_1 + 1))) = some r := by first | (rw [hji15] at H; exact H) | (simp only [hji15] at H ⊢; exact H)
         (try rw [hji15] at A14)
         have hji15_ : (if x6_1 < t324 then t324 else x6_1) = ji15 := hji15
         have H' := za.mk H
         clear H
         obtain ⟨Ao16, co16, eo16⟩ := Kd.zia HO_5.out
         subst eo16
         have p322 : 0 ≤ (x7_1 : Int) := of_decide_eq_true (by assumption)
         have q322 : x7_1 < (t317.length : Int) := of_decide_eq_true (by assumption)
         obtain ⟨ad322, e322, hx322_0⟩ := Kd.at_bool (Kd.zt HO_5.out).2.2 x7_1 p322 q322
         (try rw [← Nbq12.out] at hx322_0)
         cases e322
         replace p322 := eq_true p322
         replace q322 := eq_true q322
         have p323 : 0 ≤ (x7_1 : Int) := of_decide_eq_true (by assumption)
         have q323 : x7_1 < (l0.length : Int) := of_decide_eq_true (by assumption)
         obtain ⟨ad323, e323, hx323_0⟩ := Kd.zfa HR0.out x7_1 p323 q323
         obtain rfl : ad320 = ad323 := (by injection e323)
         replace hx323_0 := (HB.out.cell (World.block_lt_of_cell? w _ hx323_0)).trans hx323_0
         replace p323 := eq_true p323
         replace q323 := eq_true q323
         go_wp2_with (first | ((with_reducible refine zj (f := 106) rfl ?_); refine zgo (some 34) Try.func106 #[.int .i64 (rd l0 x7_1)] rfl ?_; (with_reducible refine (impl_RuneWide.calls k1 (rd l0 x7_1) t324 _ A14.out).mono ?_); rintro e w17 ⟨rfl, hb⟩; refine ⟨_, rfl, ?_⟩; have n0_ := za.mk (Kd.zba (by (with_reducible repeat (first | apply Kd.zn | apply Kd.zo | apply Kd.zq)); exact HO_5.out) hb); have n1_ := za.mk (zg (by repeat (first | (with_reducible first | exact HB.out | apply zc | apply zb | apply zd) | exact HB.out)) hb); clear HO_5; clear HB; have HO_5 := n0_; have HB := n1_; clear n0_ n1_; (try clear hb); (try clear hb2); (try clear hk); (try clear hi)))
         go_roundg k1
         case measure => have := HK1.out; omega
         case rel => exact ⟨(ji15), (wrap64 (x7_1 + 1)), (by first | rfl | (simp; done) | (simp only [← hji15] <;> (first | rfl | simp)) | (simp [*]; done)), (by first | rfl | (simp; done) | (simp [*]; done)), (by first | exact H' | (simp only [hji15]; exact H') | (simp only [hji15]; exact H')), ⟨by have := HK1.out; omega⟩, ⟨by (with_reducible repeat (first | apply Kd.zn | apply Kd.zo | apply Kd.zq)); exact HO_5.out⟩, ⟨by repeat (first | (with_reducible first | exact HB.out | apply zc | apply zb | apply zd) | exact HB.out)⟩⟩
        ·replace c13 := Bool.eq_false_iff.mpr c13
         subst c13
         have H1 : (some x6_1) = some r := by rw [if_neg (show ¬ (false = true) by decide)] at H; exact H
         clear H
         have H := H1
         clear H1
         obtain rfl := Option.some.inj H
         obtain ⟨Ao18, co18, eo18⟩ := Kd.zia HO_5.out
         subst eo18
         have p322 : 0 ≤ (x7_1 : Int) := of_decide_eq_true (by assumption)
         have q322 : x7_1 < (t317.length : Int) := of_decide_eq_true (by assumption)
         obtain ⟨ad322, e322, hx322_0⟩ := Kd.at_bool (Kd.zt HO_5.out).2.2 x7_1 p322 q322
         (try rw [← Nbq12.out] at hx322_0)
         cases e322
         replace p322 := eq_true p322
         replace q322 := eq_true q322
         go_wp2
         go_ret
         exact ⟨by first | rfl | (simp [zh, zi] <;> rfl) | (simp [*, zh, zi] <;> rfl), by repeat (first | (with_reducible first | exact HB.out | apply zc | apply zb | apply zd) | exact HB.out)⟩
       ·rw [if_neg c11] at H
        exact absurd H (by simp)
      ·rw [if_neg c10] at H
       exact absurd H (by simp)
     ·rw [if_neg c9] at H
      have c9b0 : decide (x7_1 < (l0.length : Int)) = false := decide_eq_false c9
      clear c9
      obtain rfl := Option.some.inj H
      go_wp2
      go_ret
      exact ⟨by first | rfl | (simp [zh, zi] <;> rfl) | (simp [*, zh, zi] <;> rfl), by repeat (first | (with_reducible first | exact HB.out | apply zc | apply zb | apply zd) | exact HB.out)⟩
  ·rw [if_neg c5] at H
   exact absurd H (by simp)
 ·rw [if_neg c4] at H
  exact absurd H (by simp)
end Go.Proofs.Ytmjhdgofepdgkaa.PFnExactFillCost
