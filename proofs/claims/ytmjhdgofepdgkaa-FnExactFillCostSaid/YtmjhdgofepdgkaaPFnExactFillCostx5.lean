-- Written by a program of this session (wip/tools) out of the translation; its shape is that of the kit print.
import Derived.Test.YtmjhdgofepdgkaaPFnExactFillCostx0
import Derived.Test.YtmjhdgofepdgkaaPFnExactFillCostx2
import Derived.Test.YtmjhdgofepdgkaaPFnExactFillCostx3
import Derived.Test.YtmjhdgofepdgkaaPFnExactFillCostx4
namespace Go.Proofs.Ytmjhdgofepdgkaa.PFnExactFillCost
open Go.RowKit Go.Proofs.YtmjhdgofepdgkaaW.PrintWords Go.Proofs.YtmjhdgofepdgkaaW.PrintLast Go.Proofs.YtmjhdgofepdgkaaW.PrintMore
attribute [local go_sem] zbb zcb zjb zkb zxa zya zdb zeb
set_option linter.unusedVariables false
set_option maxHeartbeats 8000000
set_option maxRecDepth 100000
set_option linter.unusedSimpArgs false
mutual
def spec_RuneWide.j0 : Nat → Int → Int → Bool → Option (Int)
 | 0, _, _, _ => none
 | k + 1, x0, x3, x6 => if x6 = true then (some 0) else ((spec_l1Has.f k (([105, 106, 108, 102, 116] : List Int)) x0).bind fun t160 => (if t160 = true then (some 6) else (if x0 = 109 then (spec_RuneWide.j1 k x0 x3 true) else (spec_RuneWide.j1 k x0 x3 (x0 == 119)))))
def spec_RuneWide.j1 : Nat → Int → Int → Bool → Option (Int)
 | 0, _, _, _ => none
 | k + 1, x0, x3, x29 => if x29 = true then (some 16) else ((spec_l1In.f x0 19968 40959).bind fun t161 => (if t161 = true then (some 20) else (if x3 = 2 then (spec_RuneWide.j2 k x3 true) else (spec_RuneWide.j2 k x3 (x3 == 3)))))
def spec_RuneWide.j2 : Nat → Int → Bool → Option (Int)
 | 0, _, _ => none
 | k + 1, x3, x39 => if x39 = true then (some 12) else (if x3 = 11 then (some 40) else (if x3 = 12 then (some 6) else (if x3 = 8 then (some 6) else (some 10))))
end
def spec_RuneWide.f (k : Nat) (a0 : Int) : Option (Int) := (spec_RuneBidi.f k a0).bind fun t156 => (if t156 = 9 then (spec_RuneWide.j0 k a0 t156 true) else (if t156 = 10 then (spec_RuneWide.j0 k a0 t156 true) else (if t156 ≥ 14 then (spec_RuneWide.j0 k a0 t156 true) else (if a0 = 10 then (spec_RuneWide.j0 k a0 t156 true) else (spec_RuneWide.j0 k a0 t156 (a0 == 13))))))
theorem spec_RuneWide.calls (k : Nat) (a0 : Int) (r : Int) (w : World) (h : spec_RuneWide.f k a0 = some r) :
  Calls Try.prog 125 #[.int .i64 a0] w fun e w' => e = .returned (.int .i64 r) ∧ Below w.heap.size w w' := by
 have HB := za.mk (Below.refl w.heap.size w)
 have H : ((spec_RuneBidi.f k a0).bind fun t156 => (if t156 = 9 then (spec_RuneWide.j0 k a0 t156 true) else (if t156 = 10 then (spec_RuneWide.j0 k a0 t156 true) else (if t156 ≥ 14 then (spec_RuneWide.j0 k a0 t156 true) else (if a0 = 10 then (spec_RuneWide.j0 k a0 t156 true) else (spec_RuneWide.j0 k a0 t156 (a0 == 13))))))) = some r := h
 clear h
 replace H := Option.bind_eq_some_iff.mp H
 obtain ⟨t156, A20, H⟩ := H
 replace H : (if t156 = 9 then (spec_RuneWide.j0 k a0 t156 true) else (if t156 = 10 then (spec_RuneWide.j0 k a0 t156 true) else (if t156 ≥ 14 then (spec_RuneWide.j0 k a0 t156 true) else (if a0 = 10 then (spec_RuneWide.j0 k a0 t156 true) else (spec_RuneWide.j0 k a0 t156 (a0 == 13)))))) = some r := H
 have A2 := za.mk A20
 clear A20
 have HC3 := za.mk H
 clear H
 go_enter Try.func125, Try.ntmps125
 go_upto_region 2 with (first | ((with_reducible refine zj (f := 79) rfl ?_); refine zgo (some 5) Try.func79 #[.int .i64 a0] rfl ?_; (with_reducible refine (spec_RuneBidi.calls k a0 t156 _ A2.out).mono ?_); rintro e w4 ⟨rfl, hb⟩; refine ⟨_, rfl, ?_⟩; have n0_ := za.mk (zg (by repeat (first | (with_reducible first | exact HB.out | apply zc | apply zb | apply zd) | exact HB.out)) hb); clear HB; have HB := n0_; clear n0_; (try clear hb); (try clear hb2); (try clear hk); (try clear hi)))
 (try simp only [Act.put, List.setIfInBounds_toArray, List.set_cons_zero, List.set_cons_succ])
 go_cut [6] (fun v6 wc => ∃ (kq : Nat) (x6_2 : Bool), v6 = .bool x6_2 ∧ za (spec_RuneWide.j0 kq a0 t156 x6_2 = some r) ∧ za (kq ≤ k) ∧ za (Below w.heap.size w wc))
 case first =>
  have H := HC3.out
  clear HC3
  by_cases c5 : t156 = 9
  ·rw [if_pos c5] at H
   have c5b0 : (t156 == 9) = true := beq_iff_eq.mpr c5
   have c5b1 : (t156 != 9) = false := bne_eq_false_iff_eq.mpr c5
   clear c5
   (first | rw [c5b0] | (simp only [zr, zs]; rw [c5b0]) | skip)
   have H' := za.mk H
   clear H
   go_wp2
   go_meet
   case rel => exact ⟨_, (true), (by first | rfl | (simp; done) | (simp [*]; done)), H', ⟨by first | omega | exact Nat.le_refl _⟩, ⟨by repeat (first | (with_reducible first | exact HB.out | apply zc | apply zb | apply zd) | exact HB.out)⟩⟩
  ·rw [if_neg c5] at H
   have c5b0 : (t156 == 9) = false := beq_eq_false_iff_ne.mpr c5
   have c5b1 : (t156 != 9) = true := bne_iff_ne.mpr c5
   (first | rw [c5b0] | (simp only [zr, zs]; rw [c5b0]) | skip)
   by_cases c6 : t156 = 10
   ·rw [if_pos c6] at H
    have c6b0 : (t156 == 10) = true := beq_iff_eq.mpr c6
    have c6b1 : (t156 != 10) = false := bne_eq_false_iff_eq.mpr c6
    clear c6
    have H' := za.mk H
    clear H
    go_wp2
    go_meet
    case rel => exact ⟨_, (true), (by first | rfl | (simp; done) | (simp [*]; done)), H', ⟨by first | omega | exact Nat.le_refl _⟩, ⟨by repeat (first | (with_reducible first | exact HB.out | apply zc | apply zb | apply zd) | exact HB.out)⟩⟩
   ·rw [if_neg c6] at H
    have c6b0 : (t156 == 10) = false := beq_eq_false_iff_ne.mpr c6
    have c6b1 : (t156 != 10) = true := bne_iff_ne.mpr c6
    by_cases c7 : t156 ≥ 14
    ·rw [if_pos c7] at H
     have c7b0 : decide (14 ≤ t156) = true := decide_eq_true c7
     clear c7
     have H' := za.mk H
     clear H
     go_wp2
     go_meet
     case rel => exact ⟨_, (true), (by first | rfl | (simp; done) | (simp [*]; done)), H', ⟨by first | omega | exact Nat.le_refl _⟩, ⟨by repeat (first | (with_reducible first | exact HB.out | apply zc | apply zb | apply zd) | exact HB.out)⟩⟩
    ·rw [if_neg c7] at H
     have c7b0 : decide (14 ≤ t156) = false := decide_eq_false c7
     clear c7
     by_cases c8 : a0 = 10
     ·rw [if_pos c8] at H
      have c8b0 : (a0 == 10) = true := beq_iff_eq.mpr c8
      have c8b1 : (a0 != 10) = false := bne_eq_false_iff_eq.mpr c8
      clear c8
      have H' := za.mk H
      clear H
      go_wp2
      go_meet
      case rel => exact ⟨_, (true), (by first | rfl | (simp; done) | (simp [*]; done)), H', ⟨by first | omega | exact Nat.le_refl _⟩, ⟨by repeat (first | (with_reducible first | exact HB.out | apply zc | apply zb | apply zd) | exact HB.out)⟩⟩
     ·rw [if_neg c8] at H
      have c8b0 : (a0 == 10) = false := beq_eq_false_iff_ne.mpr c8
      have c8b1 : (a0 != 10) = true := bne_iff_ne.mpr c8
      have H' := za.mk H
      clear H
      go_wp2
      go_meet
      case rel => exact ⟨_, ((a0 == 13)), (by first | rfl | (simp; done) | (simp [*]; done)), H', ⟨by first | omega | exact Nat.le_refl _⟩, ⟨by repeat (first | (with_reducible first | exact HB.out | apply zc | apply zb | apply zd) | exact HB.out)⟩⟩
 case rest =>
  clear HC3
  try clear c1
  try clear p2
  try clear c5
  try clear c5b0
  try clear c5b1
  try clear c6
  try clear c6b0
  try clear c6b1
  try clear c7
  try clear c7b0
  try clear c8
  try clear c8b0
  try clear c8b1
  obtain ⟨kq, x6_2, rfl, HA, HJ2, HB⟩ := hcut
  cases kq with
  | zero => exact absurd HA.out (by simp [spec_RuneWide.j0])
  | succ kj2 =>
   have H := HA.out
   clear HA
   simp only [spec_RuneWide.j0] at H
   by_cases c9 : x6_2 = true
   ·subst c9
    have H1 : (some 0) = some r := by rw [if_pos rfl] at H; exact H
    clear H
    have H := H1
    clear H1
    obtain rfl := Option.some.inj H
    go_wp2
    go_ret
    exact ⟨by first | rfl | (simp [zh, zi] <;> rfl) | (simp [*, zh, zi] <;> rfl), by repeat (first | (with_reducible first | exact HB.out | apply zc | apply zb | apply zd) | exact HB.out)⟩
   ·replace c9 := Bool.eq_false_iff.mpr c9
    subst c9
    have H1 : ((spec_l1Has.f kj2 (([105, 106, 108, 102, 116] : List Int)) a0).bind fun t160 => (if t160 = true then (some 6) else (if a0 = 109 then (spec_RuneWide.j1 kj2 a0 t156 true) else (spec_RuneWide.j1 kj2 a0 t156 (a0 == 119))))) = some r := by rw [if_neg (show ¬ (false = true) by decide)] at H; exact H
    clear H
    have H := H1
    clear H1
    obtain ⟨y157, hy157⟩ : ∃ y_ : List Int, y_ = (([105, 106, 108, 102, 116] : List Int)) := ⟨_, rfl⟩
    replace H : ((spec_l1Has.f kj2 y157 a0).bind fun t160 => (if t160 = true then (some 6) else (if a0 = 109 then (spec_RuneWide.j1 kj2 a0 t156 true) else (spec_RuneWide.j1 kj2 a0 t156 (a0 == 119))))) = some r := by first | (rw [hy157]; with_reducible exact H) | (have H2_ := (Option.bind_some _ _).symm.trans H; rw [hy157]; with_reducible exact H2_) | (have H2_ := (Option.bind_some _ _).symm.trans H; with_reducible exact H2_) | with_reducible exact H | (rw [hy157]; exact H) | exact H
    have Ny157 := za.mk hy157
    clear hy157
    replace H := Option.bind_eq_some_iff.mp H
    obtain ⟨t160, A100, H⟩ := H
    replace H : (if t160 = true then (some 6) else (if a0 = 109 then (spec_RuneWide.j1 kj2 a0 t156 true) else (spec_RuneWide.j1 kj2 a0 t156 (a0 == 119)))) = some r := H
    have A10 := za.mk A100
    clear A100
    by_cases c11 : t160 = true
    ·subst c11
     have H1 : (some 6) = some r := by rw [if_pos rfl] at H; exact H
     clear H
     have H := H1
     clear H1
     obtain rfl := Option.some.inj H
     go_wp2_with (first | ((with_reducible refine zw (N := 26) rfl ?_); refine Kd.zwa (Kd.int .i64) _ 3 ?hg (N := 26) ?hd (xs := ([105, 106, 108, 102, 116] : List Int)) (inner := [.int .i64 105, .int .i64 106, .int .i64 108, .int .i64 102, .int .i64 116]) (ok := fun _ => True) (okp := fun _ => True) ?hr ?hp (fun _ hk => hk) trivial (Below.refl _ _) (Nat.le_refl _) (by simp) ?_; (case hd => rfl); (case hg => rfl); (case hr => first | (go_simp; done) | (go_simp; rfl)); (case hp => exact (Reps.one (show Kd.M (Kd.int .i64) _ _ _ 105 [.int .i64 105] from rfl) (Reps.one (show Kd.M (Kd.int .i64) _ _ _ 106 [.int .i64 106] from rfl) (Reps.one (show Kd.M (Kd.int .i64) _ _ _ 108 [.int .i64 108] from rfl) (Reps.one (show Kd.M (Kd.int .i64) _ _ _ 102 [.int .i64 102] from rfl) (Reps.one (show Kd.M (Kd.int .i64) _ _ _ 116 [.int .i64 116] from rfl) (Reps.none _ _))))))); intro v158 w12 ho13 hb hg_ hnew_; clear hg_ hnew_; (first | rw [← Ny157.out] at ho13 | (simp only [Int.reduceToNat] at ho13; rw [← Ny157.out] at ho13)); have n0_ := za.mk (Kd.zqa ho13 (zp (by repeat (first | (with_reducible first | exact HB.out | apply zc | apply zb | apply zd) | exact HB.out)))); have n1_ := za.mk (zg (by repeat (first | (with_reducible first | exact HB.out | apply zc | apply zb | apply zd) | exact HB.out)) hb); clear HB; have HO159 := n0_; have HB := n1_; clear n0_ n1_; clear hb ho13; obtain ⟨Ao14, co14, eo14⟩ := Kd.zia HO159.out; subst eo14) | ((with_reducible refine zj (f := 159) rfl ?_); refine zgo (some 28) Try.func159 #[.slice Ao14 y157.length co14, .int .i64 a0] rfl ?_; (with_reducible refine (spec_l1Has.calls kj2 _ _ y157 a0 true _ ?side1 ?side2 A10.out).mono ?_); (case side1 => repeat (first | exact (Kd.zt HO159.out).2.2 | (with_reducible refine Kd.zea ?_ _) | (with_reducible refine Kd.zga ?_ _) | (with_reducible refine Kd.zha ?_))); (case side2 => exact (Kd.zt HO159.out).2.1); rintro e w' ⟨rfl, ⟨nd, rfl⟩⟩; refine ⟨_, rfl, ?_⟩))
     go_ret
     exact ⟨by first | rfl | (simp [zh, zi] <;> rfl) | (simp [*, zh, zi] <;> rfl), by repeat (first | (with_reducible first | exact HB.out | apply zc | apply zb | apply zd) | exact HB.out)⟩
    ·replace c11 := Bool.eq_false_iff.mpr c11
     subst c11
     have H1 : (if a0 = 109 then (spec_RuneWide.j1 kj2 a0 t156 true) else (spec_RuneWide.j1 kj2 a0 t156 (a0 == 119))) = some r := by rw [if_neg (show ¬ (false = true) by decide)] at H; exact H
     clear H
     have H := H1
     clear H1
     have HC15 := za.mk H
     clear H
     go_upto_region 6 with (first | ((with_reducible refine zw (N := 26) rfl ?_); refine Kd.zwa (Kd.int .i64) _ 3 ?hg (N := 26) ?hd (xs := ([105, 106, 108, 102, 116] : List Int)) (inner := [.int .i64 105, .int .i64 106, .int .i64 108, .int .i64 102, .int .i64 116]) (ok := fun _ => True) (okp := fun _ => True) ?hr ?hp (fun _ hk => hk) trivial (Below.refl _ _) (Nat.le_refl _) (by simp) ?_; (case hd => rfl); (case hg => rfl); (case hr => first | (go_simp; done) | (go_simp; rfl)); (case hp => exact (Reps.one (show Kd.M (Kd.int .i64) _ _ _ 105 [.int .i64 105] from rfl) (Reps.one (show Kd.M (Kd.int .i64) _ _ _ 106 [.int .i64 106] from rfl) (Reps.one (show Kd.M (Kd.int .i64) _ _ _ 108 [.int .i64 108] from rfl) (Reps.one (show Kd.M (Kd.int .i64) _ _ _ 102 [.int .i64 102] from rfl) (Reps.one (show Kd.M (Kd.int .i64) _ _ _ 116 [.int .i64 116] from rfl) (Reps.none _ _))))))); intro v158 w16 ho17 hb hg_ hnew_; clear hg_ hnew_; (first | rw [← Ny157.out] at ho17 | (simp only [Int.reduceToNat] at ho17; rw [← Ny157.out] at ho17)); have n0_ := za.mk (Kd.zqa ho17 (zp (by repeat (first | (with_reducible first | exact HB.out | apply zc | apply zb | apply zd) | exact HB.out)))); have n1_ := za.mk (zg (by repeat (first | (with_reducible first | exact HB.out | apply zc | apply zb | apply zd) | exact HB.out)) hb); clear HB; have HO159 := n0_; have HB := n1_; clear n0_ n1_; clear hb ho17; obtain ⟨Ao18, co18, eo18⟩ := Kd.zia HO159.out; subst eo18) | ((with_reducible refine zj (f := 159) rfl ?_); refine zgo (some 28) Try.func159 #[.slice Ao18 y157.length co18, .int .i64 a0] rfl ?_; (with_reducible refine (spec_l1Has.calls kj2 _ _ y157 a0 false _ ?side1 ?side2 A10.out).mono ?_); (case side1 => repeat (first | exact (Kd.zt HO159.out).2.2 | (with_reducible refine Kd.zea ?_ _) | (with_reducible refine Kd.zga ?_ _) | (with_reducible refine Kd.zha ?_))); (case side2 => exact (Kd.zt HO159.out).2.1); rintro e w' ⟨rfl, ⟨nd, rfl⟩⟩; refine ⟨_, rfl, ?_⟩))
     (try simp only [Act.put, List.setIfInBounds_toArray, List.set_cons_zero, List.set_cons_succ])
     go_cut [29] (fun v29 wc => ∃ (kq : Nat) (x29_14 : Bool), v29 = .bool x29_14 ∧ za (spec_RuneWide.j1 kq a0 t156 x29_14 = some r) ∧ za (kq ≤ kj2) ∧ za (Below w.heap.size w wc))
     case first =>
      have H := HC15.out
      clear HC15
      by_cases c19 : a0 = 109
      ·rw [if_pos c19] at H
       have c19b0 : (a0 == 109) = true := beq_iff_eq.mpr c19
       have c19b1 : (a0 != 109) = false := bne_eq_false_iff_eq.mpr c19
       clear c19
       (first | rw [c19b0] | (simp only [zr, zs]; rw [c19b0]) | skip)
       have H' := za.mk H
       clear H
       go_wp2
       go_meet
       case rel => exact ⟨_, (true), (by first | rfl | (simp; done) | (simp [*]; done)), H', ⟨by have := HJ2.out; first | omega | exact Nat.le_refl _⟩, ⟨by repeat (first | (with_reducible first | exact HB.out | apply zc | apply zb | apply zd) | exact HB.out)⟩⟩
      ·rw [if_neg c19] at H
       have c19b0 : (a0 == 109) = false := beq_eq_false_iff_ne.mpr c19
       have c19b1 : (a0 != 109) = true := bne_iff_ne.mpr c19
       (first | rw [c19b0] | (simp only [zr, zs]; rw [c19b0]) | skip)
       have H' := za.mk H
       clear H
       go_wp2
       go_meet
       case rel => exact ⟨_, ((a0 == 119)), (by first | rfl | (simp; done) | (simp [*]; done)), H', ⟨by have := HJ2.out; first | omega | exact Nat.le_refl _⟩, ⟨by repeat (first | (with_reducible first | exact HB.out | apply zc | apply zb | apply zd) | exact HB.out)⟩⟩
     case rest =>
      clear HC15
      try clear c1
      try clear p2
      try clear c5
      try clear c5b0
      try clear c5b1
      try clear c6
      try clear c6b0
      try clear c6b1
      try clear c7
      try clear c7b0
      try clear c8
      try clear c8b0
      try clear c8b1
      try clear c9
      try clear c11
      try clear c12
      try clear c15
      try clear c19
      try clear c19b0
      try clear c19b1
      try clear p2
      obtain ⟨kq, x29_14, rfl, HA, HJ14, HB⟩ := hcut
      cases kq with
      | zero => exact absurd HA.out (by simp [spec_RuneWide.j1])
      | succ kj14 =>
       have H := HA.out
       clear HA
       simp only [spec_RuneWide.j1] at H
       by_cases c20 : x29_14 = true
       ·subst c20
        have H1 : (some 16) = some r := by rw [if_pos rfl] at H; exact H
        clear H
        have H := H1
        clear H1
        obtain rfl := Option.some.inj H
        go_wp2
        go_ret
        exact ⟨by first | rfl | (simp [zh, zi] <;> rfl) | (simp [*, zh, zi] <;> rfl), by repeat (first | (with_reducible first | exact HB.out | apply zc | apply zb | apply zd) | exact HB.out)⟩
       ·replace c20 := Bool.eq_false_iff.mpr c20
        subst c20
        have H1 : ((spec_l1In.f a0 19968 40959).bind fun t161 => (if t161 = true then (some 20) else (if t156 = 2 then (spec_RuneWide.j2 kj14 t156 true) else (spec_RuneWide.j2 kj14 t156 (t156 == 3))))) = some r := by rw [if_neg (show ¬ (false = true) by decide)] at H; exact H
        clear H
        have H := H1
        clear H1
        replace H := Option.bind_eq_some_iff.mp H
        obtain ⟨t161, A210, H⟩ := H
        replace H : (if t161 = true then (some 20) else (if t156 = 2 then (spec_RuneWide.j2 kj14 t156 true) else (spec_RuneWide.j2 kj14 t156 (t156 == 3)))) = some r := H
        have A21 := za.mk A210
        clear A210
        by_cases c22 : t161 = true
        ·subst c22
         have H1 : (some 20) = some r := by rw [if_pos rfl] at H; exact H
         clear H
         have H := H1
         clear H1
         obtain rfl := Option.some.inj H
         go_wp2_with (first | ((with_reducible refine zj (f := 74) rfl ?_); refine zgo (some 38) Try.func74 #[.int .i64 a0, .int .i64 19968, .int .i64 40959] rfl ?_; (with_reducible refine (spec_l1In.calls a0 19968 40959 true _ A21.out).mono ?_); rintro e w' ⟨rfl, ⟨nd, rfl⟩⟩; refine ⟨_, rfl, ?_⟩))
         go_ret
         exact ⟨by first | rfl | (simp [zh, zi] <;> rfl) | (simp [*, zh, zi] <;> rfl), by repeat (first | (with_reducible first | exact HB.out | apply zc | apply zb | apply zd) | exact HB.out)⟩
        ·replace c22 := Bool.eq_false_iff.mpr c22
         subst c22
         have H1 : (if t156 = 2 then (spec_RuneWide.j2 kj14 t156 true) else (spec_RuneWide.j2 kj14 t156 (t156 == 3))) = some r := by rw [if_neg (show ¬ (false = true) by decide)] at H; exact H
         clear H
         have H := H1
         clear H1
         have HC23 := za.mk H
         clear H
         go_upto_region 10 with (first | ((with_reducible refine zj (f := 74) rfl ?_); refine zgo (some 38) Try.func74 #[.int .i64 a0, .int .i64 19968, .int .i64 40959] rfl ?_; (with_reducible refine (spec_l1In.calls a0 19968 40959 false _ A21.out).mono ?_); rintro e w' ⟨rfl, ⟨nd, rfl⟩⟩; refine ⟨_, rfl, ?_⟩))
         (try simp only [Act.put, List.setIfInBounds_toArray, List.set_cons_zero, List.set_cons_succ])
         go_cut [39] (fun v39 wc => ∃ (kq : Nat) (x39_22 : Bool), v39 = .bool x39_22 ∧ za (spec_RuneWide.j2 kq t156 x39_22 = some r) ∧ za (kq ≤ kj14) ∧ za (Below w.heap.size w wc))
         case first =>
          have H := HC23.out
          clear HC23
          by_cases c24 : t156 = 2
          ·rw [if_pos c24] at H
           have c24b0 : (t156 == 2) = true := beq_iff_eq.mpr c24
           have c24b1 : (t156 != 2) = false := bne_eq_false_iff_eq.mpr c24
           clear c24
           (first | rw [c24b0] | (simp only [zr, zs]; rw [c24b0]) | skip)
           have H' := za.mk H
           clear H
           go_wp2
           go_meet
           case rel => exact ⟨_, (true), (by first | rfl | (simp; done) | (simp [*]; done)), H', ⟨by have := HJ2.out; have := HJ14.out; first | omega | exact Nat.le_refl _⟩, ⟨by repeat (first | (with_reducible first | exact HB.out | apply zc | apply zb | apply zd) | exact HB.out)⟩⟩
          ·rw [if_neg c24] at H
           have c24b0 : (t156 == 2) = false := beq_eq_false_iff_ne.mpr c24
           have c24b1 : (t156 != 2) = true := bne_iff_ne.mpr c24
           (first | rw [c24b0] | (simp only [zr, zs]; rw [c24b0]) | skip)
           have H' := za.mk H
           clear H
           go_wp2
           go_meet
           case rel => exact ⟨_, ((t156 == 3)), (by first | rfl | (simp; done) | (simp [*]; done)), H', ⟨by have := HJ2.out; have := HJ14.out; first | omega | exact Nat.le_refl _⟩, ⟨by repeat (first | (with_reducible first | exact HB.out | apply zc | apply zb | apply zd) | exact HB.out)⟩⟩
         case rest =>
          clear HC23
          try clear c1
          try clear c2
          try clear p2
          try clear c5
          try clear c5b0
          try clear c5b1
          try clear c6
          try clear c6b0
          try clear c6b1
          try clear c7
          try clear c7b0
          try clear c8
          try clear c8b0
          try clear c8b1
          try clear c9
          try clear c11
          try clear c12
          try clear c15
          try clear c19
          try clear c19b0
          try clear c19b1
          try clear c20
          try clear c22
          try clear c24
          try clear c24b0
          try clear c24b1
          try clear p2
          obtain ⟨kq, x39_22, rfl, HA, HJ22, HB⟩ := hcut
          cases kq with
          | zero => exact absurd HA.out (by simp [spec_RuneWide.j2])
          | succ kj22 =>
           have H := HA.out
           clear HA
           simp only [spec_RuneWide.j2] at H
           by_cases c25 : x39_22 = true
           ·subst c25
            have H1 : (some 12) = some r := by rw [if_pos rfl] at H; exact H
            clear H
            have H := H1
            clear H1
            obtain rfl := Option.some.inj H
            go_wp2
            go_ret
            exact ⟨by first | rfl | (simp [zh, zi] <;> rfl) | (simp [*, zh, zi] <;> rfl), by repeat (first | (with_reducible first | exact HB.out | apply zc | apply zb | apply zd) | exact HB.out)⟩
           ·replace c25 := Bool.eq_false_iff.mpr c25
            subst c25
            have H1 : (if t156 = 11 then (some 40) else (if t156 = 12 then (some 6) else (if t156 = 8 then (some 6) else (some 10)))) = some r := by rw [if_neg (show ¬ (false = true) by decide)] at H; exact H
            clear H
            have H := H1
            clear H1
            by_cases c26 : t156 = 11
            ·rw [if_pos c26] at H
             have c26b0 : (t156 == 11) = true := beq_iff_eq.mpr c26
             have c26b1 : (t156 != 11) = false := bne_eq_false_iff_eq.mpr c26
             clear c26
             obtain rfl := Option.some.inj H
             go_wp2
             go_ret
             exact ⟨by first | rfl | (simp [zh, zi] <;> rfl) | (simp [*, zh, zi] <;> rfl), by repeat (first | (with_reducible first | exact HB.out | apply zc | apply zb | apply zd) | exact HB.out)⟩
            ·rw [if_neg c26] at H
             have c26b0 : (t156 == 11) = false := beq_eq_false_iff_ne.mpr c26
             have c26b1 : (t156 != 11) = true := bne_iff_ne.mpr c26
             by_cases c27 : t156 = 12
             ·rw [if_pos c27] at H
              have c27b0 : (t156 == 12) = true := beq_iff_eq.mpr c27
              have c27b1 : (t156 != 12) = false := bne_eq_false_iff_eq.mpr c27
              clear c27
              obtain rfl := Option.some.inj H
              go_wp2
              go_ret
              exact ⟨by first | rfl | (simp [zh, zi] <;> rfl) | (simp [*, zh, zi] <;> rfl), by repeat (first | (with_reducible first | exact HB.out | apply zc | apply zb | apply zd) | exact HB.out)⟩
             ·rw [if_neg c27] at H
              have c27b0 : (t156 == 12) = false := beq_eq_false_iff_ne.mpr c27
              have c27b1 : (t156 != 12) = true := bne_iff_ne.mpr c27
              by_cases c28 : t156 = 8
              ·rw [if_pos c28] at H
               have c28b0 : (t156 == 8) = true := beq_iff_eq.mpr c28
               have c28b1 : (t156 != 8) = false := bne_eq_false_iff_eq.mpr c28
               clear c28
               obtain rfl := Option.some.inj H
               go_wp2
               go_ret
               exact ⟨by first | rfl | (simp [zh, zi] <;> rfl) | (simp [*, zh, zi] <;> rfl), by repeat (first | (with_reducible first | exact HB.out | apply zc | apply zb | apply zd) | exact HB.out)⟩
              ·rw [if_neg c28] at H
               have c28b0 : (t156 == 8) = false := beq_eq_false_iff_ne.mpr c28
               have c28b1 : (t156 != 8) = true := bne_iff_ne.mpr c28
               obtain rfl := Option.some.inj H
               go_wp2
               go_ret
               exact ⟨by first | rfl | (simp [zh, zi] <;> rfl) | (simp [*, zh, zi] <;> rfl), by repeat (first | (with_reducible first | exact HB.out | apply zc | apply zb | apply zd) | exact HB.out)⟩
mutual
def spec_l2Wide.l0 : Nat → List Int → Int → Int → Option (Int)
 | 0, _, _, _ => none
 | k + 1, x0, x5, x6 => if x6 < (x0.length : Int) then ((spec_l2Joins.f k x0 x6).bind fun t164 => (spec_l2Wide.j1 k x0 x5 x6 t164)) else (spec_l2Wide.j1 k x0 x5 x6 false)
def spec_l2Wide.j1 : Nat → List Int → Int → Int → Bool → Option (Int)
 | 0, _, _, _, _ => none
 | k + 1, x0, x5, x6, x22 => if x22 = true then (if 0 ≤ x6 then (if x6 < (x0.length : Int) then ((spec_RuneWide.f k (rd x0 x6)).bind fun t166 => (if t166 > x5 then ((spec_RuneWide.f k (rd x0 x6)).bind fun t168 => (spec_l2Wide.l0 k x0 t168 (wrap64 (x6 + 1)))) else (spec_l2Wide.l0 k x0 x5 (wrap64 (x6 + 1))))) else (none)) else (none)) else (some x5)
end
def spec_l2Wide.f (k : Nat) (l0 : List Int) (a1 : Int) : Option (Int) := if 0 ≤ a1 then (if a1 < (l0.length : Int) then ((spec_RuneWide.f k (rd l0 a1)).bind fun t163 => (spec_l2Wide.l0 k l0 t163 (wrap64 (a1 + 1)))) else (none)) else (none)
theorem spec_l2Wide.calls (k : Nat) (A0 : Option Addr) (c0 : Nat) (l0 : List Int) (a1 : Int) (r : Int) (w : World) (hr0 : Kd.C (Kd.int .i64) w A0 l0.length l0) (hc0 : l0.length ≤ c0) (h : spec_l2Wide.f k l0 a1 = some r) :
  Calls Try.prog 98 #[.slice A0 l0.length c0, .int .i64 a1] w fun e w' => e = .returned (.int .i64 r) ∧ Below w.heap.size w w' := by
 have HR0 := za.mk hr0
 have HC0 := za.mk hc0
 clear hr0 hc0
 have HB := za.mk (Below.refl w.heap.size w)
 have H : (if 0 ≤ a1 then (if a1 < (l0.length : Int) then ((spec_RuneWide.f k (rd l0 a1)).bind fun t163 => (spec_l2Wide.l0 k l0 t163 (wrap64 (a1 + 1)))) else (none)) else (none)) = some r := h
 clear h
 by_cases c3 : 0 ≤ a1
 ·rw [if_pos c3] at H
  have c3b0 : decide (0 ≤ a1) = true := decide_eq_true c3
  clear c3
  by_cases c4 : a1 < (l0.length : Int)
  ·rw [if_pos c4] at H
   have c4b0 : decide (a1 < (l0.length : Int)) = true := decide_eq_true c4
   clear c4
   replace H := Option.bind_eq_some_iff.mp H
   obtain ⟨t163, A50, H⟩ := H
   replace H : (spec_l2Wide.l0 k l0 t163 (wrap64 (a1 + 1))) = some r := H
   have A5 := za.mk A50
   clear A50
   have H' := za.mk H
   clear H
   have p162 : 0 ≤ (a1 : Int) := of_decide_eq_true (by assumption)
   have q162 : a1 < (l0.length : Int) := of_decide_eq_true (by assumption)
   obtain ⟨ad162, e162, hx162_0⟩ := Kd.zfa HR0.out a1 p162 q162
   cases e162
   replace p162 := eq_true p162
   replace q162 := eq_true q162
   go_enter Try.func98, Try.ntmps98
   go_wp2_with (first | ((with_reducible refine zj (f := 125) rfl ?_); refine zgo (some 11) Try.func125 #[.int .i64 (rd l0 a1)] rfl ?_; (with_reducible refine (spec_RuneWide.calls k (rd l0 a1) t163 _ A5.out).mono ?_); rintro e w6 ⟨rfl, hb⟩; refine ⟨_, rfl, ?_⟩; have n0_ := za.mk (zg (by repeat (first | (with_reducible first | exact HB.out | apply zc | apply zb | apply zd) | exact HB.out)) hb); clear HB; have HB := n0_; clear n0_; (try clear hb); (try clear hb2); (try clear hk); (try clear hi)))
   go_loopg [5, 6] k (fun kq v5 v6 w' => ∃ (x5_1 : Int) (x6_1 : Int), v5 = .int .i64 x5_1 ∧ v6 = .int .i64 x6_1 ∧ za (spec_l2Wide.l0 kq l0 x5_1 x6_1 = some r) ∧ za (kq ≤ k) ∧ za (Below w.heap.size w w'))
   case atStart => exact ⟨(t163), (wrap64 (a1 + 1)), (by first | rfl | (simp; done) | (simp [*]; done)), (by first | rfl | (simp; done) | (simp [*]; done)), H', ⟨Nat.le_refl _⟩, ⟨by repeat (first | (with_reducible first | exact HB.out | apply zc | apply zb | apply zd) | exact HB.out)⟩⟩
   case round =>
    clear H'
    try clear c1
    try clear p1
    try clear q1
    try clear hx1
    try clear p2
    try clear c3
    try clear c3b0
    try clear c4
    try clear c4b0
    try clear p6
    try clear hx162_0
    try clear p162
    try clear q162
    obtain ⟨x5_1, x6_1, rfl, rfl, HA, HK1, HB⟩ := hrel
    cases gk with
    | zero => exact absurd HA.out (by simp [spec_l2Wide.l0])
    | succ k1 =>
     have H := HA.out
     clear HA
     simp only [spec_l2Wide.l0] at H
     have HC7 := za.mk H
     clear H
     go_upto_region 3 with (fail)
     go_cut [22] (fun v22 wc => ∃ (kq : Nat) (x22_6 : Bool), v22 = .bool x22_6 ∧ za (spec_l2Wide.j1 kq l0 x5_1 x6_1 x22_6 = some r) ∧ za (kq ≤ k1) ∧ za (Below w.heap.size w wc))
     case first =>
      have H := HC7.out
      clear HC7
      by_cases c8 : x6_1 < (l0.length : Int)
      ·rw [if_pos c8] at H
       have c8b0 : decide (x6_1 < (l0.length : Int)) = true := decide_eq_true c8
       clear c8
       (first | rw [c8b0] | (simp only [zr, zs]; rw [c8b0]) | skip)
       replace H := Option.bind_eq_some_iff.mp H
       obtain ⟨t164, A90, H⟩ := H
       replace H : (spec_l2Wide.j1 k1 l0 x5_1 x6_1 t164) = some r := H
       have A9 := za.mk A90
       clear A90
       have H' := za.mk H
       clear H
       go_wp2_with (first | (go_at_call 112; (with_reducible refine (spec_l2Joins.calls k1 _ _ l0 x6_1 t164 _ ?side1 ?side2 A9.out).mono ?_); (case side1 => repeat (first | exact (Kd.zka HR0.out HB.out) | (with_reducible refine Kd.zea ?_ _) | (with_reducible refine Kd.zga ?_ _) | (with_reducible refine Kd.zha ?_))); (case side2 => exact HC0.out); rintro e w10 ⟨rfl, hb⟩; have n0_ := za.mk (zg (by repeat (first | (with_reducible first | exact HB.out | apply zc | apply zb | apply zd) | exact HB.out)) hb); clear HB; have HB := n0_; clear n0_; (try clear hb); (try clear hb2); (try clear hk); (try clear hi)))
       go_meet
       case rel => exact ⟨_, (t164), (by first | rfl | (simp; done) | (simp [*]; done)), H', ⟨by have := HK1.out; first | omega | exact Nat.le_refl _⟩, ⟨by repeat (first | (with_reducible first | exact HB.out | apply zc | apply zb | apply zd) | exact HB.out)⟩⟩
      ·rw [if_neg c8] at H
       have c8b0 : decide (x6_1 < (l0.length : Int)) = false := decide_eq_false c8
       clear c8
       (first | rw [c8b0] | (simp only [zr, zs]; rw [c8b0]) | skip)
       have H' := za.mk H
       clear H
       go_wp2
       go_meet
       case rel => exact ⟨_, (false), (by first | rfl | (simp; done) | (simp [*]; done)), H', ⟨by have := HK1.out; first | omega | exact Nat.le_refl _⟩, ⟨by repeat (first | (with_reducible first | exact HB.out | apply zc | apply zb | apply zd) | exact HB.out)⟩⟩
     case rest =>
      clear HC7
      try clear c1
      try clear p1
      try clear q1
      try clear hx1
      try clear p2
      try clear c3
      try clear c3b0
      try clear c4
      try clear c4b0
      try clear p6
      try clear c8
      try clear c8b0
      try clear c9
      try clear hx162_0
      try clear p1
      try clear p162
      try clear p2
      try clear p6
      try clear q1
      try clear q162
      obtain ⟨kq, x22_6, rfl, HA, HJ6, HB⟩ := hcut
      cases kq with
      | zero => exact absurd HA.out (by simp [spec_l2Wide.j1])
      | succ kj6 =>
       have H := HA.out
       clear HA
       simp only [spec_l2Wide.j1] at H
       by_cases c11 : x22_6 = true
       ·subst c11
        have H1 : (if 0 ≤ x6_1 then (if x6_1 < (l0.length : Int) then ((spec_RuneWide.f kj6 (rd l0 x6_1)).bind fun t166 => (if t166 > x5_1 then ((spec_RuneWide.f kj6 (rd l0 x6_1)).bind fun t168 => (spec_l2Wide.l0 kj6 l0 t168 (wrap64 (x6_1 + 1)))) else (spec_l2Wide.l0 kj6 l0 x5_1 (wrap64 (x6_1 + 1))))) else (none)) else (none)) = some r := by rw [if_pos rfl] at H; exact H
        clear H
        have H := H1
        clear H1
        by_cases c12 : 0 ≤ x6_1
        ·rw [if_pos c12] at H
         have c12b0 : decide (0 ≤ x6_1) = true := decide_eq_true c12
         clear c12
         by_cases c13 : x6_1 < (l0.length : Int)
         ·rw [if_pos c13] at H
          have c13b0 : decide (x6_1 < (l0.length : Int)) = true := decide_eq_true c13
          clear c13
          replace H := Option.bind_eq_some_iff.mp H
          obtain ⟨t166, A140, H⟩ := H
          replace H : (if t166 > x5_1 then ((spec_RuneWide.f kj6 (rd l0 x6_1)).bind fun t168 => (spec_l2Wide.l0 kj6 l0 t168 (wrap64 (x6_1 + 1)))) else (spec_l2Wide.l0 kj6 l0 x5_1 (wrap64 (x6_1 + 1)))) = some r := H
          have A14 := za.mk A140
          clear A140
          by_cases c15 : t166 > x5_1
          ·rw [if_pos c15] at H
           have c15b0 : decide (x5_1 < t166) = true := decide_eq_true c15
           clear c15
           replace H := Option.bind_eq_some_iff.mp H
           obtain ⟨t168, A160, H⟩ := H
           replace H : (spec_l2Wide.l0 kj6 l0 t168 (wrap64 (x6_1 + 1))) = some r := H
           have A16 := za.mk A160
           clear A160
           have H' := za.mk H
           clear H
           have p165 : 0 ≤ (x6_1 : Int) := of_decide_eq_true (by assumption)
           have q165 : x6_1 < (l0.length : Int) := of_decide_eq_true (by assumption)
           obtain ⟨ad165, e165, hx165_0⟩ := Kd.zfa HR0.out x6_1 p165 q165
           obtain rfl : ad162 = ad165 := (by injection e165)
           replace hx165_0 := (HB.out.cell (World.block_lt_of_cell? w _ hx165_0)).trans hx165_0
           replace p165 := eq_true p165
           replace q165 := eq_true q165
           go_wp2_with (first | ((with_reducible refine zj (f := 125) rfl ?_); refine zgo (some 29) Try.func125 #[.int .i64 (rd l0 x6_1)] rfl ?_; (with_reducible refine (spec_RuneWide.calls kj6 (rd l0 x6_1) t166 _ A14.out).mono ?_); rintro e w17 ⟨rfl, hb⟩; refine ⟨_, rfl, ?_⟩; have n0_ := za.mk (zg (by repeat (first | (with_reducible first | exact HB.out | apply zc | apply zb | apply zd) | exact HB.out)) hb); clear HB; have HB := n0_; clear n0_; (try clear hb); (try clear hb2); (try clear hk); (try clear hi); have p167 : 0 ≤ (x6_1 : Int) := of_decide_eq_true (by assumption); have q167 : x6_1 < (l0.length : Int) := of_decide_eq_true (by assumption); obtain ⟨ad167, e167, hx167_0⟩ := Kd.zfa HR0.out x6_1 p167 q167; obtain rfl : ad162 = ad167 := (by injection e167); replace hx167_0 := (HB.out.cell (World.block_lt_of_cell? w _ hx167_0)).trans hx167_0; replace p167 := eq_true p167; replace q167 := eq_true q167) | ((with_reducible refine zj (f := 125) rfl ?_); refine zgo (some 36) Try.func125 #[.int .i64 (rd l0 x6_1)] rfl ?_; (with_reducible refine (spec_RuneWide.calls kj6 (rd l0 x6_1) t168 _ A16.out).mono ?_); rintro e w18 ⟨rfl, hb⟩; refine ⟨_, rfl, ?_⟩; have n0_ := za.mk (zg (by repeat (first | (with_reducible first | exact HB.out | apply zc | apply zb | apply zd) | exact HB.out)) hb); clear HB; have HB := n0_; clear n0_; (try clear hb); (try clear hb2); (try clear hk); (try clear hi)))
           go_roundg kj6
           case measure => have := HK1.out; have := HJ6.out; omega
           case rel => exact ⟨(t168), (wrap64 (x6_1 + 1)), (by first | rfl | (simp; done) | (simp [*]; done)), (by first | rfl | (simp; done) | (simp [*]; done)), H', ⟨by have := HK1.out; have := HJ6.out; omega⟩, ⟨by repeat (first | (with_reducible first | exact HB.out | apply zc | apply zb | apply zd) | exact HB.out)⟩⟩
          ·rw [if_neg c15] at H
           have c15b0 : decide (x5_1 < t166) = false := decide_eq_false c15
           clear c15
           have H' := za.mk H
           clear H
           have p165 : 0 ≤ (x6_1 : Int) := of_decide_eq_true (by assumption)
           have q165 : x6_1 < (l0.length : Int) := of_decide_eq_true (by assumption)
           obtain ⟨ad165, e165, hx165_0⟩ := Kd.zfa HR0.out x6_1 p165 q165
           obtain rfl : ad162 = ad165 := (by injection e165)
           replace hx165_0 := (HB.out.cell (World.block_lt_of_cell? w _ hx165_0)).trans hx165_0
           replace p165 := eq_true p165
           replace q165 := eq_true q165
           go_wp2_with (first | ((with_reducible refine zj (f := 125) rfl ?_); refine zgo (some 29) Try.func125 #[.int .i64 (rd l0 x6_1)] rfl ?_; (with_reducible refine (spec_RuneWide.calls kj6 (rd l0 x6_1) t166 _ A14.out).mono ?_); rintro e w19 ⟨rfl, hb⟩; refine ⟨_, rfl, ?_⟩; have n0_ := za.mk (zg (by repeat (first | (with_reducible first | exact HB.out | apply zc | apply zb | apply zd) | exact HB.out)) hb); clear HB; have HB := n0_; clear n0_; (try clear hb); (try clear hb2); (try clear hk); (try clear hi)))
           go_roundg kj6
           case measure => have := HK1.out; have := HJ6.out; omega
           case rel => exact ⟨(x5_1), (wrap64 (x6_1 + 1)), (by first | rfl | (simp; done) | (simp [*]; done)), (by first | rfl | (simp; done) | (simp [*]; done)), H', ⟨by have := HK1.out; have := HJ6.out; omega⟩, ⟨by repeat (first | (with_reducible first | exact HB.out | apply zc | apply zb | apply zd) | exact HB.out)⟩⟩
         ·rw [if_neg c13] at H
          exact absurd H (by simp)
        ·rw [if_neg c12] at H
         exact absurd H (by simp)
       ·replace c11 := Bool.eq_false_iff.mpr c11
        subst c11
        have H1 : (some x5_1) = some r := by rw [if_neg (show ¬ (false = true) by decide)] at H; exact H
        clear H
        have H := H1
        clear H1
        obtain rfl := Option.some.inj H
        go_wp2
        go_ret
        exact ⟨by first | rfl | (simp [zh, zi] <;> rfl) | (simp [*, zh, zi] <;> rfl), by repeat (first | (with_reducible first | exact HB.out | apply zc | apply zb | apply zd) | exact HB.out)⟩
  ·rw [if_neg c4] at H
   exact absurd H (by simp)
 ·rw [if_neg c3] at H
  exact absurd H (by simp)
def spec_l6Wides.l0 : Nat → List Int → List (S40) → List Int → Int → Option (List Int)
 | 0, _, _, _, _ => none
 | k + 1, x0, x1, x5, x6 => if x6 < (x0.length : Int) then ((spec_l2At.f k x0 x6).bind fun t172 => (if t172 = x6 then ((spec_l6At.f k x1 x6).bind fun bt173 => ((spec_l2Wide.f k x0 x6).bind fun t175 => (if x5.length < 17592186044416 then (spec_l6Wides.l0 k x0 x1 (x5 ++ [wrap64 (t175 * bt173.1)]) (wrap64 (x6 + 1))) else (none)))) else (if x5.length < 17592186044416 then (spec_l6Wides.l0 k x0 x1 (x5 ++ [0]) (wrap64 (x6 + 1))) else (none)))) else (some x5)
def spec_l6Wides.f (k : Nat) (l0 : List Int) (l1 : List (S40)) : Option (List Int) := spec_l6Wides.l0 k l0 l1 (([] : List Int)) 0
theorem spec_l6Wides.calls (k : Nat) (A0 : Option Addr) (c0 : Nat) (l0 : List Int) (A1 : Option Addr) (c1 : Nat) (l1 : List (S40)) (r : List Int) (w : World) (hr0 : Kd.C (Kd.int .i64) w A0 l0.length l0) (hc0 : l0.length ≤ c0) (hr1 : Kd.C k40 w A1 l1.length l1) (hc1 : l1.length ≤ c1) (h : spec_l6Wides.f k l0 l1 = some r) :
  Calls Try.prog 51 #[.slice A0 l0.length c0, .slice A1 l1.length c1] w fun e w' => ∃ v0_ : Value, e = .returned (v0_) ∧ Kd.R (Kd.int .i64) 3 w' w.heap.size (fun _ => True) v0_ r ∧ Below w.heap.size w w' := by
 have HR0 := za.mk hr0
 have HC0 := za.mk hc0
 clear hr0 hc0
 have HR1 := za.mk hr1
 have HC1 := za.mk hc1
 clear hr1 hc1
 have HB := za.mk (Below.refl w.heap.size w)
 have H : (spec_l6Wides.l0 k l0 l1 (([] : List Int)) 0) = some r := h
 clear h
 obtain ⟨y169, hy169⟩ : ∃ y_ : List Int, y_ = (([] : List Int)) := ⟨_, rfl⟩
 replace H : (spec_l6Wides.l0 k l0 l1 y169 0) = some r := by first | (rw [hy169]; with_reducible exact H) | (have H2_ := (Option.bind_some _ _).symm.trans H; rw [hy169]; with_reducible exact H2_) | (have H2_ := (Option.bind_some _ _).symm.trans H; with_reducible exact H2_) | with_reducible exact H | (rw [hy169]; exact H) | exact H
 have Ny169 := za.mk hy169
 clear hy169
 have H' := za.mk H
 clear H
 go_enter Try.func51, Try.ntmps51
 go_wp2_with (first | ((with_reducible refine zw (N := 10) rfl ?_); refine Kd.zwa (Kd.int .i64) _ 3 ?hg (N := 10) ?hd (xs := ([] : List Int)) (inner := []) (ok := fun _ => True) (okp := fun _ => True) ?hr ?hp (fun _ hk => hk) trivial (Below.refl _ _) (Nat.le_refl _) (by simp) ?_; (case hd => rfl); (case hg => rfl); (case hr => first | (go_simp; done) | (go_simp; rfl)); (case hp => exact (Reps.none _ _)); intro v170 w3 ho4 hb hg_ hnew_; clear hg_ hnew_; (first | rw [← Ny169.out] at ho4 | (simp only [Int.reduceToNat] at ho4; rw [← Ny169.out] at ho4)); have n0_ := za.mk (Kd.zqa ho4 (zp (by repeat (first | (with_reducible first | exact HB.out | apply zc | apply zb | apply zd) | exact HB.out)))); have n1_ := za.mk (zg (by repeat (first | (with_reducible first | exact HB.out | apply zc | apply zb | apply zd) | exact HB.out)) hb); clear HB; have HO171 := n0_; have HB := n1_; clear n0_ n1_; clear hb ho4))
 go_loopg [5, 6] k (fun kq v5 v6 w' => ∃ (x5_1 : List Int) (x6_1 : Int), v6 = .int .i64 x6_1 ∧ za (spec_l6Wides.l0 kq l0 l1 x5_1 x6_1 = some r) ∧ za (kq ≤ k) ∧ za (Kd.R (Kd.int .i64) 3 w' w.heap.size (fun _ => True) v5 x5_1) ∧ za (Below w.heap.size w w'))
 case atStart => exact ⟨(y169), (0), (by first | rfl | (simp; done) | (simp [*]; done)), H', ⟨Nat.le_refl _⟩, ⟨by (with_reducible repeat (first | apply Kd.zn | apply Kd.zo | apply Kd.zq)); exact HO171.out⟩, ⟨by repeat (first | (with_reducible first | exact HB.out | apply zc | apply zb | apply zd) | exact HB.out)⟩⟩
 case round =>
  clear H'
  try clear c1
  try clear p2
  obtain ⟨x5_1, x6_1, rfl, HA, HK1, HO_5, HB⟩ := hrel
  cases gk with
  | zero => exact absurd HA.out (by simp [spec_l6Wides.l0])
  | succ k1 =>
   have H := HA.out
   clear HA
   simp only [spec_l6Wides.l0] at H
   by_cases c5 : x6_1 < (l0.length : Int)
   ·rw [if_pos c5] at H
    have c5b0 : decide (x6_1 < (l0.length : Int)) = true := decide_eq_true c5
    clear c5
    replace H := Option.bind_eq_some_iff.mp H
    obtain ⟨t172, A60, H⟩ := H
    replace H : (if t172 = x6_1 then ((spec_l6At.f k1 l1 x6_1).bind fun bt173 => ((spec_l2Wide.f k1 l0 x6_1).bind fun t175 => (if x5_1.length < 17592186044416 then (spec_l6Wides.l0 k1 l0 l1 (x5_1 ++ [wrap64 (t175 * bt173.1)]) (wrap64 (x6_1 + 1))) else (none)))) else (if x5_1.length < 17592186044416 then (spec_l6Wides.l0 k1 l0 l1 (x5_1 ++ [0]) (wrap64 (x6_1 + 1))) else (none))) = some r := H
    have A6 := za.mk A60
    clear A60
    by_cases c7 : t172 = x6_1
    ·rw [if_pos c7] at H
     have c7b0 : (t172 == x6_1) = true := beq_iff_eq.mpr c7
     have c7b1 : (t172 != x6_1) = false := bne_eq_false_iff_eq.mpr c7
     clear c7
     replace H := Option.bind_eq_some_iff.mp H
     obtain ⟨⟨t173, t174⟩, A80, H⟩ := H
     replace H : ((spec_l2Wide.f k1 l0 x6_1).bind fun t175 => (if x5_1.length < 17592186044416 then (spec_l6Wides.l0 k1 l0 l1 (x5_1 ++ [wrap64 (t175 * t173)]) (wrap64 (x6_1 + 1))) else (none))) = some r := H
     have A8 := za.mk A80
     clear A80
     replace H := Option.bind_eq_some_iff.mp H
     obtain ⟨t175, A90, H⟩ := H
     replace H : (if x5_1.length < 17592186044416 then (spec_l6Wides.l0 k1 l0 l1 (x5_1 ++ [wrap64 (t175 * t173)]) (wrap64 (x6_1 + 1))) else (none)) = some r := H
     have A9 := za.mk A90
     clear A90
     by_cases c10 : x5_1.length < 17592186044416
     ·rw [if_pos c10] at H
      have LMc10 := za.mk c10
      clear c10
      obtain ⟨y176, hy176⟩ : ∃ y_ : List Int, y_ = (x5_1 ++ [wrap64 (t175 * t173)]) := ⟨_, rfl⟩
      replace H : (spec_l6Wides.l0 k1 l0 l1 y176 (wrap64 (x6_1 + 1))) = some r := by first | (rw [hy176]; with_reducible exact H) | (have H2_ := (Option.bind_some _ _).symm.trans H; rw [hy176]; with_reducible exact H2_) | (have H2_ := (Option.bind_some _ _).symm.trans H; with_reducible exact H2_) | with_reducible exact H | (rw [hy176]; exact H) | exact H
      have Ny176 := za.mk hy176
      clear hy176
      have H' := za.mk H
      clear H
      go_wp2_with (first | ((with_reducible refine zj (f := 96) rfl ?_); refine zgo (some 19) Try.func96 #[.slice A0 l0.length c0, .int .i64 x6_1] rfl ?_; (with_reducible refine (spec_l2At.calls k1 _ _ l0 x6_1 t172 _ ?side1 ?side2 A6.out).mono ?_); (case side1 => repeat (first | exact (Kd.zka HR0.out HB.out) | (with_reducible refine Kd.zea ?_ _) | (with_reducible refine Kd.zga ?_ _) | (with_reducible refine Kd.zha ?_))); (case side2 => exact HC0.out); rintro e w11 ⟨rfl, hb⟩; refine ⟨_, rfl, ?_⟩; have n0_ := za.mk (Kd.zba (by (with_reducible repeat (first | apply Kd.zn | apply Kd.zo | apply Kd.zq)); exact HO_5.out) hb); have n1_ := za.mk (zg (by repeat (first | (with_reducible first | exact HB.out | apply zc | apply zb | apply zd) | exact HB.out)) hb); clear HO_5; clear HB; have HO_5 := n0_; have HB := n1_; clear n0_ n1_; (try clear hb); (try clear hb2); (try clear hk); (try clear hi)) | ((with_reducible refine zj (f := 97) rfl ?_); refine zgo (some 25) Try.func97 #[.slice A1 l1.length c1, .int .i64 x6_1] rfl ?_; (with_reducible refine (spec_l6At.calls k1 _ _ l1 x6_1 t173 t174 _ ?side1 ?side2 A8.out).mono ?_); (case side1 => repeat (first | exact (Kd.zka HR1.out HB.out) | (with_reducible refine Kd.zea ?_ _) | (with_reducible refine Kd.zga ?_ _) | (with_reducible refine Kd.zha ?_))); (case side2 => exact HC1.out); rintro e w' ⟨rfl, ⟨nd, rfl⟩⟩; refine ⟨_, rfl, ?_⟩) | ((with_reducible refine zj (f := 98) rfl ?_); refine zgo (some 30) Try.func98 #[.slice A0 l0.length c0, .int .i64 x6_1] rfl ?_; (with_reducible refine (spec_l2Wide.calls k1 _ _ l0 x6_1 t175 _ ?side1 ?side2 A9.out).mono ?_); (case side1 => repeat (first | exact (Kd.zka HR0.out (by repeat (first | (with_reducible first | exact HB.out | apply zc | apply zb | apply zd) | exact HB.out))) | (with_reducible refine Kd.zea ?_ _) | (with_reducible refine Kd.zga ?_ _) | (with_reducible refine Kd.zha ?_))); (case side2 => exact HC0.out); rintro e w12 ⟨rfl, hb⟩; refine ⟨_, rfl, ?_⟩; have n0_ := za.mk (Kd.zba (by (with_reducible repeat (first | apply Kd.zn | apply Kd.zo | apply Kd.zq)); exact HO_5.out) hb); have n1_ := za.mk (zg (by repeat (first | (with_reducible first | exact HB.out | apply zc | apply zb | apply zd) | exact HB.out)) hb); clear HO_5; clear HB; have HO_5 := n0_; have HB := n1_; clear n0_ n1_; (try clear hb); (try clear hb2); (try clear hk); (try clear hi)) | ((with_reducible refine zra (b := .append) (xs := #[.tmp 33, .tmp 35]) rfl ?_); at_builtin; refine Kd.zza (Kd.int .i64) (w0 := w) w.heap.size rfl (.tmp 33) (.tmp 35) 22 3 (.int .i64 0) 8 rfl Try.underlying22 info3 rfl (by decide) (by omega) u5 x5_1 (wrap64 (t175 * t173)) [.int .i64 (wrap64 (t175 * t173))] (fun _ => True) (fun _ => False) rfl rfl ?aP (fun _ hk => hk.elim) ?aF ?aO ?aB ?aS ?aL ?_; (case aP => exact rfl); (case aB => exact (by repeat (first | (with_reducible first | exact HB.out | apply zc | apply zb | apply zd) | exact HB.out))); (case aF => exact (fun _ _ => trivial)); (case aO => exact (by (with_reducible repeat (first | apply Kd.zn | apply Kd.zo | apply Kd.zq)); exact HO_5.out)); (case aS => exact (zp (by repeat (first | (with_reducible first | exact HB.out | apply zc | apply zb | apply zd) | exact HB.out)))); (case aL => have := LMc10.out; omega); intro v177 w13 ho hb hg hat; rw [← Ny176.out] at ho; have n0_ := za.mk (hb); have n1_ := za.mk (ho); clear HB; clear HO_5; have HB := n0_; have HO178 := n1_; clear n0_ n1_; clear ho hb hg hat))
      go_roundg k1
      case measure => have := HK1.out; omega
      case rel => exact ⟨(y176), (wrap64 (x6_1 + 1)), (by first | rfl | (simp; done) | (simp [*]; done)), H', ⟨by have := HK1.out; omega⟩, ⟨by (with_reducible repeat (first | apply Kd.zn | apply Kd.zo | apply Kd.zq)); exact HO178.out⟩, ⟨by repeat (first | (with_reducible first | exact HB.out | apply zc | apply zb | apply zd) | exact HB.out)⟩⟩
     ·rw [if_neg c10] at H
      exact absurd H (by simp)
    ·rw [if_neg c7] at H
     have c7b0 : (t172 == x6_1) = false := beq_eq_false_iff_ne.mpr c7
     have c7b1 : (t172 != x6_1) = true := bne_iff_ne.mpr c7
     by_cases c14 : x5_1.length < 17592186044416
     ·rw [if_pos c14] at H
      have LMc14 := za.mk c14
      clear c14
      obtain ⟨y179, hy179⟩ : ∃ y_ : List Int, y_ = (x5_1 ++ [0]) := ⟨_, rfl⟩
      replace H : (spec_l6Wides.l0 k1 l0 l1 y179 (wrap64 (x6_1 + 1))) = some r := by first | (rw [hy179]; with_reducible exact H) | (have H2_ := (Option.bind_some _ _).symm.trans H; rw [hy179]; with_reducible exact H2_) | (have H2_ := (Option.bind_some _ _).symm.trans H; with_reducible exact H2_) | with_reducible exact H | (rw [hy179]; exact H) | exact H
      have Ny179 := za.mk hy179
      clear hy179
      have H' := za.mk H
      clear H
      go_wp2_with (first | ((with_reducible refine zj (f := 96) rfl ?_); refine zgo (some 19) Try.func96 #[.slice A0 l0.length c0, .int .i64 x6_1] rfl ?_; (with_reducible refine (spec_l2At.calls k1 _ _ l0 x6_1 t172 _ ?side1 ?side2 A6.out).mono ?_); (case side1 => repeat (first | exact (Kd.zka HR0.out HB.out) | (with_reducible refine Kd.zea ?_ _) | (with_reducible refine Kd.zga ?_ _) | (with_reducible refine Kd.zha ?_))); (case side2 => exact HC0.out); rintro e w15 ⟨rfl, hb⟩; refine ⟨_, rfl, ?_⟩; have n0_ := za.mk (Kd.zba (by (with_reducible repeat (first | apply Kd.zn | apply Kd.zo | apply Kd.zq)); exact HO_5.out) hb); have n1_ := za.mk (zg (by repeat (first | (with_reducible first | exact HB.out | apply zc | apply zb | apply zd) | exact HB.out)) hb); clear HO_5; clear HB; have HO_5 := n0_; have HB := n1_; clear n0_ n1_; (try clear hb); (try clear hb2); (try clear hk); (try clear hi)) | ((with_reducible refine zra (b := .append) (xs := #[.tmp 33, .tmp 35]) rfl ?_); at_builtin; refine Kd.zza (Kd.int .i64) (w0 := w) w.heap.size rfl (.tmp 33) (.tmp 35) 22 3 (.int .i64 0) 8 rfl Try.underlying22 info3 rfl (by decide) (by omega) u5 x5_1 0 [.int .i64 0] (fun _ => True) (fun _ => False) rfl rfl ?aP (fun _ hk => hk.elim) ?aF ?aO ?aB ?aS ?aL ?_; (case aP => exact rfl); (case aB => exact (by repeat (first | (with_reducible first | exact HB.out | apply zc | apply zb | apply zd) | exact HB.out))); (case aF => exact (fun _ _ => trivial)); (case aO => exact (by (with_reducible repeat (first | apply Kd.zn | apply Kd.zo | apply Kd.zq)); exact HO_5.out)); (case aS => exact (zp (by repeat (first | (with_reducible first | exact HB.out | apply zc | apply zb | apply zd) | exact HB.out)))); (case aL => have := LMc14.out; omega); intro v180 w16 ho hb hg hat; rw [← Ny179.out] at ho; have n0_ := za.mk (hb); have n1_ := za.mk (ho); clear HB; clear HO_5; have HB := n0_; have HO181 := n1_; clear n0_ n1_; clear ho hb hg hat))
      go_roundg k1
      case measure => have := HK1.out; omega
      case rel => exact ⟨(y179), (wrap64 (x6_1 + 1)), (by first | rfl | (simp; done) | (simp [*]; done)), H', ⟨by have := HK1.out; omega⟩, ⟨by (with_reducible repeat (first | apply Kd.zn | apply Kd.zo | apply Kd.zq)); exact HO181.out⟩, ⟨by repeat (first | (with_reducible first | exact HB.out | apply zc | apply zb | apply zd) | exact HB.out)⟩⟩
     ·rw [if_neg c14] at H
      exact absurd H (by simp)
   ·rw [if_neg c5] at H
    have c5b0 : decide (x6_1 < (l0.length : Int)) = false := decide_eq_false c5
    clear c5
    obtain rfl := Option.some.inj H
    go_wp2
    go_ret
    exact ⟨_, by first | rfl | (simp [zh, zi] <;> rfl) | (simp [*, zh, zi] <;> rfl), by (with_reducible repeat (first | apply Kd.zn | apply Kd.zo | apply Kd.zq)); exact HO_5.out, by repeat (first | (with_reducible first | exact HB.out | apply zc | apply zb | apply zd) | exact HB.out)⟩
end Go.Proofs.Ytmjhdgofepdgkaa.PFnExactFillCost
