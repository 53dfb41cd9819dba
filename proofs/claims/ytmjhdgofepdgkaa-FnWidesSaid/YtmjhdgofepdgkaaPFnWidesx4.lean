-- Written by a program of this session (wip/tools) out of the translation; its shape is that of the kit print.
import Derived.Test.YtmjhdgofepdgkaaPFnWidesx0
import Derived.Test.YtmjhdgofepdgkaaPFnWidesx1
import Derived.Test.YtmjhdgofepdgkaaPFnWidesx3
namespace Go.Proofs.Ytmjhdgofepdgkaa.PFnWides
open Go.RowKit Go.Proofs.YtmjhdgofepdgkaaW.PrintWords Go.Proofs.YtmjhdgofepdgkaaW.PrintLast Go.Proofs.YtmjhdgofepdgkaaW.PrintMore
attribute [local go_sem] zlb znb zvb zwb zbb zcb zob zqb
set_option linter.unusedVariables false
set_option maxHeartbeats 8000000
set_option maxRecDepth 100000
set_option linter.unusedSimpArgs false
mutual
def spec_l2Joins.j0 : Nat → List Int → Int → Int → Bool → Option (Bool)
 | 0, _, _, _, _ => none
 | k + 1, x0, x1, x5, x21 => if x21 = true then (if 0 ≤ (wrap64 (x1 - 1)) then (if (wrap64 (x1 - 1)) < (x0.length : Int) then (if (rd x0 (wrap64 (x1 - 1))) = 13 then (some (x5 == 10)) else (some false)) else (none)) else (none)) else ((spec_RuneBidi.f k x5).bind fun t137 => (if t137 = 9 then (spec_l2Joins.j1 k x0 x1 x5 true) else (spec_l2Joins.j1 k x0 x1 x5 (x5 == 8205))))
def spec_l2Joins.j1 : Nat → List Int → Int → Int → Bool → Option (Bool)
 | 0, _, _, _, _ => none
 | k + 1, x0, x1, x5, x38 => if x38 = true then (some true) else (spec_l2Joins.l0 k x0 x5 0 (wrap64 (x1 - 1)))
def spec_l2Joins.l0 : Nat → List Int → Int → Int → Int → Option (Bool)
 | 0, _, _, _, _ => none
 | k + 1, x0, x5, x6, x7 => if x7 ≥ 0 then (if 0 ≤ x7 then (if x7 < (x0.length : Int) then ((spec_l2Flag.f (rd x0 x7)).bind fun t139 => (if t139 = true then (spec_l2Joins.l0 k x0 x5 (wrap64 (x6 + 1)) (wrap64 (x7 - 1))) else ((spec_l2Flag.f x5).bind fun t140 => (if t140 = true then (some ((Int.tmod x6 2) == 1)) else (some false))))) else (none)) else (none)) else ((spec_l2Flag.f x5).bind fun t141 => (if t141 = true then (some ((Int.tmod x6 2) == 1)) else (some false)))
end
def spec_l2Joins.f (k : Nat) (l0 : List Int) (a1 : Int) : Option (Bool) := if 0 ≤ a1 then (if a1 < (l0.length : Int) then (if (rd l0 a1) = 10 then (spec_l2Joins.j0 k l0 a1 (rd l0 a1) true) else (if 0 ≤ (wrap64 (a1 - 1)) then (if (wrap64 (a1 - 1)) < (l0.length : Int) then (spec_l2Joins.j0 k l0 a1 (rd l0 a1) ((rd l0 (wrap64 (a1 - 1))) == 10)) else (none)) else (none))) else (none)) else (none)
theorem spec_l2Joins.calls (k : Nat) (A0 : Option Addr) (c0 : Nat) (l0 : List Int) (a1 : Int) (r : Bool) (w : World) (hr0 : Kd.C (Kd.int .i64) w A0 l0.length l0) (hc0 : l0.length ≤ c0) (h : spec_l2Joins.f k l0 a1 = some r) :
  Calls Try.prog 112 #[.slice A0 l0.length c0, .int .i64 a1] w fun e w' => e = .returned (.bool r) ∧ Below w.heap.size w w' := by
 have HR0 := za.mk hr0
 have HC0 := za.mk hc0
 clear hr0 hc0
 have HB := za.mk (Below.refl w.heap.size w)
 have H : (if 0 ≤ a1 then (if a1 < (l0.length : Int) then (if (rd l0 a1) = 10 then (spec_l2Joins.j0 k l0 a1 (rd l0 a1) true) else (if 0 ≤ (wrap64 (a1 - 1)) then (if (wrap64 (a1 - 1)) < (l0.length : Int) then (spec_l2Joins.j0 k l0 a1 (rd l0 a1) ((rd l0 (wrap64 (a1 - 1))) == 10)) else (none)) else (none))) else (none)) else (none)) = some r := h
 clear h
 by_cases c3 : 0 ≤ a1
 ·rw [if_pos c3] at H
  have c3b0 : decide (0 ≤ a1) = true := decide_eq_true c3
  clear c3
  by_cases c4 : a1 < (l0.length : Int)
  ·rw [if_pos c4] at H
   have c4b0 : decide (a1 < (l0.length : Int)) = true := decide_eq_true c4
   clear c4
   have HC5 := za.mk H
   clear H
   have p134 : 0 ≤ (a1 : Int) := of_decide_eq_true (by assumption)
   have q134 : a1 < (l0.length : Int) := of_decide_eq_true (by assumption)
   obtain ⟨ad134, e134, hx134_0⟩ := Kd.zta HR0.out a1 p134 q134
   cases e134
   replace p134 := eq_true p134
   replace q134 := eq_true q134
   go_enter Try.func112, Try.ntmps112
   go_upto_region 2 with (fail)
   go_cut [21] (fun v21 wc => ∃ (kq : Nat) (x21_4 : Bool), v21 = .bool x21_4 ∧ za (spec_l2Joins.j0 kq l0 a1 (rd l0 a1) x21_4 = some r) ∧ za (kq ≤ k) ∧ za (Below w.heap.size w wc))
   case first =>
    have H := HC5.out
    clear HC5
    by_cases c6 : (rd l0 a1) = 10
    ·rw [if_pos c6] at H
     have c6b0 : ((rd l0 a1) == 10) = true := beq_iff_eq.mpr c6
     have c6b1 : ((rd l0 a1) != 10) = false := bne_eq_false_iff_eq.mpr c6
     clear c6
     (first | rw [c6b0] | (simp only [zk, zl]; rw [c6b0]) | skip)
     have H' := za.mk H
     clear H
     go_wp2
     go_meet
     case rel => exact ⟨_, (true), (by first | rfl | (simp; done) | (simp [*]; done)), (by first | exact H' | (simp only [hji7]; exact H') | (simp only [hji11]; exact H') | (simp only [hji7, hji11]; exact H')), ⟨by first | omega | exact Nat.le_refl _⟩, ⟨by repeat (first | (with_reducible first | exact HB.out | apply ze | apply zb | apply zd) | exact HB.out)⟩⟩
    ·rw [if_neg c6] at H
     have c6b0 : ((rd l0 a1) == 10) = false := beq_eq_false_iff_ne.mpr c6
     have c6b1 : ((rd l0 a1) != 10) = true := bne_iff_ne.mpr c6
     (first | rw [c6b0] | (simp only [zk, zl]; rw [c6b0]) | skip)
     obtain ⟨ji7, hji7⟩ : ∃ j_ : Int, (wrap64 (a1 - 1)) = j_ := ⟨_, rfl⟩
     replace H : (if 0 ≤ (ji7) then (if (ji7) < (l0.length : Int) then (spec_l2Joins.j0 k l0 a1 (rd l0 a1) ((rd l0 (ji7)) == 10)) else (none)) else (none)) = some r := by first | (rw [hji7] at H; exact H) | (simp only [hji7] at H ⊢; exact H)
     have hji7w : (IntKind.i64.wrap (a1 - 1)) = ji7 := (zk _).trans hji7
     by_cases c8 : 0 ≤ (ji7)
     ·rw [if_pos c8] at H
      have c8b0 : decide (0 ≤ (ji7)) = true := decide_eq_true c8
      clear c8
      by_cases c9 : (ji7) < (l0.length : Int)
      ·rw [if_pos c9] at H
       have c9b0 : decide ((ji7) < (l0.length : Int)) = true := decide_eq_true c9
       clear c9
       have H' := za.mk H
       clear H
       have p135 : 0 ≤ ((ji7) : Int) := of_decide_eq_true (by assumption)
       have q135 : (ji7) < (l0.length : Int) := of_decide_eq_true (by assumption)
       obtain ⟨ad135, e135, hx135_0⟩ := Kd.zta HR0.out (ji7) p135 q135
       obtain rfl : ad134 = ad135 := (by injection e135)
       replace hx135_0 := (HB.out.cell (World.block_lt_of_cell? w _ hx135_0)).trans hx135_0
       replace p135 := eq_true p135
       replace q135 := eq_true q135
       go_wp2
       go_meet
       case rel => exact ⟨_, (((rd l0 (ji7)) == 10)), (by first | rfl | (simp; done) | (simp only [← hji7] <;> (first | rfl | simp)) | (simp [*]; done)), (by first | exact H' | (simp only [hji7]; exact H') | (simp only [hji11]; exact H') | (simp only [hji7, hji11]; exact H')), ⟨by first | omega | exact Nat.le_refl _⟩, ⟨by repeat (first | (with_reducible first | exact HB.out | apply ze | apply zb | apply zd) | exact HB.out)⟩⟩
      ·rw [if_neg c9] at H
       exact absurd H (by simp)
     ·rw [if_neg c8] at H
      exact absurd H (by simp)
   case rest =>
    clear HC5
    try clear c1
    try clear p1
    try clear q1
    try clear hx1
    try clear p2
    try clear c3
    try clear c3b0
    try clear c4
    try clear c4b0
    try clear c6
    try clear c6b0
    try clear c6b1
    try clear p6
    try clear c8
    try clear c8b0
    try clear c9
    try clear c9b0
    try clear hx134_0
    try clear hx135_0
    try clear p134
    try clear p135
    try clear q134
    try clear q135
    obtain ⟨kq, x21_4, rfl, HA, HJ4, HB⟩ := hcut
    cases kq with
    | zero => exact absurd HA.out (by simp [spec_l2Joins.j0])
    | succ kj4 =>
     have H := HA.out
     clear HA
     simp only [spec_l2Joins.j0] at H
     by_cases c10 : x21_4 = true
     ·subst c10
      have H1 : (if 0 ≤ (wrap64 (a1 - 1)) then (if (wrap64 (a1 - 1)) < (l0.length : Int) then (if (rd l0 (wrap64 (a1 - 1))) = 13 then (some ((rd l0 a1) == 10)) else (some false)) else (none)) else (none)) = some r := by rw [if_pos rfl] at H; exact H
      clear H
      have H := H1
      clear H1
      obtain ⟨ji11, hji11⟩ : ∃ j_ : Int, (wrap64 (a1 - 1)) = j_ := ⟨_, rfl⟩
      replace H : (if 0 ≤ (ji11) then (if (ji11) < (l0.length : Int) then (if (rd l0 (ji11)) = 13 then (some ((rd l0 a1) == 10)) else (some false)) else (none)) else (none)) = some r := by first | (rw [hji11] at H; exact H) | (simp only [hji11] at H ⊢; exact H)
      have hji11w : (IntKind.i64.wrap (a1 - 1)) = ji11 := (zk _).trans hji11
      by_cases c12 : 0 ≤ (ji11)
      ·rw [if_pos c12] at H
       have c12b0 : decide (0 ≤ (ji11)) = true := decide_eq_true c12
       clear c12
       by_cases c13 : (ji11) < (l0.length : Int)
       ·rw [if_pos c13] at H
        have c13b0 : decide ((ji11) < (l0.length : Int)) = true := decide_eq_true c13
        clear c13
        by_cases c14 : (rd l0 (ji11)) = 13
        ·rw [if_pos c14] at H
         have c14b0 : ((rd l0 (ji11)) == 13) = true := beq_iff_eq.mpr c14
         have c14b1 : ((rd l0 (ji11)) != 13) = false := bne_eq_false_iff_eq.mpr c14
         clear c14
         obtain rfl := Option.some.inj H
         have p136 : 0 ≤ ((ji11) : Int) := of_decide_eq_true (by assumption)
         have q136 : (ji11) < (l0.length : Int) := of_decide_eq_true (by assumption)
         obtain ⟨ad136, e136, hx136_0⟩ := Kd.zta HR0.out (ji11) p136 q136
         obtain rfl : ad134 = ad136 := (by injection e136)
         replace hx136_0 := (HB.out.cell (World.block_lt_of_cell? w _ hx136_0)).trans hx136_0
         replace p136 := eq_true p136
         replace q136 := eq_true q136
         go_wp2
         go_ret
         exact ⟨by first | rfl | (simp [zi, zj] <;> rfl) | (simp only [← hji11]; first | rfl | (simp [zi, zj] <;> rfl)) | (simp [*, zi, zj] <;> rfl), by repeat (first | (with_reducible first | exact HB.out | apply ze | apply zb | apply zd) | exact HB.out)⟩
        ·rw [if_neg c14] at H
         have c14b0 : ((rd l0 (ji11)) == 13) = false := beq_eq_false_iff_ne.mpr c14
         have c14b1 : ((rd l0 (ji11)) != 13) = true := bne_iff_ne.mpr c14
         obtain rfl := Option.some.inj H
         have p136 : 0 ≤ ((ji11) : Int) := of_decide_eq_true (by assumption)
         have q136 : (ji11) < (l0.length : Int) := of_decide_eq_true (by assumption)
         obtain ⟨ad136, e136, hx136_0⟩ := Kd.zta HR0.out (ji11) p136 q136
         obtain rfl : ad134 = ad136 := (by injection e136)
         replace hx136_0 := (HB.out.cell (World.block_lt_of_cell? w _ hx136_0)).trans hx136_0
         replace p136 := eq_true p136
         replace q136 := eq_true q136
         go_wp2
         go_ret
         exact ⟨by first | rfl | (simp [zi, zj] <;> rfl) | (simp only [← hji11]; first | rfl | (simp [zi, zj] <;> rfl)) | (simp [*, zi, zj] <;> rfl), by repeat (first | (with_reducible first | exact HB.out | apply ze | apply zb | apply zd) | exact HB.out)⟩
       ·rw [if_neg c13] at H
        exact absurd H (by simp)
      ·rw [if_neg c12] at H
       exact absurd H (by simp)
     ·replace c10 := Bool.eq_false_iff.mpr c10
      subst c10
      have H1 : ((spec_RuneBidi.f kj4 (rd l0 a1)).bind fun t137 => (if t137 = 9 then (spec_l2Joins.j1 kj4 l0 a1 (rd l0 a1) true) else (spec_l2Joins.j1 kj4 l0 a1 (rd l0 a1) ((rd l0 a1) == 8205)))) = some r := by rw [if_neg (show ¬ (false = true) by decide)] at H; exact H
      clear H
      have H := H1
      clear H1
      have HC15 := za.mk H
      clear H
      go_upto_region 4 with (fail)
      go_cut [38] (fun v38 wc => ∃ (kq : Nat) (x38_14 : Bool), v38 = .bool x38_14 ∧ za (spec_l2Joins.j1 kq l0 a1 (rd l0 a1) x38_14 = some r) ∧ za (kq ≤ kj4) ∧ za (Below w.heap.size w wc))
      case first =>
       have H := HC15.out
       clear HC15
       replace H := Option.bind_eq_some_iff.mp H
       obtain ⟨t137, A160, H⟩ := H
       replace H : (if t137 = 9 then (spec_l2Joins.j1 kj4 l0 a1 (rd l0 a1) true) else (spec_l2Joins.j1 kj4 l0 a1 (rd l0 a1) ((rd l0 a1) == 8205))) = some r := H
       have A16 := za.mk A160
       clear A160
       by_cases c17 : t137 = 9
       ·rw [if_pos c17] at H
        have c17b0 : (t137 == 9) = true := beq_iff_eq.mpr c17
        have c17b1 : (t137 != 9) = false := bne_eq_false_iff_eq.mpr c17
        clear c17
        (first | rw [c17b0] | (simp only [zk, zl]; rw [c17b0]) | skip)
        have H' := za.mk H
        clear H
        go_wp2_with (first | ((with_reducible refine zt (f := 79) rfl ?_); refine zgo (some 33) Try.func79 #[.int .i64 (rd l0 a1)] rfl ?_; (with_reducible refine (spec_RuneBidi.calls kj4 (rd l0 a1) t137 _ A16.out).mono ?_); rintro e w18 ⟨rfl, hb⟩; refine ⟨_, rfl, ?_⟩; have n0_ := za.mk (zv (by repeat (first | (with_reducible first | exact HB.out | apply ze | apply zb | apply zd) | exact HB.out)) hb); clear HB; have HB := n0_; clear n0_; (try clear hb); (try clear hb2); (try clear hk); (try clear hi)))
        go_meet
        case rel => exact ⟨_, (true), (by first | rfl | (simp; done) | (simp [*]; done)), (by first | exact H' | (simp only [hji7]; exact H') | (simp only [hji11]; exact H') | (simp only [hji7, hji11]; exact H')), ⟨by have := HJ4.out; first | omega | exact Nat.le_refl _⟩, ⟨by repeat (first | (with_reducible first | exact HB.out | apply ze | apply zb | apply zd) | exact HB.out)⟩⟩
       ·rw [if_neg c17] at H
        have c17b0 : (t137 == 9) = false := beq_eq_false_iff_ne.mpr c17
        have c17b1 : (t137 != 9) = true := bne_iff_ne.mpr c17
        (first | rw [c17b0] | (simp only [zk, zl]; rw [c17b0]) | skip)
        have H' := za.mk H
        clear H
        go_wp2_with (first | ((with_reducible refine zt (f := 79) rfl ?_); refine zgo (some 33) Try.func79 #[.int .i64 (rd l0 a1)] rfl ?_; (with_reducible refine (spec_RuneBidi.calls kj4 (rd l0 a1) t137 _ A16.out).mono ?_); rintro e w19 ⟨rfl, hb⟩; refine ⟨_, rfl, ?_⟩; have n0_ := za.mk (zv (by repeat (first | (with_reducible first | exact HB.out | apply ze | apply zb | apply zd) | exact HB.out)) hb); clear HB; have HB := n0_; clear n0_; (try clear hb); (try clear hb2); (try clear hk); (try clear hi)))
        go_meet
        case rel => exact ⟨_, (((rd l0 a1) == 8205)), (by first | rfl | (simp; done) | (simp [*]; done)), (by first | exact H' | (simp only [hji7]; exact H') | (simp only [hji11]; exact H') | (simp only [hji7, hji11]; exact H')), ⟨by have := HJ4.out; first | omega | exact Nat.le_refl _⟩, ⟨by repeat (first | (with_reducible first | exact HB.out | apply ze | apply zb | apply zd) | exact HB.out)⟩⟩
      case rest =>
       clear HC15
       try clear c1
       try clear p1
       try clear q1
       try clear hx1
       try clear p2
       try clear c3
       try clear c3b0
       try clear c4
       try clear c4b0
       try clear c6
       try clear c6b0
       try clear c6b1
       try clear p6
       try clear c7
       try clear c8
       try clear c8b0
       try clear c9
       try clear c9b0
       try clear c10
       try clear c11
       try clear c12
       try clear c12b0
       try clear c13
       try clear c13b0
       try clear p13
       try clear q13
       try clear hx13
       try clear c14
       try clear c14b0
       try clear c14b1
       try clear c17
       try clear c17b0
       try clear c17b1
       try clear hx134_0
       try clear hx135_0
       try clear hx136_0
       try clear p1
       try clear p134
       try clear p135
       try clear p136
       try clear p2
       try clear p6
       try clear q1
       try clear q134
       try clear q135
       try clear q136
       obtain ⟨kq, x38_14, rfl, HA, HJ14, HB⟩ := hcut
       cases kq with
       | zero => exact absurd HA.out (by simp [spec_l2Joins.j1])
       | succ kj14 =>
        have H := HA.out
        clear HA
        simp only [spec_l2Joins.j1] at H
        by_cases c20 : x38_14 = true
        ·subst c20
         have H1 : (some true) = some r := by rw [if_pos rfl] at H; exact H
         clear H
         have H := H1
         clear H1
         obtain rfl := Option.some.inj H
         go_wp2
         go_ret
         exact ⟨by first | rfl | (simp [zi, zj] <;> rfl) | (simp [*, zi, zj] <;> rfl), by repeat (first | (with_reducible first | exact HB.out | apply ze | apply zb | apply zd) | exact HB.out)⟩
        ·replace c20 := Bool.eq_false_iff.mpr c20
         subst c20
         have H1 : (spec_l2Joins.l0 kj14 l0 (rd l0 a1) 0 (wrap64 (a1 - 1))) = some r := by rw [if_neg (show ¬ (false = true) by decide)] at H; exact H
         clear H
         have H := H1
         clear H1
         have H' := za.mk H
         clear H
         go_wp2
         go_loopg [6, 7] kj14 (fun kq v6 v7 w' => ∃ (x6_3 : Int) (x7_3 : Int), v6 = .int .i64 x6_3 ∧ v7 = .int .i64 x7_3 ∧ za (spec_l2Joins.l0 kq l0 (rd l0 a1) x6_3 x7_3 = some r) ∧ za (kq ≤ kj14) ∧ za (Below w.heap.size w w'))
         case atStart => exact ⟨(0), (wrap64 (a1 - 1)), (by first | rfl | (simp; done) | (simp [*]; done)), (by first | rfl | (simp; done) | (simp [*]; done)), H', ⟨Nat.le_refl _⟩, ⟨by repeat (first | (with_reducible first | exact HB.out | apply ze | apply zb | apply zd) | exact HB.out)⟩⟩
         case round =>
          clear H'
          try clear c1
          try clear p1
          try clear q1
          try clear hx1
          try clear c2
          try clear p2
          try clear c3
          try clear c3b0
          try clear c4
          try clear c4b0
          try clear c6
          try clear c6b0
          try clear c6b1
          try clear p6
          try clear c7
          try clear c8
          try clear c8b0
          try clear c9
          try clear c9b0
          try clear c10
          try clear c11
          try clear c12
          try clear c12b0
          try clear c13
          try clear c13b0
          try clear p13
          try clear q13
          try clear hx13
          try clear c14
          try clear c14b0
          try clear c14b1
          try clear c17
          try clear c17b0
          try clear c17b1
          try clear c20
          try clear hx134_0
          try clear hx135_0
          try clear hx136_0
          try clear p1
          try clear p13
          try clear p134
          try clear p135
          try clear p136
          try clear p2
          try clear p6
          try clear q1
          try clear q13
          try clear q134
          try clear q135
          try clear q136
          obtain ⟨x6_3, x7_3, rfl, rfl, HA, HK3, HB⟩ := hrel
          cases gk with
          | zero => exact absurd HA.out (by simp [spec_l2Joins.l0])
          | succ k3 =>
           have H := HA.out
           clear HA
           simp only [spec_l2Joins.l0] at H
           by_cases c21 : x7_3 ≥ 0
           ·rw [if_pos c21] at H
            have c21b0 : decide (0 ≤ x7_3) = true := decide_eq_true c21
            clear c21
            by_cases c22 : 0 ≤ x7_3
            ·rw [if_pos c22] at H
             have c22b0 : decide (0 ≤ x7_3) = true := decide_eq_true c22
             clear c22
             by_cases c23 : x7_3 < (l0.length : Int)
             ·rw [if_pos c23] at H
              have c23b0 : decide (x7_3 < (l0.length : Int)) = true := decide_eq_true c23
              clear c23
              replace H := Option.bind_eq_some_iff.mp H
              obtain ⟨t139, A240, H⟩ := H
              replace H : (if t139 = true then (spec_l2Joins.l0 k3 l0 (rd l0 a1) (wrap64 (x6_3 + 1)) (wrap64 (x7_3 - 1))) else ((spec_l2Flag.f (rd l0 a1)).bind fun t140 => (if t140 = true then (some ((Int.tmod x6_3 2) == 1)) else (some false)))) = some r := H
              have A24 := za.mk A240
              clear A240
              by_cases c25 : t139 = true
              ·subst c25
               have H1 : (spec_l2Joins.l0 k3 l0 (rd l0 a1) (wrap64 (x6_3 + 1)) (wrap64 (x7_3 - 1))) = some r := by rw [if_pos rfl] at H; exact H
               clear H
               have H := H1
               clear H1
               have H' := za.mk H
               clear H
               have p138 : 0 ≤ (x7_3 : Int) := of_decide_eq_true (by assumption)
               have q138 : x7_3 < (l0.length : Int) := of_decide_eq_true (by assumption)
               obtain ⟨ad138, e138, hx138_0⟩ := Kd.zta HR0.out x7_3 p138 q138
               obtain rfl : ad134 = ad138 := (by injection e138)
               replace hx138_0 := (HB.out.cell (World.block_lt_of_cell? w _ hx138_0)).trans hx138_0
               replace p138 := eq_true p138
               replace q138 := eq_true q138
               go_wp2_with (first | (go_at_call 129; (with_reducible refine (spec_l2Flag.calls (rd l0 x7_3) true _ A24.out).mono ?_); rintro e w' ⟨rfl, ⟨nd, rfl⟩⟩))
               go_roundg k3
               case measure => have := HJ4.out; have := HJ14.out; have := HK3.out; omega
               case rel => exact ⟨(wrap64 (x6_3 + 1)), (wrap64 (x7_3 - 1)), (by first | rfl | (simp; done) | (simp [*]; done)), (by first | rfl | (simp; done) | (simp [*]; done)), (by first | exact H' | (simp only [hji7]; exact H') | (simp only [hji11]; exact H') | (simp only [hji7, hji11]; exact H')), ⟨by have := HJ4.out; have := HJ14.out; have := HK3.out; omega⟩, ⟨by repeat (first | (with_reducible first | exact HB.out | apply ze | apply zb | apply zd) | exact HB.out)⟩⟩
              ·replace c25 := Bool.eq_false_iff.mpr c25
               subst c25
               have H1 : ((spec_l2Flag.f (rd l0 a1)).bind fun t140 => (if t140 = true then (some ((Int.tmod x6_3 2) == 1)) else (some false))) = some r := by rw [if_neg (show ¬ (false = true) by decide)] at H; exact H
               clear H
               have H := H1
               clear H1
               replace H := Option.bind_eq_some_iff.mp H
               obtain ⟨t140, A260, H⟩ := H
               replace H : (if t140 = true then (some ((Int.tmod x6_3 2) == 1)) else (some false)) = some r := H
               have A26 := za.mk A260
               clear A260
               by_cases c27 : t140 = true
               ·subst c27
                have H1 : (some ((Int.tmod x6_3 2) == 1)) = some r := by rw [if_pos rfl] at H; exact H
                clear H
                have H := H1
                clear H1
                obtain rfl := Option.some.inj H
                have p138 : 0 ≤ (x7_3 : Int) := of_decide_eq_true (by assumption)
                have q138 : x7_3 < (l0.length : Int) := of_decide_eq_true (by assumption)
                obtain ⟨ad138, e138, hx138_0⟩ := Kd.zta HR0.out x7_3 p138 q138
                obtain rfl : ad134 = ad138 := (by injection e138)
                replace hx138_0 := (HB.out.cell (World.block_lt_of_cell? w _ hx138_0)).trans hx138_0
                replace p138 := eq_true p138
                replace q138 := eq_true q138
                go_wp2_with (first | (go_at_call 129; (with_reducible refine (spec_l2Flag.calls (rd l0 x7_3) false _ A24.out).mono ?_); rintro e w' ⟨rfl, ⟨nd, rfl⟩⟩) | ((with_reducible refine zt (f := 129) rfl ?_); refine zgo (some 55) Try.func129 #[.int .i64 (rd l0 a1)] rfl ?_; (with_reducible refine (spec_l2Flag.calls (rd l0 a1) true _ A26.out).mono ?_); rintro e w' ⟨rfl, ⟨nd, rfl⟩⟩; refine ⟨_, rfl, ?_⟩))
                go_ret
                exact ⟨by first | rfl | (simp [zi, zj] <;> rfl) | (simp [*, zi, zj] <;> rfl), by repeat (first | (with_reducible first | exact HB.out | apply ze | apply zb | apply zd) | exact HB.out)⟩
               ·replace c27 := Bool.eq_false_iff.mpr c27
                subst c27
                have H1 : (some false) = some r := by rw [if_neg (show ¬ (false = true) by decide)] at H; exact H
                clear H
                have H := H1
                clear H1
                obtain rfl := Option.some.inj H
                have p138 : 0 ≤ (x7_3 : Int) := of_decide_eq_true (by assumption)
                have q138 : x7_3 < (l0.length : Int) := of_decide_eq_true (by assumption)
                obtain ⟨ad138, e138, hx138_0⟩ := Kd.zta HR0.out x7_3 p138 q138
                obtain rfl : ad134 = ad138 := (by injection e138)
                replace hx138_0 := (HB.out.cell (World.block_lt_of_cell? w _ hx138_0)).trans hx138_0
                replace p138 := eq_true p138
                replace q138 := eq_true q138
                go_wp2_with (first | (go_at_call 129; (with_reducible refine (spec_l2Flag.calls (rd l0 x7_3) false _ A24.out).mono ?_); rintro e w' ⟨rfl, ⟨nd, rfl⟩⟩) | ((with_reducible refine zt (f := 129) rfl ?_); refine zgo (some 55) Try.func129 #[.int .i64 (rd l0 a1)] rfl ?_; (with_reducible refine (spec_l2Flag.calls (rd l0 a1) false _ A26.out).mono ?_); rintro e w' ⟨rfl, ⟨nd, rfl⟩⟩; refine ⟨_, rfl, ?_⟩))
                go_ret
                exact ⟨by first | rfl | (simp [zi, zj] <;> rfl) | (simp [*, zi, zj] <;> rfl), by repeat (first | (with_reducible first | exact HB.out | apply ze | apply zb | apply zd) | exact HB.out)⟩
             ·rw [if_neg c23] at H
              exact absurd H (by simp)
            ·rw [if_neg c22] at H
             exact absurd H (by simp)
           ·rw [if_neg c21] at H
            have c21b0 : decide (0 ≤ x7_3) = false := decide_eq_false c21
            clear c21
            replace H := Option.bind_eq_some_iff.mp H
            obtain ⟨t141, A280, H⟩ := H
            replace H : (if t141 = true then (some ((Int.tmod x6_3 2) == 1)) else (some false)) = some r := H
            have A28 := za.mk A280
            clear A280
            by_cases c29 : t141 = true
            ·subst c29
             have H1 : (some ((Int.tmod x6_3 2) == 1)) = some r := by rw [if_pos rfl] at H; exact H
             clear H
             have H := H1
             clear H1
             obtain rfl := Option.some.inj H
             go_wp2_with (first | ((with_reducible refine zt (f := 129) rfl ?_); refine zgo (some 55) Try.func129 #[.int .i64 (rd l0 a1)] rfl ?_; (with_reducible refine (spec_l2Flag.calls (rd l0 a1) true _ A28.out).mono ?_); rintro e w' ⟨rfl, ⟨nd, rfl⟩⟩; refine ⟨_, rfl, ?_⟩))
             go_ret
             exact ⟨by first | rfl | (simp [zi, zj] <;> rfl) | (simp [*, zi, zj] <;> rfl), by repeat (first | (with_reducible first | exact HB.out | apply ze | apply zb | apply zd) | exact HB.out)⟩
            ·replace c29 := Bool.eq_false_iff.mpr c29
             subst c29
             have H1 : (some false) = some r := by rw [if_neg (show ¬ (false = true) by decide)] at H; exact H
             clear H
             have H := H1
             clear H1
             obtain rfl := Option.some.inj H
             go_wp2_with (first | ((with_reducible refine zt (f := 129) rfl ?_); refine zgo (some 55) Try.func129 #[.int .i64 (rd l0 a1)] rfl ?_; (with_reducible refine (spec_l2Flag.calls (rd l0 a1) false _ A28.out).mono ?_); rintro e w' ⟨rfl, ⟨nd, rfl⟩⟩; refine ⟨_, rfl, ?_⟩))
             go_ret
             exact ⟨by first | rfl | (simp [zi, zj] <;> rfl) | (simp [*, zi, zj] <;> rfl), by repeat (first | (with_reducible first | exact HB.out | apply ze | apply zb | apply zd) | exact HB.out)⟩
  ·rw [if_neg c4] at H
   exact absurd H (by simp)
 ·rw [if_neg c3] at H
  exact absurd H (by simp)
def spec_l2At.l0 : Nat → List Int → Int → Option (Int)
 | 0, _, _ => none
 | k + 1, x0, x1 => if x1 > 0 then ((spec_l2Joins.f k x0 x1).bind fun t142 => (if t142 = true then (spec_l2At.l0 k x0 (wrap64 (x1 - 1))) else (some x1))) else (some x1)
def spec_l2At.f (k : Nat) (l0 : List Int) (a1 : Int) : Option (Int) := spec_l2At.l0 k l0 a1
theorem spec_l2At.calls (k : Nat) (A0 : Option Addr) (c0 : Nat) (l0 : List Int) (a1 : Int) (r : Int) (w : World) (hr0 : Kd.C (Kd.int .i64) w A0 l0.length l0) (hc0 : l0.length ≤ c0) (h : spec_l2At.f k l0 a1 = some r) :
  Calls Try.prog 96 #[.slice A0 l0.length c0, .int .i64 a1] w fun e w' => e = .returned (.int .i64 r) ∧ Below w.heap.size w w' := by
 have HR0 := za.mk hr0
 have HC0 := za.mk hc0
 clear hr0 hc0
 have HB := za.mk (Below.refl w.heap.size w)
 have H : (spec_l2At.l0 k l0 a1) = some r := h
 clear h
 have H' := za.mk H
 clear H
 go_enter Try.func96, Try.ntmps96
 go_wp2
 go_loopg [1] k (fun kq v1 w' => ∃ (x1_1 : Int), v1 = .int .i64 x1_1 ∧ za (spec_l2At.l0 kq l0 x1_1 = some r) ∧ za (kq ≤ k) ∧ za (Below w.heap.size w w'))
 case atStart => exact ⟨(a1), (by first | rfl | (simp; done) | (simp [*]; done)), H', ⟨Nat.le_refl _⟩, ⟨by repeat (first | (with_reducible first | exact HB.out | apply ze | apply zb | apply zd) | exact HB.out)⟩⟩
 case round =>
  clear H'
  try clear p2
  obtain ⟨x1_1, rfl, HA, HK1, HB⟩ := hrel
  cases gk with
  | zero => exact absurd HA.out (by simp [spec_l2At.l0])
  | succ k1 =>
   have H := HA.out
   clear HA
   simp only [spec_l2At.l0] at H
   by_cases c3 : x1_1 > 0
   ·rw [if_pos c3] at H
    have c3b0 : decide (0 < x1_1) = true := decide_eq_true c3
    clear c3
    replace H := Option.bind_eq_some_iff.mp H
    obtain ⟨t142, A40, H⟩ := H
    replace H : (if t142 = true then (spec_l2At.l0 k1 l0 (wrap64 (x1_1 - 1))) else (some x1_1)) = some r := H
    have A4 := za.mk A40
    clear A40
    by_cases c5 : t142 = true
    ·subst c5
     have H1 : (spec_l2At.l0 k1 l0 (wrap64 (x1_1 - 1))) = some r := by rw [if_pos rfl] at H; exact H
     clear H
     have H := H1
     clear H1
     have H' := za.mk H
     clear H
     go_wp2_with (first | (go_at_call 112; (with_reducible refine (spec_l2Joins.calls k1 _ _ l0 x1_1 true _ ?side1 ?side2 A4.out).mono ?_); (case side1 => repeat (first | exact (Kd.zjb HR0.out HB.out) | (with_reducible refine Kd.zca ?_ _) | (with_reducible refine Kd.zda ?_ _) | (with_reducible refine Kd.zfa ?_))); (case side2 => exact HC0.out); rintro e w6 ⟨rfl, hb⟩; have n0_ := za.mk (zv (by repeat (first | (with_reducible first | exact HB.out | apply ze | apply zb | apply zd) | exact HB.out)) hb); clear HB; have HB := n0_; clear n0_; (try clear hb); (try clear hb2); (try clear hk); (try clear hi)))
     go_roundg k1
     case measure => have := HK1.out; omega
     case rel => exact ⟨(wrap64 (x1_1 - 1)), (by first | rfl | (simp; done) | (simp [*]; done)), H', ⟨by have := HK1.out; omega⟩, ⟨by repeat (first | (with_reducible first | exact HB.out | apply ze | apply zb | apply zd) | exact HB.out)⟩⟩
    ·replace c5 := Bool.eq_false_iff.mpr c5
     subst c5
     have H1 : (some x1_1) = some r := by rw [if_neg (show ¬ (false = true) by decide)] at H; exact H
     clear H
     have H := H1
     clear H1
     obtain rfl := Option.some.inj H
     go_wp2_with (first | (go_at_call 112; (with_reducible refine (spec_l2Joins.calls k1 _ _ l0 x1_1 false _ ?side1 ?side2 A4.out).mono ?_); (case side1 => repeat (first | exact (Kd.zjb HR0.out HB.out) | (with_reducible refine Kd.zca ?_ _) | (with_reducible refine Kd.zda ?_ _) | (with_reducible refine Kd.zfa ?_))); (case side2 => exact HC0.out); rintro e w7 ⟨rfl, hb⟩; have n0_ := za.mk (zv (by repeat (first | (with_reducible first | exact HB.out | apply ze | apply zb | apply zd) | exact HB.out)) hb); clear HB; have HB := n0_; clear n0_; (try clear hb); (try clear hb2); (try clear hk); (try clear hi)))
     go_ret
     exact ⟨by first | rfl | (simp [zi, zj] <;> rfl) | (simp [*, zi, zj] <;> rfl), by repeat (first | (with_reducible first | exact HB.out | apply ze | apply zb | apply zd) | exact HB.out)⟩
   ·rw [if_neg c3] at H
    have c3b0 : decide (0 < x1_1) = false := decide_eq_false c3
    clear c3
    obtain rfl := Option.some.inj H
    go_wp2
    go_ret
    exact ⟨by first | rfl | (simp [zi, zj] <;> rfl) | (simp [*, zi, zj] <;> rfl), by repeat (first | (with_reducible first | exact HB.out | apply ze | apply zb | apply zd) | exact HB.out)⟩
def spec_l6At.l0 : Nat → List (S40) → Int → Int → Option (Int × Int)
 | 0, _, _, _ => none
 | k + 1, x0, x1, x6 => if x6 < (x0.length : Int) then (if 0 ≤ x6 then ((spec_l1In.f x1 ((rd_T40 x0 x6).f0) (wrap64 (((rd_T40 x0 x6).f1) - 1))).bind fun t145 => (if t145 = true then (some ((rd_T40 x0 x6).f2, (rd_T40 x0 x6).f3)) else (spec_l6At.l0 k x0 x1 (wrap64 (x6 + 1))))) else (none)) else (some (10, 0))
def spec_l6At.f (k : Nat) (l0 : List (S40)) (a1 : Int) : Option (Int × Int) := spec_l6At.l0 k l0 a1 0
theorem spec_l6At.calls (k : Nat) (A0 : Option Addr) (c0 : Nat) (l0 : List (S40)) (a1 : Int) (r1 : Int) (r2 : Int) (w : World) (hr0 : Kd.C k40 w A0 l0.length l0) (hc0 : l0.length ≤ c0) (h : spec_l6At.f k l0 a1 = some (r1, r2)) :
  Calls Try.prog 97 #[.slice A0 l0.length c0, .int .i64 a1] w fun e w' => e = .returned (.tuple #[.int .i64 r1, .int .i64 r2]) ∧ zba w w' := by
 have HR0 := za.mk hr0
 have HC0 := za.mk hc0
 clear hr0 hc0
 have H : (spec_l6At.l0 k l0 a1 0) = some (r1, r2) := h
 clear h
 have H' := za.mk H
 clear H
 go_enter Try.func97, Try.ntmps97
 go_wp2
 repeat (go_quiet (fail); try go_wp2)
 go_loopg [6] k (fun kq v6 w' => ∃ (x6_1 : Int), v6 = .int .i64 x6_1 ∧ za (spec_l6At.l0 kq l0 a1 x6_1 = some (r1, r2)) ∧ za (kq ≤ k) ∧ zba w w')
 case atStart => exact ⟨(0), (by first | rfl | (simp; done) | (simp [*]; done)), H', ⟨Nat.le_refl _⟩, by repeat (first | exact zba.refl _ | apply zba.step)⟩
 case round =>
  clear H'
  try clear p2
  obtain ⟨x6_1, rfl, HA, HK1, ⟨m1, rfl⟩⟩ := hrel
  cases gk with
  | zero => exact absurd HA.out (by simp [spec_l6At.l0])
  | succ k1 =>
   have H := HA.out
   clear HA
   simp only [spec_l6At.l0] at H
   by_cases c3 : x6_1 < (l0.length : Int)
   ·rw [if_pos c3] at H
    have c3b0 : decide (x6_1 < (l0.length : Int)) = true := decide_eq_true c3
    clear c3
    by_cases c4 : 0 ≤ x6_1
    ·rw [if_pos c4] at H
     have c4b0 : decide (0 ≤ x6_1) = true := decide_eq_true c4
     clear c4
     replace H := Option.bind_eq_some_iff.mp H
     obtain ⟨t145, A50, H⟩ := H
     replace H : (if t145 = true then (some ((rd_T40 l0 x6_1).f2, (rd_T40 l0 x6_1).f3)) else (spec_l6At.l0 k1 l0 a1 (wrap64 (x6_1 + 1)))) = some (r1, r2) := H
     have A5 := za.mk A50
     clear A50
     by_cases c6 : t145 = true
     ·subst c6
      have H1 : (some ((rd_T40 l0 x6_1).f2, (rd_T40 l0 x6_1).f3)) = some (r1, r2) := by rw [if_pos rfl] at H; exact H
      clear H
      have H := H1
      clear H1
      simp only [Option.some.injEq, Prod.mk.injEq] at H
      obtain ⟨rfl, rfl⟩ := H
      have p143 : 0 ≤ (x6_1 : Int) := of_decide_eq_true (by assumption)
      have q143 : x6_1 < (l0.length : Int) := of_decide_eq_true (by assumption)
      obtain ⟨ad143, e143, hx143_0, hx143_1, hx143_2, hx143_3⟩ := zib HR0.out x6_1 p143 q143
      cases e143
      replace p143 := eq_true p143
      replace q143 := eq_true q143
      have p144 : 0 ≤ (x6_1 : Int) := of_decide_eq_true (by assumption)
      have q144 : x6_1 < (l0.length : Int) := of_decide_eq_true (by assumption)
      obtain ⟨ad144, e144, hx144_0, hx144_1, hx144_2, hx144_3⟩ := zib HR0.out x6_1 p144 q144
      obtain rfl : ad143 = ad144 := (by injection e144)
      replace p144 := eq_true p144
      replace q144 := eq_true q144
      go_wp2_with (first | (go_at_call 74; (with_reducible refine (spec_l1In.calls a1 ((rd_T40 l0 x6_1).f0) (wrap64 (((rd_T40 l0 x6_1).f1) - 1)) true _ A5.out).mono ?_); rintro e w' ⟨rfl, ⟨nd, rfl⟩⟩; (try first | exact ⟨rfl, _, World.drewN_drewN _ _ _⟩ | exact ⟨rfl, _, Eq.trans (World.drewN_drewN _ _ _) (congrArg (World.drewN _) (Nat.add_assoc _ _ _))⟩); have p146 : 0 ≤ (x6_1 : Int) := of_decide_eq_true (by assumption); have q146 : x6_1 < (l0.length : Int) := of_decide_eq_true (by assumption); obtain ⟨ad146, e146, hx146_0, hx146_1, hx146_2, hx146_3⟩ := zib HR0.out x6_1 p146 q146; obtain rfl : ad143 = ad146 := (by injection e146); replace p146 := eq_true p146; replace q146 := eq_true q146; have p147 : 0 ≤ (x6_1 : Int) := of_decide_eq_true (by assumption); have q147 : x6_1 < (l0.length : Int) := of_decide_eq_true (by assumption); obtain ⟨ad147, e147, hx147_0, hx147_1, hx147_2, hx147_3⟩ := zib HR0.out x6_1 p147 q147; obtain rfl : ad143 = ad147 := (by injection e147); replace p147 := eq_true p147; replace q147 := eq_true q147))
      repeat (go_quiet (first | (go_at_call 74; (with_reducible refine (spec_l1In.calls a1 ((rd_T40 l0 x6_1).f0) (wrap64 (((rd_T40 l0 x6_1).f1) - 1)) true _ A5.out).mono ?_); rintro e w' ⟨rfl, ⟨nd, rfl⟩⟩; (try first | exact ⟨rfl, _, World.drewN_drewN _ _ _⟩ | exact ⟨rfl, _, Eq.trans (World.drewN_drewN _ _ _) (congrArg (World.drewN _) (Nat.add_assoc _ _ _))⟩))); try go_wp2_with (first | (go_at_call 74; (with_reducible refine (spec_l1In.calls a1 ((rd_T40 l0 x6_1).f0) (wrap64 (((rd_T40 l0 x6_1).f1) - 1)) true _ A5.out).mono ?_); rintro e w' ⟨rfl, ⟨nd, rfl⟩⟩; (try first | exact ⟨rfl, _, World.drewN_drewN _ _ _⟩ | exact ⟨rfl, _, Eq.trans (World.drewN_drewN _ _ _) (congrArg (World.drewN _) (Nat.add_assoc _ _ _))⟩))))
      go_ret2
      exact ⟨by first | rfl | (simp; done) | (simp [*]; done), by repeat (first | exact zba.refl _ | apply zba.step)⟩
     ·replace c6 := Bool.eq_false_iff.mpr c6
      subst c6
      have H1 : (spec_l6At.l0 k1 l0 a1 (wrap64 (x6_1 + 1))) = some (r1, r2) := by rw [if_neg (show ¬ (false = true) by decide)] at H; exact H
      clear H
      have H := H1
      clear H1
      have H' := za.mk H
      clear H
      have p143 : 0 ≤ (x6_1 : Int) := of_decide_eq_true (by assumption)
      have q143 : x6_1 < (l0.length : Int) := of_decide_eq_true (by assumption)
      obtain ⟨ad143, e143, hx143_0, hx143_1, hx143_2, hx143_3⟩ := zib HR0.out x6_1 p143 q143
      cases e143
      replace p143 := eq_true p143
      replace q143 := eq_true q143
      have p144 : 0 ≤ (x6_1 : Int) := of_decide_eq_true (by assumption)
      have q144 : x6_1 < (l0.length : Int) := of_decide_eq_true (by assumption)
      obtain ⟨ad144, e144, hx144_0, hx144_1, hx144_2, hx144_3⟩ := zib HR0.out x6_1 p144 q144
      obtain rfl : ad143 = ad144 := (by injection e144)
      replace p144 := eq_true p144
      replace q144 := eq_true q144
      go_wp2_with (first | (go_at_call 74; (with_reducible refine (spec_l1In.calls a1 ((rd_T40 l0 x6_1).f0) (wrap64 (((rd_T40 l0 x6_1).f1) - 1)) false _ A5.out).mono ?_); rintro e w' ⟨rfl, ⟨nd, rfl⟩⟩; (try first | exact ⟨rfl, _, World.drewN_drewN _ _ _⟩ | exact ⟨rfl, _, Eq.trans (World.drewN_drewN _ _ _) (congrArg (World.drewN _) (Nat.add_assoc _ _ _))⟩)))
      repeat (go_quiet (first | (go_at_call 74; (with_reducible refine (spec_l1In.calls a1 ((rd_T40 l0 x6_1).f0) (wrap64 (((rd_T40 l0 x6_1).f1) - 1)) false _ A5.out).mono ?_); rintro e w' ⟨rfl, ⟨nd, rfl⟩⟩; (try first | exact ⟨rfl, _, World.drewN_drewN _ _ _⟩ | exact ⟨rfl, _, Eq.trans (World.drewN_drewN _ _ _) (congrArg (World.drewN _) (Nat.add_assoc _ _ _))⟩))); try go_wp2_with (first | (go_at_call 74; (with_reducible refine (spec_l1In.calls a1 ((rd_T40 l0 x6_1).f0) (wrap64 (((rd_T40 l0 x6_1).f1) - 1)) false _ A5.out).mono ?_); rintro e w' ⟨rfl, ⟨nd, rfl⟩⟩; (try first | exact ⟨rfl, _, World.drewN_drewN _ _ _⟩ | exact ⟨rfl, _, Eq.trans (World.drewN_drewN _ _ _) (congrArg (World.drewN _) (Nat.add_assoc _ _ _))⟩))))
      go_roundg k1
      case measure => have := HK1.out; omega
      case rel => exact ⟨(wrap64 (x6_1 + 1)), (by first | rfl | (simp; done) | (simp [*]; done)), H', ⟨by have := HK1.out; omega⟩, by repeat (first | exact zba.refl _ | apply zba.step)⟩
    ·rw [if_neg c4] at H
     exact absurd H (by simp)
   ·rw [if_neg c3] at H
    have c3b0 : decide (x6_1 < (l0.length : Int)) = false := decide_eq_false c3
    clear c3
    simp only [Option.some.injEq, Prod.mk.injEq] at H
    obtain ⟨rfl, rfl⟩ := H
    go_wp2
    repeat (go_quiet (fail); try go_wp2)
    go_ret2
    exact ⟨by first | rfl | (simp; done) | (simp [*]; done), by repeat (first | exact zba.refl _ | apply zba.step)⟩
def spec_l1Has.l0 : Nat → List Int → Int → Int → Option (Bool)
 | 0, _, _, _ => none
 | k + 1, x0, x1, x5 => if x5 < (x0.length : Int) then (if 0 ≤ x5 then (if (rd x0 x5) = x1 then (some true) else (spec_l1Has.l0 k x0 x1 (wrap64 (x5 + 1)))) else (none)) else (some false)
def spec_l1Has.f (k : Nat) (l0 : List Int) (a1 : Int) : Option (Bool) := spec_l1Has.l0 k l0 a1 0
theorem spec_l1Has.calls (k : Nat) (A0 : Option Addr) (c0 : Nat) (l0 : List Int) (a1 : Int) (r : Bool) (w : World) (hr0 : Kd.C (Kd.int .i64) w A0 l0.length l0) (hc0 : l0.length ≤ c0) (h : spec_l1Has.f k l0 a1 = some r) :
  Calls Try.prog 159 #[.slice A0 l0.length c0, .int .i64 a1] w fun e w' => e = .returned (.bool r) ∧ zba w w' := by
 have HR0 := za.mk hr0
 have HC0 := za.mk hc0
 clear hr0 hc0
 have H : (spec_l1Has.l0 k l0 a1 0) = some r := h
 clear h
 have H' := za.mk H
 clear H
 go_enter Try.func159, Try.ntmps159
 go_wp2
 go_loopg [5] k (fun kq v5 w' => ∃ (x5_1 : Int), v5 = .int .i64 x5_1 ∧ za (spec_l1Has.l0 kq l0 a1 x5_1 = some r) ∧ za (kq ≤ k) ∧ zba w w')
 case atStart => exact ⟨(0), (by first | rfl | (simp; done) | (simp [*]; done)), H', ⟨Nat.le_refl _⟩, by repeat (first | exact zba.refl _ | apply zba.step)⟩
 case round =>
  clear H'
  try clear c1
  try clear p2
  obtain ⟨x5_1, rfl, HA, HK1, ⟨m1, rfl⟩⟩ := hrel
  cases gk with
  | zero => exact absurd HA.out (by simp [spec_l1Has.l0])
  | succ k1 =>
   have H := HA.out
   clear HA
   simp only [spec_l1Has.l0] at H
   by_cases c3 : x5_1 < (l0.length : Int)
   ·rw [if_pos c3] at H
    have c3b0 : decide (x5_1 < (l0.length : Int)) = true := decide_eq_true c3
    clear c3
    by_cases c4 : 0 ≤ x5_1
    ·rw [if_pos c4] at H
     have c4b0 : decide (0 ≤ x5_1) = true := decide_eq_true c4
     clear c4
     by_cases c5 : (rd l0 x5_1) = a1
     ·rw [if_pos c5] at H
      have c5b0 : ((rd l0 x5_1) == a1) = true := beq_iff_eq.mpr c5
      have c5b1 : ((rd l0 x5_1) != a1) = false := bne_eq_false_iff_eq.mpr c5
      clear c5
      obtain rfl := Option.some.inj H
      have p148 : 0 ≤ (x5_1 : Int) := of_decide_eq_true (by assumption)
      have q148 : x5_1 < (l0.length : Int) := of_decide_eq_true (by assumption)
      obtain ⟨ad148, e148, hx148_0⟩ := Kd.zta HR0.out x5_1 p148 q148
      cases e148
      replace p148 := eq_true p148
      replace q148 := eq_true q148
      go_wp2
      go_ret
      exact ⟨by first | rfl | (simp; done) | (simp [*]; done), by repeat (first | exact zba.refl _ | apply zba.step)⟩
     ·rw [if_neg c5] at H
      have c5b0 : ((rd l0 x5_1) == a1) = false := beq_eq_false_iff_ne.mpr c5
      have c5b1 : ((rd l0 x5_1) != a1) = true := bne_iff_ne.mpr c5
      have H' := za.mk H
      clear H
      have p148 : 0 ≤ (x5_1 : Int) := of_decide_eq_true (by assumption)
      have q148 : x5_1 < (l0.length : Int) := of_decide_eq_true (by assumption)
      obtain ⟨ad148, e148, hx148_0⟩ := Kd.zta HR0.out x5_1 p148 q148
      cases e148
      replace p148 := eq_true p148
      replace q148 := eq_true q148
      go_wp2
      go_roundg k1
      case measure => have := HK1.out; omega
      case rel => exact ⟨(wrap64 (x5_1 + 1)), (by first | rfl | (simp; done) | (simp [*]; done)), H', ⟨by have := HK1.out; omega⟩, by repeat (first | exact zba.refl _ | apply zba.step)⟩
    ·rw [if_neg c4] at H
     exact absurd H (by simp)
   ·rw [if_neg c3] at H
    have c3b0 : decide (x5_1 < (l0.length : Int)) = false := decide_eq_false c3
    clear c3
    obtain rfl := Option.some.inj H
    go_wp2
    go_ret
    exact ⟨by first | rfl | (simp; done) | (simp [*]; done), by repeat (first | exact zba.refl _ | apply zba.step)⟩
end Go.Proofs.Ytmjhdgofepdgkaa.PFnWides
