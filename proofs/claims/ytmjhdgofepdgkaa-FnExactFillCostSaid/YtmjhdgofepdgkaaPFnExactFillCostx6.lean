-- Written by a program of this session (wip/tools) out of the translation; its shape is that of the kit print.
import Derived.Test.YtmjhdgofepdgkaaPFnExactFillCostx0
import Derived.Test.YtmjhdgofepdgkaaPFnExactFillCostx5
namespace Go.Proofs.Ytmjhdgofepdgkaa.PFnExactFillCost
open Go.RowKit Go.Proofs.YtmjhdgofepdgkaaW.PrintWords Go.Proofs.YtmjhdgofepdgkaaW.PrintLast Go.Proofs.YtmjhdgofepdgkaaW.PrintMore
attribute [local go_sem] zbb zcb zjb zkb zxa zya zdb zeb
set_option linter.unusedVariables false
set_option maxHeartbeats 8000000
set_option maxRecDepth 100000
set_option linter.unusedSimpArgs false
def spec_l7Empty.f (k : Nat) (a0 : Int) : Option (Bool) := if a0 = 32 then (some true) else (if a0 = 10 then (some true) else ((spec_RuneWide.f k a0).bind fun t182 => (some (t182 == 0))))
theorem spec_l7Empty.calls (k : Nat) (a0 : Int) (r : Bool) (w : World) (h : spec_l7Empty.f k a0 = some r) :
  Calls Try.prog 110 #[.int .i64 a0] w fun e w' => e = .returned (.bool r) ∧ Below w.heap.size w w' := by
 have HB := za.mk (Below.refl w.heap.size w)
 have H : (if a0 = 32 then (some true) else (if a0 = 10 then (some true) else ((spec_RuneWide.f k a0).bind fun t182 => (some (t182 == 0))))) = some r := h
 clear h
 by_cases c2 : a0 = 32
 ·rw [if_pos c2] at H
  have c2b0 : (a0 == 32) = true := beq_iff_eq.mpr c2
  have c2b1 : (a0 != 32) = false := bne_eq_false_iff_eq.mpr c2
  clear c2
  obtain rfl := Option.some.inj H
  go_enter Try.func110, Try.ntmps110
  go_wp2
  go_ret
  exact ⟨by first | rfl | (simp [zh, zi] <;> rfl) | (simp [*, zh, zi] <;> rfl), by repeat (first | (with_reducible first | exact HB.out | apply zc | apply zb | apply zd) | exact HB.out)⟩
 ·rw [if_neg c2] at H
  have c2b0 : (a0 == 32) = false := beq_eq_false_iff_ne.mpr c2
  have c2b1 : (a0 != 32) = true := bne_iff_ne.mpr c2
  by_cases c3 : a0 = 10
  ·rw [if_pos c3] at H
   have c3b0 : (a0 == 10) = true := beq_iff_eq.mpr c3
   have c3b1 : (a0 != 10) = false := bne_eq_false_iff_eq.mpr c3
   clear c3
   obtain rfl := Option.some.inj H
   go_enter Try.func110, Try.ntmps110
   go_wp2
   go_ret
   exact ⟨by first | rfl | (simp [zh, zi] <;> rfl) | (simp [*, zh, zi] <;> rfl), by repeat (first | (with_reducible first | exact HB.out | apply zc | apply zb | apply zd) | exact HB.out)⟩
  ·rw [if_neg c3] at H
   have c3b0 : (a0 == 10) = false := beq_eq_false_iff_ne.mpr c3
   have c3b1 : (a0 != 10) = true := bne_iff_ne.mpr c3
   replace H := Option.bind_eq_some_iff.mp H
   obtain ⟨t182, A40, H⟩ := H
   replace H : (some (t182 == 0)) = some r := H
   have A4 := za.mk A40
   clear A40
   obtain rfl := Option.some.inj H
   go_enter Try.func110, Try.ntmps110
   go_wp2_with (first | (go_at_call 125; (with_reducible refine (spec_RuneWide.calls k a0 t182 _ A4.out).mono ?_); rintro e w5 ⟨rfl, hb⟩; have n0_ := za.mk (zg (by repeat (first | (with_reducible first | exact HB.out | apply zc | apply zb | apply zd) | exact HB.out)) hb); clear HB; have HB := n0_; clear n0_; (try clear hb); (try clear hb2); (try clear hk); (try clear hi)))
   go_ret
   exact ⟨by first | rfl | (simp [zh, zi] <;> rfl) | (simp [*, zh, zi] <;> rfl), by repeat (first | (with_reducible first | exact HB.out | apply zc | apply zb | apply zd) | exact HB.out)⟩
mutual
def spec_l7Wide.j1 : Nat → List Int → Int → Int → Option (Int)
 | 0, _, _, _ => none
 | k + 1, x1, x2, x3 => spec_l7Wide.l1 k x1 x3 0 x2
def spec_l7Wide.l1 : Nat → List Int → Int → Int → Int → Option (Int)
 | 0, _, _, _, _ => none
 | k + 1, x1, x3, x9, x10 => if x10 < x3 then (if 0 ≤ x10 then (if x10 < (x1.length : Int) then (spec_l7Wide.l1 k x1 x3 (wrap64 (x9 + (rd x1 x10))) (wrap64 (x10 + 1))) else (none)) else (none)) else (some x9)
def spec_l7Wide.l0 : Nat → List Int → List Int → Int → Int → Option (Int)
 | 0, _, _, _, _ => none
 | k + 1, x0, x1, x2, x3 => if x3 > x2 then (if 0 ≤ (wrap64 (x3 - 1)) then (if (wrap64 (x3 - 1)) < (x0.length : Int) then ((spec_l7Empty.f k (rd x0 (wrap64 (x3 - 1)))).bind fun t184 => (if t184 = true then (spec_l7Wide.l0 k x0 x1 x2 (wrap64 (x3 - 1))) else (spec_l7Wide.j1 k x1 x2 x3))) else (none)) else (none)) else (spec_l7Wide.j1 k x1 x2 x3)
end
def spec_l7Wide.f (k : Nat) (l0 : List Int) (l1 : List Int) (a2 : Int) (a3 : Int) : Option (Int) := spec_l7Wide.l0 k l0 l1 a2 a3
theorem spec_l7Wide.calls (k : Nat) (A0 : Option Addr) (c0 : Nat) (l0 : List Int) (A1 : Option Addr) (c1 : Nat) (l1 : List Int) (a2 : Int) (a3 : Int) (r : Int) (w : World) (hr0 : Kd.C (Kd.int .i64) w A0 l0.length l0) (hc0 : l0.length ≤ c0) (hr1 : Kd.C (Kd.int .i64) w A1 l1.length l1) (hc1 : l1.length ≤ c1) (h : spec_l7Wide.f k l0 l1 a2 a3 = some r) :
  Calls Try.prog 75 #[.slice A0 l0.length c0, .slice A1 l1.length c1, .int .i64 a2, .int .i64 a3] w fun e w' => e = .returned (.int .i64 r) ∧ Below w.heap.size w w' := by
 have HR0 := za.mk hr0
 have HC0 := za.mk hc0
 clear hr0 hc0
 have HR1 := za.mk hr1
 have HC1 := za.mk hc1
 clear hr1 hc1
 have HB := za.mk (Below.refl w.heap.size w)
 have H : (spec_l7Wide.l0 k l0 l1 a2 a3) = some r := h
 clear h
 have HC5 := za.mk H
 clear H
 go_enter Try.func75, Try.ntmps75
 go_upto_block 0 with (fail)
 go_cut [3] (fun v3 wc => ∃ (kq : Nat) (x3_4 : Int), v3 = .int .i64 x3_4 ∧ za (spec_l7Wide.j1 kq l1 a2 x3_4 = some r) ∧ za (kq ≤ k) ∧ za (Below w.heap.size w wc))
 case first =>
  have H := HC5.out
  clear HC5
  have H' := za.mk H
  clear H
  go_wp2
  go_loopg [3] k (fun kq v3 w' => ∃ (x3_1 : Int), v3 = .int .i64 x3_1 ∧ za (spec_l7Wide.l0 kq l0 l1 a2 x3_1 = some r) ∧ za (kq ≤ k) ∧ za (Below w.heap.size w w'))
  case atStart => exact ⟨(a3), (by first | rfl | (simp; done) | (simp [*]; done)), H', ⟨Nat.le_refl _⟩, ⟨by repeat (first | (with_reducible first | exact HB.out | apply zc | apply zb | apply zd) | exact HB.out)⟩⟩
  case round =>
   clear H'
   try clear c1
   try clear p2
   obtain ⟨x3_1, rfl, HA, HK1, HB⟩ := hrel
   cases gk with
   | zero => exact absurd HA.out (by simp [spec_l7Wide.l0])
   | succ k1 =>
    have H := HA.out
    clear HA
    simp only [spec_l7Wide.l0] at H
    by_cases c6 : x3_1 > a2
    ·rw [if_pos c6] at H
     have c6b0 : decide (a2 < x3_1) = true := decide_eq_true c6
     clear c6
     (first | rw [c6b0] | (simp only [zr, zs]; rw [c6b0]) | skip)
     obtain ⟨ji7, hji7⟩ : ∃ j_ : Int, (wrap64 (x3_1 - 1)) = j_ := ⟨_, rfl⟩
     replace H : (if 0 ≤ (ji7) then (if (ji7) < (l0.length : Int) then ((spec_l7Empty.f k1 (rd l0 (ji7))).bind fun t184 => (if t184 = true then (spec_l7Wide.l0 k1 l0 l1 a2 ji7) else (spec_l7Wide.j1 k1 l1 a2 x3_1))) else (none)) else (none)) = some r := by first | (rw [hji7] at H; exact H) | (simp only [hji7] at H ⊢; exact H)
     have hji7w : (IntKind.i64.wrap (x3_1 - 1)) = ji7 := (zr _).trans hji7
     by_cases c8 : 0 ≤ (ji7)
     ·rw [if_pos c8] at H
      have c8b0 : decide (0 ≤ (ji7)) = true := decide_eq_true c8
      clear c8
      by_cases c9 : (ji7) < (l0.length : Int)
      ·rw [if_pos c9] at H
       have c9b0 : decide ((ji7) < (l0.length : Int)) = true := decide_eq_true c9
       clear c9
       replace H := Option.bind_eq_some_iff.mp H
       obtain ⟨t184, A100, H⟩ := H
       replace H : (if t184 = true then (spec_l7Wide.l0 k1 l0 l1 a2 ji7) else (spec_l7Wide.j1 k1 l1 a2 x3_1)) = some r := H
       have A10 := za.mk A100
       clear A100
       by_cases c11 : t184 = true
       ·subst c11
        have H1 : (spec_l7Wide.l0 k1 l0 l1 a2 ji7) = some r := by rw [if_pos rfl] at H; exact H
        clear H
        have H := H1
        clear H1
        have H' := za.mk H
        clear H
        have p183 : 0 ≤ ((ji7) : Int) := of_decide_eq_true (by assumption)
        have q183 : (ji7) < (l0.length : Int) := of_decide_eq_true (by assumption)
        obtain ⟨ad183, e183, hx183_0⟩ := Kd.zfa HR0.out (ji7) p183 q183
        cases e183
        replace hx183_0 := (HB.out.cell (World.block_lt_of_cell? w _ hx183_0)).trans hx183_0
        replace p183 := eq_true p183
        replace q183 := eq_true q183
        go_wp2_with (first | (go_at_call 110; (with_reducible refine (spec_l7Empty.calls k1 (rd l0 (ji7)) true _ A10.out).mono ?_); rintro e w12 ⟨rfl, hb⟩; have n0_ := za.mk (zg (by repeat (first | (with_reducible first | exact HB.out | apply zc | apply zb | apply zd) | exact HB.out)) hb); clear HB; have HB := n0_; clear n0_; (try clear hb); (try clear hb2); (try clear hk); (try clear hi)))
        go_roundg k1
        case measure => have := HK1.out; omega
        case rel => exact ⟨(ji7), (by first | rfl | (simp; done) | (simp only [← hji7] <;> (first | rfl | simp)) | (simp [*]; done)), (by first | exact H' | (simp only [hji7]; exact H') | (simp only [hji7]; exact H')), ⟨by have := HK1.out; omega⟩, ⟨by repeat (first | (with_reducible first | exact HB.out | apply zc | apply zb | apply zd) | exact HB.out)⟩⟩
       ·replace c11 := Bool.eq_false_iff.mpr c11
        subst c11
        have H1 : (spec_l7Wide.j1 k1 l1 a2 x3_1) = some r := by rw [if_neg (show ¬ (false = true) by decide)] at H; exact H
        clear H
        have H := H1
        clear H1
        have H' := za.mk H
        clear H
        have p183 : 0 ≤ ((ji7) : Int) := of_decide_eq_true (by assumption)
        have q183 : (ji7) < (l0.length : Int) := of_decide_eq_true (by assumption)
        obtain ⟨ad183, e183, hx183_0⟩ := Kd.zfa HR0.out (ji7) p183 q183
        cases e183
        replace hx183_0 := (HB.out.cell (World.block_lt_of_cell? w _ hx183_0)).trans hx183_0
        replace p183 := eq_true p183
        replace q183 := eq_true q183
        go_wp2_with (first | (go_at_call 110; (with_reducible refine (spec_l7Empty.calls k1 (rd l0 (ji7)) false _ A10.out).mono ?_); rintro e w13 ⟨rfl, hb⟩; have n0_ := za.mk (zg (by repeat (first | (with_reducible first | exact HB.out | apply zc | apply zb | apply zd) | exact HB.out)) hb); clear HB; have HB := n0_; clear n0_; (try clear hb); (try clear hb2); (try clear hk); (try clear hi)))
        go_meet
        case rel => exact ⟨_, (x3_1), (by first | rfl | (simp; done) | (simp [*]; done)), (by first | exact H' | (simp only [hji7]; exact H') | (simp only [hji7]; exact H')), ⟨by have := HK1.out; first | omega | exact Nat.le_refl _⟩, ⟨by repeat (first | (with_reducible first | exact HB.out | apply zc | apply zb | apply zd) | exact HB.out)⟩⟩
      ·rw [if_neg c9] at H
       exact absurd H (by simp)
     ·rw [if_neg c8] at H
      exact absurd H (by simp)
    ·rw [if_neg c6] at H
     have c6b0 : decide (a2 < x3_1) = false := decide_eq_false c6
     clear c6
     (first | rw [c6b0] | (simp only [zr, zs]; rw [c6b0]) | skip)
     have H' := za.mk H
     clear H
     go_wp2
     go_meet
     case rel => exact ⟨_, (x3_1), (by first | rfl | (simp; done) | (simp [*]; done)), (by first | exact H' | (simp only [hji7]; exact H') | (simp only [hji7]; exact H')), ⟨by have := HK1.out; first | omega | exact Nat.le_refl _⟩, ⟨by repeat (first | (with_reducible first | exact HB.out | apply zc | apply zb | apply zd) | exact HB.out)⟩⟩
 case rest =>
  clear HC5
  try clear c1
  try clear p1
  try clear q1
  try clear hx1
  try clear p2
  try clear c6
  try clear c6b0
  try clear p6
  try clear c7
  try clear c8
  try clear c8b0
  try clear c9
  try clear c9b0
  try clear c11
  try clear hx183_0
  try clear p183
  try clear p2
  try clear q183
  obtain ⟨kq, x3_4, rfl, HA, HJ4, HB⟩ := hcut
  cases kq with
  | zero => exact absurd HA.out (by simp [spec_l7Wide.j1])
  | succ kj4 =>
   have H := HA.out
   clear HA
   simp only [spec_l7Wide.j1] at H
   have H' := za.mk H
   clear H
   go_wp2
   go_loopg [9, 10] kj4 (fun kq v9 v10 w' => ∃ (x9_2 : Int) (x10_2 : Int), v9 = .int .i64 x9_2 ∧ v10 = .int .i64 x10_2 ∧ za (spec_l7Wide.l1 kq l1 x3_4 x9_2 x10_2 = some r) ∧ za (kq ≤ kj4) ∧ za (Below w.heap.size w w'))
   case atStart => exact ⟨(0), (a2), (by first | rfl | (simp; done) | (simp [*]; done)), (by first | rfl | (simp; done) | (simp [*]; done)), H', ⟨Nat.le_refl _⟩, ⟨by repeat (first | (with_reducible first | exact HB.out | apply zc | apply zb | apply zd) | exact HB.out)⟩⟩
   case round =>
    clear H'
    try clear c1
    try clear p1
    try clear q1
    try clear hx1
    try clear p2
    try clear c6
    try clear c6b0
    try clear p6
    try clear c7
    try clear c8
    try clear c8b0
    try clear c9
    try clear c9b0
    try clear c11
    try clear hx183_0
    try clear p1
    try clear p183
    try clear p2
    try clear p6
    try clear q1
    try clear q183
    obtain ⟨x9_2, x10_2, rfl, rfl, HA, HK2, HB⟩ := hrel
    cases gk with
    | zero => exact absurd HA.out (by simp [spec_l7Wide.l1])
    | succ k2 =>
     have H := HA.out
     clear HA
     simp only [spec_l7Wide.l1] at H
     by_cases c14 : x10_2 < x3_4
     ·rw [if_pos c14] at H
      have c14b0 : decide (x10_2 < x3_4) = true := decide_eq_true c14
      clear c14
      by_cases c15 : 0 ≤ x10_2
      ·rw [if_pos c15] at H
       have c15b0 : decide (0 ≤ x10_2) = true := decide_eq_true c15
       clear c15
       by_cases c16 : x10_2 < (l1.length : Int)
       ·rw [if_pos c16] at H
        have c16b0 : decide (x10_2 < (l1.length : Int)) = true := decide_eq_true c16
        clear c16
        have H' := za.mk H
        clear H
        have p185 : 0 ≤ (x10_2 : Int) := of_decide_eq_true (by assumption)
        have q185 : x10_2 < (l1.length : Int) := of_decide_eq_true (by assumption)
        obtain ⟨ad185, e185, hx185_0⟩ := Kd.zfa HR1.out x10_2 p185 q185
        cases e185
        replace hx185_0 := (HB.out.cell (World.block_lt_of_cell? w _ hx185_0)).trans hx185_0
        replace p185 := eq_true p185
        replace q185 := eq_true q185
        go_wp2
        go_roundg k2
        case measure => have := HJ4.out; have := HK2.out; omega
        case rel => exact ⟨(wrap64 (x9_2 + (rd l1 x10_2))), (wrap64 (x10_2 + 1)), (by first | rfl | (simp; done) | (simp [*]; done)), (by first | rfl | (simp; done) | (simp [*]; done)), (by first | exact H' | (simp only [hji7]; exact H') | (simp only [hji7]; exact H')), ⟨by have := HJ4.out; have := HK2.out; omega⟩, ⟨by repeat (first | (with_reducible first | exact HB.out | apply zc | apply zb | apply zd) | exact HB.out)⟩⟩
       ·rw [if_neg c16] at H
        exact absurd H (by simp)
      ·rw [if_neg c15] at H
       exact absurd H (by simp)
     ·rw [if_neg c14] at H
      have c14b0 : decide (x10_2 < x3_4) = false := decide_eq_false c14
      clear c14
      obtain rfl := Option.some.inj H
      go_wp2
      go_ret
      exact ⟨by first | rfl | (simp [zh, zi] <;> rfl) | (simp [*, zh, zi] <;> rfl), by repeat (first | (with_reducible first | exact HB.out | apply zc | apply zb | apply zd) | exact HB.out)⟩
mutual
def spec_l5Signs.j0 : Nat → Int → Bool → Option (Int)
 | 0, _, _ => none
 | k + 1, x3, x4 => if x4 = true then (some 8) else (if x3 = 41 then (spec_l5Signs.j1 k x3 (x3 == 41)) else (if x3 = 93 then (spec_l5Signs.j1 k x3 (x3 == 93)) else (spec_l5Signs.j1 k x3 (x3 == 125))))
def spec_l5Signs.j1 : Nat → Int → Bool → Option (Int)
 | 0, _, _ => none
 | k + 1, x3, x8 => if x8 = true then (some 9) else (if x3 = 33 then (spec_l5Signs.j2 k x3 (x3 == 33)) else (spec_l5Signs.j2 k x3 (x3 == 63)))
def spec_l5Signs.j2 : Nat → Int → Bool → Option (Int)
 | 0, _, _ => none
 | k + 1, x3, x12 => if x12 = true then (some 10) else (if x3 = 34 then (some 11) else (if x3 = 45 then (some 12) else (if x3 = 44 then (spec_l5Signs.j3 k x3 (x3 == 44)) else (if x3 = 46 then (spec_l5Signs.j3 k x3 (x3 == 46)) else (if x3 = 58 then (spec_l5Signs.j3 k x3 (x3 == 58)) else (if x3 = 59 then (spec_l5Signs.j3 k x3 (x3 == 59)) else (spec_l5Signs.j3 k x3 (x3 == 47))))))))
def spec_l5Signs.j3 : Nat → Int → Bool → Option (Int)
 | 0, _, _ => none
 | k + 1, x3, x19 => if x19 = true then (some 13) else (if x3 = 9 then (some 14) else (if x3 = 173 then (some 14) else (some 1)))
end
def spec_l5Signs.f (k : Nat) (a0 : Int) : Option (Int) := if a0 = 40 then (spec_l5Signs.j0 k a0 (a0 == 40)) else (if a0 = 91 then (spec_l5Signs.j0 k a0 (a0 == 91)) else (spec_l5Signs.j0 k a0 (a0 == 123)))
theorem spec_l5Signs.calls (k : Nat) (a0 : Int) (r : Int) (w : World) (h : spec_l5Signs.f k a0 = some r) :
  Calls Try.prog 80 #[.int .i64 a0] w fun e w' => e = .returned (.int .i64 r) ∧ zm w w' := by
 have H : (if a0 = 40 then (spec_l5Signs.j0 k a0 (a0 == 40)) else (if a0 = 91 then (spec_l5Signs.j0 k a0 (a0 == 91)) else (spec_l5Signs.j0 k a0 (a0 == 123)))) = some r := h
 clear h
 have HC2 := za.mk H
 clear H
 go_enter Try.func80, Try.ntmps80
 go_upto_if 4 with (fail)
 go_cut [4] (fun v4 wc => ∃ (kq : Nat) (x4_1 : Bool), v4 = .bool x4_1 ∧ za (spec_l5Signs.j0 kq a0 x4_1 = some r) ∧ za (kq ≤ k) ∧ zm w wc)
 case first =>
  have H := HC2.out
  clear HC2
  by_cases c3 : a0 = 40
  ·rw [if_pos c3] at H
   have c3b0 : (a0 == 40) = true := beq_iff_eq.mpr c3
   have c3b1 : (a0 != 40) = false := bne_eq_false_iff_eq.mpr c3
   clear c3
   (first | rw [c3b0] | (simp only [zr, zs]; rw [c3b0]) | skip)
   have H' := za.mk H
   clear H
   go_wp2
   go_meet
   case rel => exact ⟨_, ((a0 == 40)), (by first | rfl | (simp; done) | (simp [*]; done)), H', ⟨by first | omega | exact Nat.le_refl _⟩, by repeat (first | exact zm.refl _ | apply zm.step)⟩
  ·rw [if_neg c3] at H
   have c3b0 : (a0 == 40) = false := beq_eq_false_iff_ne.mpr c3
   have c3b1 : (a0 != 40) = true := bne_iff_ne.mpr c3
   (first | rw [c3b0] | (simp only [zr, zs]; rw [c3b0]) | skip)
   by_cases c4 : a0 = 91
   ·rw [if_pos c4] at H
    have c4b0 : (a0 == 91) = true := beq_iff_eq.mpr c4
    have c4b1 : (a0 != 91) = false := bne_eq_false_iff_eq.mpr c4
    clear c4
    have H' := za.mk H
    clear H
    go_wp2
    go_meet
    case rel => exact ⟨_, ((a0 == 91)), (by first | rfl | (simp; done) | (simp [*]; done)), H', ⟨by first | omega | exact Nat.le_refl _⟩, by repeat (first | exact zm.refl _ | apply zm.step)⟩
   ·rw [if_neg c4] at H
    have c4b0 : (a0 == 91) = false := beq_eq_false_iff_ne.mpr c4
    have c4b1 : (a0 != 91) = true := bne_iff_ne.mpr c4
    have H' := za.mk H
    clear H
    go_wp2
    go_meet
    case rel => exact ⟨_, ((a0 == 123)), (by first | rfl | (simp; done) | (simp [*]; done)), H', ⟨by first | omega | exact Nat.le_refl _⟩, by repeat (first | exact zm.refl _ | apply zm.step)⟩
 case rest =>
  clear HC2
  try clear p2
  try clear c3
  try clear c3b0
  try clear c3b1
  try clear c4
  try clear c4b0
  try clear c4b1
  obtain ⟨kq, x4_1, rfl, HA, HJ1, ⟨mc1, rfl⟩⟩ := hcut
  cases kq with
  | zero => exact absurd HA.out (by simp [spec_l5Signs.j0])
  | succ kj1 =>
   have H := HA.out
   clear HA
   simp only [spec_l5Signs.j0] at H
   by_cases c5 : x4_1 = true
   ·subst c5
    have H1 : (some 8) = some r := by rw [if_pos rfl] at H; exact H
    clear H
    have H := H1
    clear H1
    obtain rfl := Option.some.inj H
    go_wp2
    go_ret
    exact ⟨by first | rfl | (simp; done) | (simp [*]; done), by repeat (first | exact zm.refl _ | apply zm.step)⟩
   ·replace c5 := Bool.eq_false_iff.mpr c5
    subst c5
    have H1 : (if a0 = 41 then (spec_l5Signs.j1 kj1 a0 (a0 == 41)) else (if a0 = 93 then (spec_l5Signs.j1 kj1 a0 (a0 == 93)) else (spec_l5Signs.j1 kj1 a0 (a0 == 125)))) = some r := by rw [if_neg (show ¬ (false = true) by decide)] at H; exact H
    clear H
    have H := H1
    clear H1
    have HC6 := za.mk H
    clear H
    go_upto_if 8 with (fail)
    go_cut [8] (fun v8 wc => ∃ (kq : Nat) (x8_5 : Bool), v8 = .bool x8_5 ∧ za (spec_l5Signs.j1 kq a0 x8_5 = some r) ∧ za (kq ≤ kj1) ∧ zm w wc)
    case first =>
     have H := HC6.out
     clear HC6
     by_cases c7 : a0 = 41
     ·rw [if_pos c7] at H
      have c7b0 : (a0 == 41) = true := beq_iff_eq.mpr c7
      have c7b1 : (a0 != 41) = false := bne_eq_false_iff_eq.mpr c7
      clear c7
      (first | rw [c7b0] | (simp only [zr, zs]; rw [c7b0]) | skip)
      have H' := za.mk H
      clear H
      go_wp2
      go_meet
      case rel => exact ⟨_, ((a0 == 41)), (by first | rfl | (simp; done) | (simp [*]; done)), H', ⟨by have := HJ1.out; first | omega | exact Nat.le_refl _⟩, by repeat (first | exact zm.refl _ | apply zm.step)⟩
     ·rw [if_neg c7] at H
      have c7b0 : (a0 == 41) = false := beq_eq_false_iff_ne.mpr c7
      have c7b1 : (a0 != 41) = true := bne_iff_ne.mpr c7
      (first | rw [c7b0] | (simp only [zr, zs]; rw [c7b0]) | skip)
      by_cases c8 : a0 = 93
      ·rw [if_pos c8] at H
       have c8b0 : (a0 == 93) = true := beq_iff_eq.mpr c8
       have c8b1 : (a0 != 93) = false := bne_eq_false_iff_eq.mpr c8
       clear c8
       have H' := za.mk H
       clear H
       go_wp2
       go_meet
       case rel => exact ⟨_, ((a0 == 93)), (by first | rfl | (simp; done) | (simp [*]; done)), H', ⟨by have := HJ1.out; first | omega | exact Nat.le_refl _⟩, by repeat (first | exact zm.refl _ | apply zm.step)⟩
      ·rw [if_neg c8] at H
       have c8b0 : (a0 == 93) = false := beq_eq_false_iff_ne.mpr c8
       have c8b1 : (a0 != 93) = true := bne_iff_ne.mpr c8
       have H' := za.mk H
       clear H
       go_wp2
       go_meet
       case rel => exact ⟨_, ((a0 == 125)), (by first | rfl | (simp; done) | (simp [*]; done)), H', ⟨by have := HJ1.out; first | omega | exact Nat.le_refl _⟩, by repeat (first | exact zm.refl _ | apply zm.step)⟩
    case rest =>
     clear HC6
     try clear c1
     try clear p2
     try clear c3
     try clear c3b0
     try clear c3b1
     try clear c4
     try clear c4b0
     try clear c4b1
     try clear c5
     try clear c7
     try clear c7b0
     try clear c7b1
     try clear c8
     try clear c8b0
     try clear c8b1
     try clear p2
     obtain ⟨kq, x8_5, rfl, HA, HJ5, ⟨mc5, rfl⟩⟩ := hcut
     cases kq with
     | zero => exact absurd HA.out (by simp [spec_l5Signs.j1])
     | succ kj5 =>
      have H := HA.out
      clear HA
      simp only [spec_l5Signs.j1] at H
      by_cases c9 : x8_5 = true
      ·subst c9
       have H1 : (some 9) = some r := by rw [if_pos rfl] at H; exact H
       clear H
       have H := H1
       clear H1
       obtain rfl := Option.some.inj H
       go_wp2
       go_ret
       exact ⟨by first | rfl | (simp; done) | (simp [*]; done), by repeat (first | exact zm.refl _ | apply zm.step)⟩
      ·replace c9 := Bool.eq_false_iff.mpr c9
       subst c9
       have H1 : (if a0 = 33 then (spec_l5Signs.j2 kj5 a0 (a0 == 33)) else (spec_l5Signs.j2 kj5 a0 (a0 == 63))) = some r := by rw [if_neg (show ¬ (false = true) by decide)] at H; exact H
       clear H
       have H := H1
       clear H1
       have HC10 := za.mk H
       clear H
       go_upto_if 12 with (fail)
       go_cut [12] (fun v12 wc => ∃ (kq : Nat) (x12_9 : Bool), v12 = .bool x12_9 ∧ za (spec_l5Signs.j2 kq a0 x12_9 = some r) ∧ za (kq ≤ kj5) ∧ zm w wc)
       case first =>
        have H := HC10.out
        clear HC10
        by_cases c11 : a0 = 33
        ·rw [if_pos c11] at H
         have c11b0 : (a0 == 33) = true := beq_iff_eq.mpr c11
         have c11b1 : (a0 != 33) = false := bne_eq_false_iff_eq.mpr c11
         clear c11
         (first | rw [c11b0] | (simp only [zr, zs]; rw [c11b0]) | skip)
         have H' := za.mk H
         clear H
         go_wp2
         go_meet
         case rel => exact ⟨_, ((a0 == 33)), (by first | rfl | (simp; done) | (simp [*]; done)), H', ⟨by have := HJ1.out; have := HJ5.out; first | omega | exact Nat.le_refl _⟩, by repeat (first | exact zm.refl _ | apply zm.step)⟩
        ·rw [if_neg c11] at H
         have c11b0 : (a0 == 33) = false := beq_eq_false_iff_ne.mpr c11
         have c11b1 : (a0 != 33) = true := bne_iff_ne.mpr c11
         (first | rw [c11b0] | (simp only [zr, zs]; rw [c11b0]) | skip)
         have H' := za.mk H
         clear H
         go_wp2
         go_meet
         case rel => exact ⟨_, ((a0 == 63)), (by first | rfl | (simp; done) | (simp [*]; done)), H', ⟨by have := HJ1.out; have := HJ5.out; first | omega | exact Nat.le_refl _⟩, by repeat (first | exact zm.refl _ | apply zm.step)⟩
       case rest =>
        clear HC10
        try clear c1
        try clear p2
        try clear c3
        try clear c3b0
        try clear c3b1
        try clear c4
        try clear c4b0
        try clear c4b1
        try clear c5
        try clear c7
        try clear c7b0
        try clear c7b1
        try clear c8
        try clear c8b0
        try clear c8b1
        try clear c9
        try clear c11
        try clear c11b0
        try clear c11b1
        try clear p2
        obtain ⟨kq, x12_9, rfl, HA, HJ9, ⟨mc9, rfl⟩⟩ := hcut
        cases kq with
        | zero => exact absurd HA.out (by simp [spec_l5Signs.j2])
        | succ kj9 =>
         have H := HA.out
         clear HA
         simp only [spec_l5Signs.j2] at H
         by_cases c12 : x12_9 = true
         ·subst c12
          have H1 : (some 10) = some r := by rw [if_pos rfl] at H; exact H
          clear H
          have H := H1
          clear H1
          obtain rfl := Option.some.inj H
          go_wp2
          go_ret
          exact ⟨by first | rfl | (simp; done) | (simp [*]; done), by repeat (first | exact zm.refl _ | apply zm.step)⟩
         ·replace c12 := Bool.eq_false_iff.mpr c12
          subst c12
          have H1 : (if a0 = 34 then (some 11) else (if a0 = 45 then (some 12) else (if a0 = 44 then (spec_l5Signs.j3 kj9 a0 (a0 == 44)) else (if a0 = 46 then (spec_l5Signs.j3 kj9 a0 (a0 == 46)) else (if a0 = 58 then (spec_l5Signs.j3 kj9 a0 (a0 == 58)) else (if a0 = 59 then (spec_l5Signs.j3 kj9 a0 (a0 == 59)) else (spec_l5Signs.j3 kj9 a0 (a0 == 47)))))))) = some r := by rw [if_neg (show ¬ (false = true) by decide)] at H; exact H
          clear H
          have H := H1
          clear H1
          by_cases c13 : a0 = 34
          ·rw [if_pos c13] at H
           have c13b0 : (a0 == 34) = true := beq_iff_eq.mpr c13
           have c13b1 : (a0 != 34) = false := bne_eq_false_iff_eq.mpr c13
           clear c13
           obtain rfl := Option.some.inj H
           go_wp2
           go_ret
           exact ⟨by first | rfl | (simp; done) | (simp [*]; done), by repeat (first | exact zm.refl _ | apply zm.step)⟩
          ·rw [if_neg c13] at H
           have c13b0 : (a0 == 34) = false := beq_eq_false_iff_ne.mpr c13
           have c13b1 : (a0 != 34) = true := bne_iff_ne.mpr c13
           by_cases c14 : a0 = 45
           ·rw [if_pos c14] at H
            have c14b0 : (a0 == 45) = true := beq_iff_eq.mpr c14
            have c14b1 : (a0 != 45) = false := bne_eq_false_iff_eq.mpr c14
            clear c14
            obtain rfl := Option.some.inj H
            go_wp2
            go_ret
            exact ⟨by first | rfl | (simp; done) | (simp [*]; done), by repeat (first | exact zm.refl _ | apply zm.step)⟩
           ·rw [if_neg c14] at H
            have c14b0 : (a0 == 45) = false := beq_eq_false_iff_ne.mpr c14
            have c14b1 : (a0 != 45) = true := bne_iff_ne.mpr c14
            have HC15 := za.mk H
            clear H
            go_upto_if 19 with (fail)
            go_cut [19] (fun v19 wc => ∃ (kq : Nat) (x19_14 : Bool), v19 = .bool x19_14 ∧ za (spec_l5Signs.j3 kq a0 x19_14 = some r) ∧ za (kq ≤ kj9) ∧ zm w wc)
            case first =>
             have H := HC15.out
             clear HC15
             by_cases c16 : a0 = 44
             ·rw [if_pos c16] at H
              have c16b0 : (a0 == 44) = true := beq_iff_eq.mpr c16
              have c16b1 : (a0 != 44) = false := bne_eq_false_iff_eq.mpr c16
              clear c16
              (first | rw [c16b0] | (simp only [zr, zs]; rw [c16b0]) | skip)
              have H' := za.mk H
              clear H
              go_wp2
              go_meet
              case rel => exact ⟨_, ((a0 == 44)), (by first | rfl | (simp; done) | (simp [*]; done)), H', ⟨by have := HJ1.out; have := HJ5.out; have := HJ9.out; first | omega | exact Nat.le_refl _⟩, by repeat (first | exact zm.refl _ | apply zm.step)⟩
             ·rw [if_neg c16] at H
              have c16b0 : (a0 == 44) = false := beq_eq_false_iff_ne.mpr c16
              have c16b1 : (a0 != 44) = true := bne_iff_ne.mpr c16
              (first | rw [c16b0] | (simp only [zr, zs]; rw [c16b0]) | skip)
              by_cases c17 : a0 = 46
              ·rw [if_pos c17] at H
               have c17b0 : (a0 == 46) = true := beq_iff_eq.mpr c17
               have c17b1 : (a0 != 46) = false := bne_eq_false_iff_eq.mpr c17
               clear c17
               have H' := za.mk H
               clear H
               go_wp2
               go_meet
               case rel => exact ⟨_, ((a0 == 46)), (by first | rfl | (simp; done) | (simp [*]; done)), H', ⟨by have := HJ1.out; have := HJ5.out; have := HJ9.out; first | omega | exact Nat.le_refl _⟩, by repeat (first | exact zm.refl _ | apply zm.step)⟩
              ·rw [if_neg c17] at H
               have c17b0 : (a0 == 46) = false := beq_eq_false_iff_ne.mpr c17
               have c17b1 : (a0 != 46) = true := bne_iff_ne.mpr c17
               by_cases c18 : a0 = 58
               ·rw [if_pos c18] at H
                have c18b0 : (a0 == 58) = true := beq_iff_eq.mpr c18
                have c18b1 : (a0 != 58) = false := bne_eq_false_iff_eq.mpr c18
                clear c18
                have H' := za.mk H
                clear H
                go_wp2
                go_meet
                case rel => exact ⟨_, ((a0 == 58)), (by first | rfl | (simp; done) | (simp [*]; done)), H', ⟨by have := HJ1.out; have := HJ5.out; have := HJ9.out; first | omega | exact Nat.le_refl _⟩, by repeat (first | exact zm.refl _ | apply zm.step)⟩
               ·rw [if_neg c18] at H
                have c18b0 : (a0 == 58) = false := beq_eq_false_iff_ne.mpr c18
                have c18b1 : (a0 != 58) = true := bne_iff_ne.mpr c18
                by_cases c19 : a0 = 59
                ·rw [if_pos c19] at H
                 have c19b0 : (a0 == 59) = true := beq_iff_eq.mpr c19
                 have c19b1 : (a0 != 59) = false := bne_eq_false_iff_eq.mpr c19
                 clear c19
                 have H' := za.mk H
                 clear H
                 go_wp2
                 go_meet
                 case rel => exact ⟨_, ((a0 == 59)), (by first | rfl | (simp; done) | (simp [*]; done)), H', ⟨by have := HJ1.out; have := HJ5.out; have := HJ9.out; first | omega | exact Nat.le_refl _⟩, by repeat (first | exact zm.refl _ | apply zm.step)⟩
                ·rw [if_neg c19] at H
                 have c19b0 : (a0 == 59) = false := beq_eq_false_iff_ne.mpr c19
                 have c19b1 : (a0 != 59) = true := bne_iff_ne.mpr c19
                 have H' := za.mk H
                 clear H
                 go_wp2
                 go_meet
                 case rel => exact ⟨_, ((a0 == 47)), (by first | rfl | (simp; done) | (simp [*]; done)), H', ⟨by have := HJ1.out; have := HJ5.out; have := HJ9.out; first | omega | exact Nat.le_refl _⟩, by repeat (first | exact zm.refl _ | apply zm.step)⟩
            case rest =>
             clear HC15
             try clear c1
             try clear p2
             try clear c3
             try clear c3b0
             try clear c3b1
             try clear c4
             try clear c4b0
             try clear c4b1
             try clear c5
             try clear c7
             try clear c7b0
             try clear c7b1
             try clear c8
             try clear c8b0
             try clear c8b1
             try clear c9
             try clear c11
             try clear c11b0
             try clear c11b1
             try clear c12
             try clear c13
             try clear c13b0
             try clear c13b1
             try clear c14
             try clear c14b0
             try clear c14b1
             try clear c16
             try clear c16b0
             try clear c16b1
             try clear c17
             try clear c17b0
             try clear c17b1
             try clear c18
             try clear c18b0
             try clear c18b1
             try clear c19
             try clear c19b0
             try clear c19b1
             try clear p2
             obtain ⟨kq, x19_14, rfl, HA, HJ14, ⟨mc14, rfl⟩⟩ := hcut
             cases kq with
             | zero => exact absurd HA.out (by simp [spec_l5Signs.j3])
             | succ kj14 =>
              have H := HA.out
              clear HA
              simp only [spec_l5Signs.j3] at H
              by_cases c20 : x19_14 = true
              ·subst c20
               have H1 : (some 13) = some r := by rw [if_pos rfl] at H; exact H
               clear H
               have H := H1
               clear H1
               obtain rfl := Option.some.inj H
               go_wp2
               go_ret
               exact ⟨by first | rfl | (simp; done) | (simp [*]; done), by repeat (first | exact zm.refl _ | apply zm.step)⟩
              ·replace c20 := Bool.eq_false_iff.mpr c20
               subst c20
               have H1 : (if a0 = 9 then (some 14) else (if a0 = 173 then (some 14) else (some 1))) = some r := by rw [if_neg (show ¬ (false = true) by decide)] at H; exact H
               clear H
               have H := H1
               clear H1
               by_cases c21 : a0 = 9
               ·rw [if_pos c21] at H
                have c21b0 : (a0 == 9) = true := beq_iff_eq.mpr c21
                have c21b1 : (a0 != 9) = false := bne_eq_false_iff_eq.mpr c21
                clear c21
                obtain rfl := Option.some.inj H
                go_wp2
                go_ret
                exact ⟨by first | rfl | (simp; done) | (simp [*]; done), by repeat (first | exact zm.refl _ | apply zm.step)⟩
               ·rw [if_neg c21] at H
                have c21b0 : (a0 == 9) = false := beq_eq_false_iff_ne.mpr c21
                have c21b1 : (a0 != 9) = true := bne_iff_ne.mpr c21
                by_cases c22 : a0 = 173
                ·rw [if_pos c22] at H
                 have c22b0 : (a0 == 173) = true := beq_iff_eq.mpr c22
                 have c22b1 : (a0 != 173) = false := bne_eq_false_iff_eq.mpr c22
                 clear c22
                 obtain rfl := Option.some.inj H
                 go_wp2
                 go_ret
                 exact ⟨by first | rfl | (simp; done) | (simp [*]; done), by repeat (first | exact zm.refl _ | apply zm.step)⟩
                ·rw [if_neg c22] at H
                 have c22b0 : (a0 == 173) = false := beq_eq_false_iff_ne.mpr c22
                 have c22b1 : (a0 != 173) = true := bne_iff_ne.mpr c22
                 obtain rfl := Option.some.inj H
                 go_wp2
                 go_ret
                 exact ⟨by first | rfl | (simp; done) | (simp [*]; done), by repeat (first | exact zm.refl _ | apply zm.step)⟩
end Go.Proofs.Ytmjhdgofepdgkaa.PFnExactFillCost
