-- Written by a program of this session (wip/tools) out of the translation; its shape is that of the kit print.
import Derived.Test.YtkapjhlcmicpnaaPFnLevelPlainx0
namespace Go.Proofs.Ytkapjhlcmicpnaa.PFnLevelPlain
open Go.RowKit Go.Proofs.YtkapjhlcmicpnaaW.PrintWords Go.Proofs.YtkapjhlcmicpnaaW.PrintLast Go.Proofs.YtkapjhlcmicpnaaW.PrintMore
attribute [local go_sem] max2_int min2_int max_two min_two max_three min_three max_four min_four   -- for this text's walks alone
set_option linter.unusedVariables false
set_option linter.unusedSimpArgs false

/-! ### spec_l3Strong: function 115 -/
def spec_l3Strong.l0 : Nat → List Int → Int → Int → Option (Int)
  | 0, _, _, _ => none
  | k + 1, x0, x2, x7 => if x7 ≥ 0 then (if 0 ≤ x7 then (if x7 < (x0.length : Int) then (if (rd x0 x7) = 1 then (some (rd x0 x7)) else (if (rd x0 x7) = 2 then (some (rd x0 x7)) else (if (rd x0 x7) = 3 then (some (rd x0 x7)) else (spec_l3Strong.l0 k x0 x2 (wrap64 (x7 - 1)))))) else (none)) else (none)) else (some x2)
def spec_l3Strong.f (k : Nat) (l0 : List Int) (a1 : Int) (a2 : Int) : Option (Int) := spec_l3Strong.l0 k l0 a2 a1
theorem spec_l3Strong.mono_l : ∀ k, (∀ y0 y1 y2, LeO (spec_l3Strong.l0 k y0 y1 y2) (spec_l3Strong.l0 (k + 1) y0 y1 y2))
  | 0 => fun _ _ _ r h => by simp [spec_l3Strong.l0] at h
  | k + 1 => by
    have ih0 := spec_l3Strong.mono_l k
    · intro y0 y1 y2
      unfold spec_l3Strong.l0
      repeat' first
      | (with_reducible exact ih0 _ _ _)
      | (with_reducible exact LeO.refl _)
      | (with_reducible exact LeO.none _)
      | (with_reducible refine LeO.ite ?_ ?_)
      | (with_reducible refine LeO.bind ?_ (fun _ => ?_))
      | exact ih0 _ _ _
      | exact LeO.none _
      | refine LeO.ite ?_ ?_
      | refine LeO.bind ?_ (fun _ => ?_)
theorem spec_l3Strong.mono : ∀ a0 a1 a2 k, LeO (spec_l3Strong.f k a0 a1 a2) (spec_l3Strong.f (k + 1) a0 a1 a2) := by
  intro a0 a1 a2 k
  have ih0 := spec_l3Strong.mono_l k
  unfold spec_l3Strong.f
  repeat' first
      | (with_reducible exact ih0 _ _ _)
      | (with_reducible exact LeO.refl _)
      | (with_reducible exact LeO.none _)
      | (with_reducible refine LeO.ite ?_ ?_)
      | (with_reducible refine LeO.bind ?_ (fun _ => ?_))
      | exact ih0 _ _ _
      | exact LeO.none _
      | refine LeO.ite ?_ ?_
      | refine LeO.bind ?_ (fun _ => ?_)
set_option maxHeartbeats 8000000 in
set_option maxRecDepth 100000 in
theorem spec_l3Strong.calls (k : Nat) (A0 : Option Addr) (c0 : Nat) (l0 : List Int) (a1 : Int) (a2 : Int) (r : Int) (w : World) (hr0 : Kd.C (Kd.int .i64) w A0 l0.length l0) (hc0 : l0.length ≤ c0) (h : spec_l3Strong.f k l0 a1 a2 = some r) :
    Calls Try.prog 115 #[.slice A0 l0.length c0, .int .i64 a1, .int .i64 a2] w fun e w' => e = .returned (.int .i64 r) ∧ Drawn0 w w' := by
  have HR0 := Aside0.mk hr0
  have HC0 := Aside0.mk hc0
  clear hr0 hc0
  have H : (spec_l3Strong.l0 k l0 a2 a1) = some r := h
  clear h
  have H' := Aside0.mk H
  clear H
  go_enter Try.func115, Try.ntmps115
  go_wp2
  go_loopg [7] k (fun kq v7 w' => ∃ (x7_1 : Int), v7 = .int .i64 x7_1 ∧ Aside0 (spec_l3Strong.l0 kq l0 a2 x7_1 = some r) ∧ Aside0 (kq ≤ k) ∧ Drawn0 w w')
  case atStart => exact ⟨(a1), (by first | rfl | (simp; done) | (simp [*]; done)), H', ⟨Nat.le_refl _⟩, by repeat (first | exact Drawn0.refl _ | apply Drawn0.step)⟩
  case round =>
    clear H'
    try clear c1
    try clear p2
    obtain ⟨x7_1, rfl, HA, HK1, ⟨m1, rfl⟩⟩ := hrel
    cases gk with
    | zero => exact absurd HA.out (by simp [spec_l3Strong.l0])
    | succ k1 =>
      have H := HA.out
      clear HA
      simp only [spec_l3Strong.l0] at H
      by_cases c4 : x7_1 ≥ 0
      · rw [if_pos c4] at H
        have c4b0 : decide (0 ≤ x7_1) = true := decide_eq_true c4
        clear c4
        by_cases c5 : 0 ≤ x7_1
        · rw [if_pos c5] at H
          have c5b0 : decide (0 ≤ x7_1) = true := decide_eq_true c5
          clear c5
          by_cases c6 : x7_1 < (l0.length : Int)
          · rw [if_pos c6] at H
            have c6b0 : decide (x7_1 < (l0.length : Int)) = true := decide_eq_true c6
            clear c6
            by_cases c7 : (rd l0 x7_1) = 1
            · rw [if_pos c7] at H
              have c7b0 : ((rd l0 x7_1) == 1) = true := beq_iff_eq.mpr c7
              have c7b1 : ((rd l0 x7_1) != 1) = false := bne_eq_false_iff_eq.mpr c7
              clear c7
              obtain rfl := Option.some.inj H
              have p189 : 0 ≤ (x7_1 : Int) := of_decide_eq_true (by first | (with_reducible assumption) | assumption)
              have q189 : x7_1 < (l0.length : Int) := of_decide_eq_true (by first | (with_reducible assumption) | assumption)
              obtain ⟨ad189, e189, hx189_0⟩ := Kd.at_int HR0.out x7_1 p189 q189
              cases e189
              replace p189 := eq_true p189
              replace q189 := eq_true q189
              have p190 : 0 ≤ (x7_1 : Int) := of_decide_eq_true (by first | (with_reducible assumption) | assumption)
              have q190 : x7_1 < (l0.length : Int) := of_decide_eq_true (by first | (with_reducible assumption) | assumption)
              obtain ⟨ad190, e190, hx190_0⟩ := Kd.at_int HR0.out x7_1 p190 q190
              obtain rfl : ad189 = ad190 := (by injection e190)
              replace p190 := eq_true p190
              replace q190 := eq_true q190
              go_wp2
              go_ret
              exact ⟨by first | rfl | (simp; done) | (simp [*]; done), by repeat (first | exact Drawn0.refl _ | apply Drawn0.step)⟩
            · rw [if_neg c7] at H
              have c7b0 : ((rd l0 x7_1) == 1) = false := beq_eq_false_iff_ne.mpr c7
              have c7b1 : ((rd l0 x7_1) != 1) = true := bne_iff_ne.mpr c7
              by_cases c8 : (rd l0 x7_1) = 2
              · rw [if_pos c8] at H
                have c8b0 : ((rd l0 x7_1) == 2) = true := beq_iff_eq.mpr c8
                have c8b1 : ((rd l0 x7_1) != 2) = false := bne_eq_false_iff_eq.mpr c8
                clear c8
                obtain rfl := Option.some.inj H
                have p189 : 0 ≤ (x7_1 : Int) := of_decide_eq_true (by first | (with_reducible assumption) | assumption)
                have q189 : x7_1 < (l0.length : Int) := of_decide_eq_true (by first | (with_reducible assumption) | assumption)
                obtain ⟨ad189, e189, hx189_0⟩ := Kd.at_int HR0.out x7_1 p189 q189
                cases e189
                replace p189 := eq_true p189
                replace q189 := eq_true q189
                have p191 : 0 ≤ (x7_1 : Int) := of_decide_eq_true (by first | (with_reducible assumption) | assumption)
                have q191 : x7_1 < (l0.length : Int) := of_decide_eq_true (by first | (with_reducible assumption) | assumption)
                obtain ⟨ad191, e191, hx191_0⟩ := Kd.at_int HR0.out x7_1 p191 q191
                obtain rfl : ad189 = ad191 := (by injection e191)
                replace p191 := eq_true p191
                replace q191 := eq_true q191
                have p192 : 0 ≤ (x7_1 : Int) := of_decide_eq_true (by first | (with_reducible assumption) | assumption)
                have q192 : x7_1 < (l0.length : Int) := of_decide_eq_true (by first | (with_reducible assumption) | assumption)
                obtain ⟨ad192, e192, hx192_0⟩ := Kd.at_int HR0.out x7_1 p192 q192
                obtain rfl : ad189 = ad192 := (by injection e192)
                replace p192 := eq_true p192
                replace q192 := eq_true q192
                go_wp2
                go_ret
                exact ⟨by first | rfl | (simp; done) | (simp [*]; done), by repeat (first | exact Drawn0.refl _ | apply Drawn0.step)⟩
              · rw [if_neg c8] at H
                have c8b0 : ((rd l0 x7_1) == 2) = false := beq_eq_false_iff_ne.mpr c8
                have c8b1 : ((rd l0 x7_1) != 2) = true := bne_iff_ne.mpr c8
                by_cases c9 : (rd l0 x7_1) = 3
                · rw [if_pos c9] at H
                  have c9b0 : ((rd l0 x7_1) == 3) = true := beq_iff_eq.mpr c9
                  have c9b1 : ((rd l0 x7_1) != 3) = false := bne_eq_false_iff_eq.mpr c9
                  clear c9
                  obtain rfl := Option.some.inj H
                  have p189 : 0 ≤ (x7_1 : Int) := of_decide_eq_true (by first | (with_reducible assumption) | assumption)
                  have q189 : x7_1 < (l0.length : Int) := of_decide_eq_true (by first | (with_reducible assumption) | assumption)
                  obtain ⟨ad189, e189, hx189_0⟩ := Kd.at_int HR0.out x7_1 p189 q189
                  cases e189
                  replace p189 := eq_true p189
                  replace q189 := eq_true q189
                  have p191 : 0 ≤ (x7_1 : Int) := of_decide_eq_true (by first | (with_reducible assumption) | assumption)
                  have q191 : x7_1 < (l0.length : Int) := of_decide_eq_true (by first | (with_reducible assumption) | assumption)
                  obtain ⟨ad191, e191, hx191_0⟩ := Kd.at_int HR0.out x7_1 p191 q191
                  obtain rfl : ad189 = ad191 := (by injection e191)
                  replace p191 := eq_true p191
                  replace q191 := eq_true q191
                  have p193 : 0 ≤ (x7_1 : Int) := of_decide_eq_true (by first | (with_reducible assumption) | assumption)
                  have q193 : x7_1 < (l0.length : Int) := of_decide_eq_true (by first | (with_reducible assumption) | assumption)
                  obtain ⟨ad193, e193, hx193_0⟩ := Kd.at_int HR0.out x7_1 p193 q193
                  obtain rfl : ad189 = ad193 := (by injection e193)
                  replace p193 := eq_true p193
                  replace q193 := eq_true q193
                  have p194 : 0 ≤ (x7_1 : Int) := of_decide_eq_true (by first | (with_reducible assumption) | assumption)
                  have q194 : x7_1 < (l0.length : Int) := of_decide_eq_true (by first | (with_reducible assumption) | assumption)
                  obtain ⟨ad194, e194, hx194_0⟩ := Kd.at_int HR0.out x7_1 p194 q194
                  obtain rfl : ad189 = ad194 := (by injection e194)
                  replace p194 := eq_true p194
                  replace q194 := eq_true q194
                  go_wp2
                  go_ret
                  exact ⟨by first | rfl | (simp; done) | (simp [*]; done), by repeat (first | exact Drawn0.refl _ | apply Drawn0.step)⟩
                · rw [if_neg c9] at H
                  have c9b0 : ((rd l0 x7_1) == 3) = false := beq_eq_false_iff_ne.mpr c9
                  have c9b1 : ((rd l0 x7_1) != 3) = true := bne_iff_ne.mpr c9
                  have H' := Aside0.mk H
                  clear H
                  have p189 : 0 ≤ (x7_1 : Int) := of_decide_eq_true (by first | (with_reducible assumption) | assumption)
                  have q189 : x7_1 < (l0.length : Int) := of_decide_eq_true (by first | (with_reducible assumption) | assumption)
                  obtain ⟨ad189, e189, hx189_0⟩ := Kd.at_int HR0.out x7_1 p189 q189
                  cases e189
                  replace p189 := eq_true p189
                  replace q189 := eq_true q189
                  have p191 : 0 ≤ (x7_1 : Int) := of_decide_eq_true (by first | (with_reducible assumption) | assumption)
                  have q191 : x7_1 < (l0.length : Int) := of_decide_eq_true (by first | (with_reducible assumption) | assumption)
                  obtain ⟨ad191, e191, hx191_0⟩ := Kd.at_int HR0.out x7_1 p191 q191
                  obtain rfl : ad189 = ad191 := (by injection e191)
                  replace p191 := eq_true p191
                  replace q191 := eq_true q191
                  have p193 : 0 ≤ (x7_1 : Int) := of_decide_eq_true (by first | (with_reducible assumption) | assumption)
                  have q193 : x7_1 < (l0.length : Int) := of_decide_eq_true (by first | (with_reducible assumption) | assumption)
                  obtain ⟨ad193, e193, hx193_0⟩ := Kd.at_int HR0.out x7_1 p193 q193
                  obtain rfl : ad189 = ad193 := (by injection e193)
                  replace p193 := eq_true p193
                  replace q193 := eq_true q193
                  go_wp2
                  go_roundg k1
                  case measure => have := HK1.out; omega
                  case rel => exact ⟨(wrap64 (x7_1 - 1)), (by first | rfl | (simp; done) | (simp [*]; done)), H', ⟨by have := HK1.out; omega⟩, by repeat (first | exact Drawn0.refl _ | apply Drawn0.step)⟩
          · rw [if_neg c6] at H
            exact absurd H (by simp)
        · rw [if_neg c5] at H
          exact absurd H (by simp)
      · rw [if_neg c4] at H
        have c4b0 : decide (0 ≤ x7_1) = false := decide_eq_false c4
        clear c4
        obtain rfl := Option.some.inj H
        go_wp2
        go_ret
        exact ⟨by first | rfl | (simp; done) | (simp [*]; done), by repeat (first | exact Drawn0.refl _ | apply Drawn0.step)⟩

/-! ### spec_l3Between: function 116 -/
def spec_l3Between.l0 : Nat → List Int → Int → Option (List Int)
  | 0, _, _ => none
  | k + 1, x0, x2 => if (wrap64 (x2 + 1)) < (x0.length : Int) then (if 0 ≤ (wrap64 (x2 - 1)) then (if (wrap64 (x2 - 1)) < (x0.length : Int) then (if 0 ≤ (wrap64 (x2 + 1)) then (if (rd x0 (wrap64 (x2 - 1))) = (rd x0 (wrap64 (x2 + 1))) then (if (rd x0 (wrap64 (x2 - 1))) = 4 then (if 0 ≤ x2 then (if x2 < (x0.length : Int) then (if (rd x0 x2) = 5 then (spec_l3Between.l0 k (x0.set (x2 : Int).toNat (rd x0 (wrap64 (x2 - 1)))) (wrap64 (x2 + 1))) else (if (rd x0 x2) = 8 then (spec_l3Between.l0 k (x0.set (x2 : Int).toNat (rd x0 (wrap64 (x2 - 1)))) (wrap64 (x2 + 1))) else (if (rd x0 (wrap64 (x2 - 1))) = 7 then (spec_l3Between.l0 k x0 (wrap64 (x2 + 1))) else (spec_l3Between.l0 k x0 (wrap64 (x2 + 1)))))) else (none)) else (none)) else (if (rd x0 (wrap64 (x2 - 1))) = 7 then (if 0 ≤ x2 then (if x2 < (x0.length : Int) then (if (rd x0 x2) = 8 then (spec_l3Between.l0 k (x0.set (x2 : Int).toNat (rd x0 (wrap64 (x2 - 1)))) (wrap64 (x2 + 1))) else (spec_l3Between.l0 k x0 (wrap64 (x2 + 1)))) else (none)) else (none)) else (spec_l3Between.l0 k x0 (wrap64 (x2 + 1))))) else (spec_l3Between.l0 k x0 (wrap64 (x2 + 1)))) else (none)) else (none)) else (none)) else (some x0)
def spec_l3Between.f (k : Nat) (l0 : List Int) : Option (List Int) := spec_l3Between.l0 k l0 1
theorem spec_l3Between.mono_l : ∀ k, (∀ y0 y1, LeO (spec_l3Between.l0 k y0 y1) (spec_l3Between.l0 (k + 1) y0 y1))
  | 0 => fun _ _ r h => by simp [spec_l3Between.l0] at h
  | k + 1 => by
    have ih0 := spec_l3Between.mono_l k
    · intro y0 y1
      unfold spec_l3Between.l0
      repeat' first
      | (with_reducible exact ih0 _ _)
      | (with_reducible exact LeO.refl _)
      | (with_reducible exact LeO.none _)
      | (with_reducible refine LeO.ite ?_ ?_)
      | (with_reducible refine LeO.bind ?_ (fun _ => ?_))
      | exact ih0 _ _
      | exact LeO.none _
      | refine LeO.ite ?_ ?_
      | refine LeO.bind ?_ (fun _ => ?_)
theorem spec_l3Between.mono : ∀ a0 k, LeO (spec_l3Between.f k a0) (spec_l3Between.f (k + 1) a0) := by
  intro a0 k
  have ih0 := spec_l3Between.mono_l k
  unfold spec_l3Between.f
  repeat' first
      | (with_reducible exact ih0 _ _)
      | (with_reducible exact LeO.refl _)
      | (with_reducible exact LeO.none _)
      | (with_reducible refine LeO.ite ?_ ?_)
      | (with_reducible refine LeO.bind ?_ (fun _ => ?_))
      | exact ih0 _ _
      | exact LeO.none _
      | refine LeO.ite ?_ ?_
      | refine LeO.bind ?_ (fun _ => ?_)
set_option maxHeartbeats 8000000 in
set_option maxRecDepth 100000 in
theorem spec_l3Between.calls (k : Nat) (P0_ : Nat → Prop) (u9000_ : Value) (l0 : List Int) (r : List Int) (w0 w : World) (hB : Below w0.heap.size w0 w) (ho0 : Kd.R (Kd.int .i64) 3 w w0.heap.size P0_ u9000_ l0) (h : spec_l3Between.f k l0 = some r) :
    Calls Try.prog 116 #[u9000_] w fun e w' => e = .returned (.tuple #[]) ∧ Kd.R (Kd.int .i64) 3 w' w0.heap.size (fun k_ => (P0_ k_ ∨ w.heap.size ≤ k_)) u9000_ r ∧ Below w0.heap.size w0 w' ∧ Kept w w' (fun k_ => P0_ k_) := by
  have HO0 := Aside0.mk (show Kd.R (Kd.int .i64) 3 w w0.heap.size (fun k_ => (P0_ k_ ∨ w.heap.size ≤ k_)) u9000_ l0 from Kd.R_mono ho0 (fun k_ hk => (.inl hk)))
  have HK := Aside0.mk (Kept.refl w (fun k_ => P0_ k_))
  have HW0 := Aside0.mk hB.size
  have HB := Aside0.mk hB
  clear hB
  have H : (spec_l3Between.l0 k l0 1) = some r := h
  clear h
  have H' := Aside0.mk H
  clear H
  go_enter Try.func116, Try.ntmps116
  go_wp2
  go_loopg [2] k (fun kq v2 w' => ∃ (x0_1 : List Int) (x2_1 : Int), v2 = .int .i64 x2_1 ∧ Aside0 (spec_l3Between.l0 kq x0_1 x2_1 = some r) ∧ Aside0 (kq ≤ k) ∧ Aside0 (Kd.R (Kd.int .i64) 3 w' w0.heap.size (fun k_ => (P0_ k_ ∨ w.heap.size ≤ k_)) u9000_ x0_1) ∧ Aside0 (Kept w w' (fun k_ => P0_ k_)) ∧ Aside0 (Below w0.heap.size w0 w'))
  case atStart => exact ⟨(l0), (1), (by first | rfl | (simp; done) | (simp [*]; done)), H', ⟨Nat.le_refl _⟩, ⟨by (with_reducible repeat (first | apply Kd.R_alloc | apply Kd.R_drewN | apply Kd.R_drew)); exact HO0.out⟩, ⟨by repeat (first | (with_reducible first | exact HK.out | apply Kept.alloc | apply Kept.drewN | apply Kept.drew) | exact HK.out)⟩, ⟨by repeat (first | (with_reducible first | exact HB.out | apply below_alloc | apply pw_below_drewN | apply below_drew1) | exact HB.out)⟩⟩
  case round =>
    clear H'
    try clear c1
    obtain ⟨x0_1, x2_1, rfl, HA, HK1, HO_0, HK, HB⟩ := hrel
    cases gk with
    | zero => exact absurd HA.out (by simp [spec_l3Between.l0])
    | succ k1 =>
      have H := HA.out
      clear HA
      simp only [spec_l3Between.l0] at H
      by_cases c2 : (wrap64 (x2_1 + 1)) < (x0_1.length : Int)
      · rw [if_pos c2] at H
        have c2b0 : decide ((wrap64 (x2_1 + 1)) < (x0_1.length : Int)) = true := decide_eq_true c2
        clear c2
        obtain ⟨ji3, hji3⟩ : ∃ j_ : Int, (wrap64 (x2_1 - 1)) = j_ := ⟨_, rfl⟩
        replace H : (if 0 ≤ (ji3) then (if (ji3) < (x0_1.length : Int) then (if 0 ≤ (wrap64 (x2_1 + 1)) then (if (rd x0_1 (ji3)) = (rd x0_1 (wrap64 (x2_1 + 1))) then (if (rd x0_1 (ji3)) = 4 then (if 0 ≤ x2_1 then (if x2_1 < (x0_1.length : Int) then (if (rd x0_1 x2_1) = 5 then (spec_l3Between.l0 k1 (x0_1.set (x2_1 : Int).toNat (rd x0_1 (ji3))) (wrap64 (x2_1 + 1))) else (if (rd x0_1 x2_1) = 8 then (spec_l3Between.l0 k1 (x0_1.set (x2_1 : Int).toNat (rd x0_1 (ji3))) (wrap64 (x2_1 + 1))) else (if (rd x0_1 (ji3)) = 7 then (spec_l3Between.l0 k1 x0_1 (wrap64 (x2_1 + 1))) else (spec_l3Between.l0 k1 x0_1 (wrap64 (x2_1 + 1)))))) else (none)) else (none)) else (if (rd x0_1 (ji3)) = 7 then (if 0 ≤ x2_1 then (if x2_1 < (x0_1.length : Int) then (if (rd x0_1 x2_1) = 8 then (spec_l3Between.l0 k1 (x0_1.set (x2_1 : Int).toNat (rd x0_1 (ji3))) (wrap64 (x2_1 + 1))) else (spec_l3Between.l0 k1 x0_1 (wrap64 (x2_1 + 1)))) else (none)) else (none)) else (spec_l3Between.l0 k1 x0_1 (wrap64 (x2_1 + 1))))) else (spec_l3Between.l0 k1 x0_1 (wrap64 (x2_1 + 1)))) else (none)) else (none)) else (none)) = some r := by first | (rw [hji3] at H; exact H) | (simp only [hji3] at H ⊢; exact H)
        have hji3w : (IntKind.i64.wrap (x2_1 - 1)) = ji3 := (i64_w _).trans hji3
        by_cases c4 : 0 ≤ (ji3)
        · rw [if_pos c4] at H
          have c4b0 : decide (0 ≤ (ji3)) = true := decide_eq_true c4
          clear c4
          by_cases c5 : (ji3) < (x0_1.length : Int)
          · rw [if_pos c5] at H
            have c5b0 : decide ((ji3) < (x0_1.length : Int)) = true := decide_eq_true c5
            clear c5
            obtain ⟨ji6, hji6⟩ : ∃ j_ : Int, (wrap64 (x2_1 + 1)) = j_ := ⟨_, rfl⟩
            replace H : (if 0 ≤ (ji6) then (if (rd x0_1 (ji3)) = (rd x0_1 (ji6)) then (if (rd x0_1 (ji3)) = 4 then (if 0 ≤ x2_1 then (if x2_1 < (x0_1.length : Int) then (if (rd x0_1 x2_1) = 5 then (spec_l3Between.l0 k1 (x0_1.set (x2_1 : Int).toNat (rd x0_1 (ji3))) ji6) else (if (rd x0_1 x2_1) = 8 then (spec_l3Between.l0 k1 (x0_1.set (x2_1 : Int).toNat (rd x0_1 (ji3))) ji6) else (if (rd x0_1 (ji3)) = 7 then (spec_l3Between.l0 k1 x0_1 ji6) else (spec_l3Between.l0 k1 x0_1 ji6)))) else (none)) else (none)) else (if (rd x0_1 (ji3)) = 7 then (if 0 ≤ x2_1 then (if x2_1 < (x0_1.length : Int) then (if (rd x0_1 x2_1) = 8 then (spec_l3Between.l0 k1 (x0_1.set (x2_1 : Int).toNat (rd x0_1 (ji3))) ji6) else (spec_l3Between.l0 k1 x0_1 ji6)) else (none)) else (none)) else (spec_l3Between.l0 k1 x0_1 ji6))) else (spec_l3Between.l0 k1 x0_1 ji6)) else (none)) = some r := by first | (rw [hji6] at H; exact H) | (simp only [hji6] at H ⊢; exact H)
            (try rw [hji6] at c2b0)
            have hji6w : (IntKind.i64.wrap (x2_1 + 1)) = ji6 := (i64_w _).trans hji6
            by_cases c7 : 0 ≤ (ji6)
            · rw [if_pos c7] at H
              have c7b0 : decide (0 ≤ (ji6)) = true := decide_eq_true c7
              clear c7
              by_cases c8 : (rd x0_1 (ji3)) = (rd x0_1 (ji6))
              · rw [if_pos c8] at H
                have c8b0 : ((rd x0_1 (ji3)) == (rd x0_1 (ji6))) = true := beq_iff_eq.mpr c8
                have c8b1 : ((rd x0_1 (ji3)) != (rd x0_1 (ji6))) = false := bne_eq_false_iff_eq.mpr c8
                clear c8
                by_cases c9 : (rd x0_1 (ji3)) = 4
                · rw [if_pos c9] at H
                  have c9b0 : ((rd x0_1 (ji3)) == 4) = true := beq_iff_eq.mpr c9
                  have c9b1 : ((rd x0_1 (ji3)) != 4) = false := bne_eq_false_iff_eq.mpr c9
                  clear c9
                  by_cases c10 : 0 ≤ x2_1
                  · rw [if_pos c10] at H
                    have c10b0 : decide (0 ≤ x2_1) = true := decide_eq_true c10
                    clear c10
                    by_cases c11 : x2_1 < (x0_1.length : Int)
                    · rw [if_pos c11] at H
                      have c11b0 : decide (x2_1 < (x0_1.length : Int)) = true := decide_eq_true c11
                      clear c11
                      by_cases c12 : (rd x0_1 x2_1) = 5
                      · rw [if_pos c12] at H
                        have c12b0 : ((rd x0_1 x2_1) == 5) = true := beq_iff_eq.mpr c12
                        have c12b1 : ((rd x0_1 x2_1) != 5) = false := bne_eq_false_iff_eq.mpr c12
                        clear c12
                        obtain ⟨y198, hy198⟩ : ∃ y_ : List Int, y_ = (x0_1.set (x2_1 : Int).toNat (rd x0_1 (ji3))) := ⟨_, rfl⟩
                        replace H : (spec_l3Between.l0 k1 y198 ji6) = some r := by first | (rw [hy198]; with_reducible exact H) | (have H2_ := (Option.bind_some _ _).symm.trans H; rw [hy198]; with_reducible exact H2_) | (have H2_ := (Option.bind_some _ _).symm.trans H; with_reducible exact H2_) | with_reducible exact H | (rw [hy198]; exact H) | exact H
                        have Ny198 := Aside0.mk hy198
                        clear hy198
                        have H' := Aside0.mk H
                        clear H
                        obtain ⟨Ao14, co14, eo14⟩ := Kd.R_slice HO_0.out
                        subst eo14
                        have p195 : 0 ≤ ((ji3) : Int) := of_decide_eq_true (by first | (with_reducible assumption) | assumption)
                        have q195 : (ji3) < (x0_1.length : Int) := of_decide_eq_true (by first | (with_reducible assumption) | assumption)
                        obtain ⟨ad195, e195, hx195_0⟩ := Kd.at_int (Kd.R_reads' HO_0.out).2.2 (ji3) p195 q195
                        cases e195
                        replace p195 := eq_true p195
                        replace q195 := eq_true q195
                        have p196 : 0 ≤ ((ji6) : Int) := of_decide_eq_true (by first | (with_reducible assumption) | assumption)
                        have q196 : (ji6) < (x0_1.length : Int) := of_decide_eq_true (by first | (with_reducible assumption) | assumption)
                        obtain ⟨ad196, e196, hx196_0⟩ := Kd.at_int (Kd.R_reads' HO_0.out).2.2 (ji6) p196 q196
                        obtain rfl : ad195 = ad196 := (by injection e196)
                        replace p196 := eq_true p196
                        replace q196 := eq_true q196
                        have p197 : 0 ≤ (x2_1 : Int) := of_decide_eq_true (by first | (with_reducible assumption) | assumption)
                        have q197 : x2_1 < (x0_1.length : Int) := of_decide_eq_true (by first | (with_reducible assumption) | assumption)
                        obtain ⟨ad197, e197, hx197_0⟩ := Kd.at_int (Kd.R_reads' HO_0.out).2.2 x2_1 p197 q197
                        obtain rfl : ad195 = ad197 := (by injection e197)
                        replace p197 := eq_true p197
                        replace q197 := eq_true q197
                        have p13 : 0 ≤ (x2_1 : Int) := of_decide_eq_true (by first | (with_reducible assumption) | assumption)
                        have q13 : (x2_1 : Int) < ((x0_1.length : Int) : Int) := of_decide_eq_true (by first | (with_reducible assumption) | assumption)
                        obtain ⟨go13, co13, eo13, gb13, gl13, cl13, HG13⟩ := Kd.R_form HO_0.out (by omega)
                        (first | cases eo13 | (injection eo13 with ea_ en_ ec_; (first | subst ea_ | (injection ea_ with ea_; subst ea_)); subst ec_; clear en_))
                        have GB13 := Aside0.mk gb13
                        have GG13 := Aside0.mk HG13
                        clear gb13 gl13 HG13
                        have HMgo13 := Aside0.mk (show (P0_ go13 ∨ w.heap.size ≤ go13) from (HO_0.out.1 _ rfl))
                        (first | simp only [add_plain] at hx195_0 | skip)
                        (first | simp only [add_plain] at hx196_0 | skip)
                        (first | simp only [add_plain] at hx197_0 | skip)
                        obtain ⟨hx13_0, hf13_0⟩ := Kd.R_celln 0 HO_0.out (x2_1 : Int) p13 q13
                        replace p13 := eq_true p13
                        replace q13 := eq_true q13
                        have HP15 := Kd.R_putg HO_0.out (x2_1 : Int) (rd x0_1 (ji3))
                        go_wp2_with (first | ((with_reducible refine gate_store (t := 3) (p := 53) rfl ?_); refine store_event (t := 3) (p := 53) (v := ?vo_w16) (w1 := (wr.setCell ⟨go13, (x2_1 : Int).toNat, none⟩ (.int .i64 (rd x0_1 (ji3))))) ?hg ?ho ?hn ?hr ?_; (case ho => rfl); (case hg => rfl); (case hn => rfl); (case hr => first | (go_simp; done) | (go_simp; rfl)); intro w16 hw; have hg : wr.grownBy w16 (some go13) := (by rw [hw]; exact HP15.2); have hp_ : Kd.R (Kd.int .i64) 3 w16 w0.heap.size (fun k_ => (P0_ k_ ∨ w.heap.size ≤ k_)) (.slice (some ⟨go13, 0, none⟩) x0_1.length co14) y198 := (by rw [hw, Ny198.out]; exact HP15.1); clear HP15; have n0_ := Aside0.mk (hp_); have n1_ := Aside0.mk ((by rw [hw]; exact below_set (HB.out) GB13.out : Below w0.heap.size w0 w16)); have n2_ := Aside0.mk (Kept.of_grown (S := (fun k_ => P0_ k_)) hg (by repeat (first | (with_reducible first | exact HK.out | apply Kept.alloc | apply Kept.drewN | apply Kept.drew) | exact HK.out)) (fun k_ e_ => (HO_0.out.1 k_ e_))); clear HO_0; clear HB; clear HK; have HO_0 := n0_; have HB := n1_; have HK := n2_; clear n0_ n1_ n2_; clear hg hw hp_))
                        go_roundg k1
                        case measure => have := HK1.out; omega
                        case rel => exact ⟨(y198), (ji6), (by first | rfl | (simp; done) | (simp only [← hji6] <;> (first | rfl | simp)) | (simp [*]; done)), (by first | exact H' | (simp only [hji3]; exact H') | (simp only [hji6]; exact H') | (simp only [hji3, hji6]; exact H')), ⟨by have := HK1.out; omega⟩, ⟨by (with_reducible repeat (first | apply Kd.R_alloc | apply Kd.R_drewN | apply Kd.R_drew)); exact HO_0.out⟩, ⟨by repeat (first | (with_reducible first | exact HK.out | apply Kept.alloc | apply Kept.drewN | apply Kept.drew) | exact HK.out)⟩, ⟨by repeat (first | (with_reducible first | exact HB.out | apply below_alloc | apply pw_below_drewN | apply below_drew1) | exact HB.out)⟩⟩
                      · rw [if_neg c12] at H
                        have c12b0 : ((rd x0_1 x2_1) == 5) = false := beq_eq_false_iff_ne.mpr c12
                        have c12b1 : ((rd x0_1 x2_1) != 5) = true := bne_iff_ne.mpr c12
                        by_cases c17 : (rd x0_1 x2_1) = 8
                        · rw [if_pos c17] at H
                          have c17b0 : ((rd x0_1 x2_1) == 8) = true := beq_iff_eq.mpr c17
                          have c17b1 : ((rd x0_1 x2_1) != 8) = false := bne_eq_false_iff_eq.mpr c17
                          clear c17
                          obtain ⟨y200, hy200⟩ : ∃ y_ : List Int, y_ = (x0_1.set (x2_1 : Int).toNat (rd x0_1 (ji3))) := ⟨_, rfl⟩
                          replace H : (spec_l3Between.l0 k1 y200 ji6) = some r := by first | (rw [hy200]; with_reducible exact H) | (have H2_ := (Option.bind_some _ _).symm.trans H; rw [hy200]; with_reducible exact H2_) | (have H2_ := (Option.bind_some _ _).symm.trans H; with_reducible exact H2_) | with_reducible exact H | (rw [hy200]; exact H) | exact H
                          have Ny200 := Aside0.mk hy200
                          clear hy200
                          have H' := Aside0.mk H
                          clear H
                          obtain ⟨Ao19, co19, eo19⟩ := Kd.R_slice HO_0.out
                          subst eo19
                          have p195 : 0 ≤ ((ji3) : Int) := of_decide_eq_true (by first | (with_reducible assumption) | assumption)
                          have q195 : (ji3) < (x0_1.length : Int) := of_decide_eq_true (by first | (with_reducible assumption) | assumption)
                          obtain ⟨ad195, e195, hx195_0⟩ := Kd.at_int (Kd.R_reads' HO_0.out).2.2 (ji3) p195 q195
                          cases e195
                          replace p195 := eq_true p195
                          replace q195 := eq_true q195
                          have p196 : 0 ≤ ((ji6) : Int) := of_decide_eq_true (by first | (with_reducible assumption) | assumption)
                          have q196 : (ji6) < (x0_1.length : Int) := of_decide_eq_true (by first | (with_reducible assumption) | assumption)
                          obtain ⟨ad196, e196, hx196_0⟩ := Kd.at_int (Kd.R_reads' HO_0.out).2.2 (ji6) p196 q196
                          obtain rfl : ad195 = ad196 := (by injection e196)
                          replace p196 := eq_true p196
                          replace q196 := eq_true q196
                          have p197 : 0 ≤ (x2_1 : Int) := of_decide_eq_true (by first | (with_reducible assumption) | assumption)
                          have q197 : x2_1 < (x0_1.length : Int) := of_decide_eq_true (by first | (with_reducible assumption) | assumption)
                          obtain ⟨ad197, e197, hx197_0⟩ := Kd.at_int (Kd.R_reads' HO_0.out).2.2 x2_1 p197 q197
                          obtain rfl : ad195 = ad197 := (by injection e197)
                          replace p197 := eq_true p197
                          replace q197 := eq_true q197
                          have p199 : 0 ≤ (x2_1 : Int) := of_decide_eq_true (by first | (with_reducible assumption) | assumption)
                          have q199 : x2_1 < (x0_1.length : Int) := of_decide_eq_true (by first | (with_reducible assumption) | assumption)
                          obtain ⟨ad199, e199, hx199_0⟩ := Kd.at_int (Kd.R_reads' HO_0.out).2.2 x2_1 p199 q199
                          obtain rfl : ad195 = ad199 := (by injection e199)
                          replace p199 := eq_true p199
                          replace q199 := eq_true q199
                          have p18 : 0 ≤ (x2_1 : Int) := of_decide_eq_true (by first | (with_reducible assumption) | assumption)
                          have q18 : (x2_1 : Int) < ((x0_1.length : Int) : Int) := of_decide_eq_true (by first | (with_reducible assumption) | assumption)
                          obtain ⟨go18, co18, eo18, gb18, gl18, cl18, HG18⟩ := Kd.R_form HO_0.out (by omega)
                          (first | cases eo18 | (injection eo18 with ea_ en_ ec_; (first | subst ea_ | (injection ea_ with ea_; subst ea_)); subst ec_; clear en_))
                          have GB18 := Aside0.mk gb18
                          have GG18 := Aside0.mk HG18
                          clear gb18 gl18 HG18
                          have HMgo18 := Aside0.mk (show (P0_ go18 ∨ w.heap.size ≤ go18) from (HO_0.out.1 _ rfl))
                          (first | simp only [add_plain] at hx195_0 | skip)
                          (first | simp only [add_plain] at hx196_0 | skip)
                          (first | simp only [add_plain] at hx197_0 | skip)
                          (first | simp only [add_plain] at hx199_0 | skip)
                          obtain ⟨hx18_0, hf18_0⟩ := Kd.R_celln 0 HO_0.out (x2_1 : Int) p18 q18
                          replace p18 := eq_true p18
                          replace q18 := eq_true q18
                          have HP20 := Kd.R_putg HO_0.out (x2_1 : Int) (rd x0_1 (ji3))
                          go_wp2_with (first | ((with_reducible refine gate_store (t := 3) (p := 53) rfl ?_); refine store_event (t := 3) (p := 53) (v := ?vo_w21) (w1 := (wr.setCell ⟨go18, (x2_1 : Int).toNat, none⟩ (.int .i64 (rd x0_1 (ji3))))) ?hg ?ho ?hn ?hr ?_; (case ho => rfl); (case hg => rfl); (case hn => rfl); (case hr => first | (go_simp; done) | (go_simp; rfl)); intro w21 hw; have hg : wr.grownBy w21 (some go18) := (by rw [hw]; exact HP20.2); have hp_ : Kd.R (Kd.int .i64) 3 w21 w0.heap.size (fun k_ => (P0_ k_ ∨ w.heap.size ≤ k_)) (.slice (some ⟨go18, 0, none⟩) x0_1.length co19) y200 := (by rw [hw, Ny200.out]; exact HP20.1); clear HP20; have n0_ := Aside0.mk (hp_); have n1_ := Aside0.mk ((by rw [hw]; exact below_set (HB.out) GB18.out : Below w0.heap.size w0 w21)); have n2_ := Aside0.mk (Kept.of_grown (S := (fun k_ => P0_ k_)) hg (by repeat (first | (with_reducible first | exact HK.out | apply Kept.alloc | apply Kept.drewN | apply Kept.drew) | exact HK.out)) (fun k_ e_ => (HO_0.out.1 k_ e_))); clear HO_0; clear HB; clear HK; have HO_0 := n0_; have HB := n1_; have HK := n2_; clear n0_ n1_ n2_; clear hg hw hp_))
                          go_roundg k1
                          case measure => have := HK1.out; omega
                          case rel => exact ⟨(y200), (ji6), (by first | rfl | (simp; done) | (simp only [← hji6] <;> (first | rfl | simp)) | (simp [*]; done)), (by first | exact H' | (simp only [hji3]; exact H') | (simp only [hji6]; exact H') | (simp only [hji3, hji6]; exact H')), ⟨by have := HK1.out; omega⟩, ⟨by (with_reducible repeat (first | apply Kd.R_alloc | apply Kd.R_drewN | apply Kd.R_drew)); exact HO_0.out⟩, ⟨by repeat (first | (with_reducible first | exact HK.out | apply Kept.alloc | apply Kept.drewN | apply Kept.drew) | exact HK.out)⟩, ⟨by repeat (first | (with_reducible first | exact HB.out | apply below_alloc | apply pw_below_drewN | apply below_drew1) | exact HB.out)⟩⟩
                        · rw [if_neg c17] at H
                          have c17b0 : ((rd x0_1 x2_1) == 8) = false := beq_eq_false_iff_ne.mpr c17
                          have c17b1 : ((rd x0_1 x2_1) != 8) = true := bne_iff_ne.mpr c17
                          by_cases c22 : (rd x0_1 (ji3)) = 7
                          · rw [if_pos c22] at H
                            have c22b0 : ((rd x0_1 (ji3)) == 7) = true := beq_iff_eq.mpr c22
                            have c22b1 : ((rd x0_1 (ji3)) != 7) = false := bne_eq_false_iff_eq.mpr c22
                            clear c22
                            have H' := Aside0.mk H
                            clear H
                            obtain ⟨Ao23, co23, eo23⟩ := Kd.R_slice HO_0.out
                            subst eo23
                            have p195 : 0 ≤ ((ji3) : Int) := of_decide_eq_true (by first | (with_reducible assumption) | assumption)
                            have q195 : (ji3) < (x0_1.length : Int) := of_decide_eq_true (by first | (with_reducible assumption) | assumption)
                            obtain ⟨ad195, e195, hx195_0⟩ := Kd.at_int (Kd.R_reads' HO_0.out).2.2 (ji3) p195 q195
                            cases e195
                            replace p195 := eq_true p195
                            replace q195 := eq_true q195
                            have p196 : 0 ≤ ((ji6) : Int) := of_decide_eq_true (by first | (with_reducible assumption) | assumption)
                            have q196 : (ji6) < (x0_1.length : Int) := of_decide_eq_true (by first | (with_reducible assumption) | assumption)
                            obtain ⟨ad196, e196, hx196_0⟩ := Kd.at_int (Kd.R_reads' HO_0.out).2.2 (ji6) p196 q196
                            obtain rfl : ad195 = ad196 := (by injection e196)
                            replace p196 := eq_true p196
                            replace q196 := eq_true q196
                            have p197 : 0 ≤ (x2_1 : Int) := of_decide_eq_true (by first | (with_reducible assumption) | assumption)
                            have q197 : x2_1 < (x0_1.length : Int) := of_decide_eq_true (by first | (with_reducible assumption) | assumption)
                            obtain ⟨ad197, e197, hx197_0⟩ := Kd.at_int (Kd.R_reads' HO_0.out).2.2 x2_1 p197 q197
                            obtain rfl : ad195 = ad197 := (by injection e197)
                            replace p197 := eq_true p197
                            replace q197 := eq_true q197
                            have p199 : 0 ≤ (x2_1 : Int) := of_decide_eq_true (by first | (with_reducible assumption) | assumption)
                            have q199 : x2_1 < (x0_1.length : Int) := of_decide_eq_true (by first | (with_reducible assumption) | assumption)
                            obtain ⟨ad199, e199, hx199_0⟩ := Kd.at_int (Kd.R_reads' HO_0.out).2.2 x2_1 p199 q199
                            obtain rfl : ad195 = ad199 := (by injection e199)
                            replace p199 := eq_true p199
                            replace q199 := eq_true q199
                            have p201 : 0 ≤ (x2_1 : Int) := of_decide_eq_true (by first | (with_reducible assumption) | assumption)
                            have q201 : x2_1 < (x0_1.length : Int) := of_decide_eq_true (by first | (with_reducible assumption) | assumption)
                            obtain ⟨ad201, e201, hx201_0⟩ := Kd.at_int (Kd.R_reads' HO_0.out).2.2 x2_1 p201 q201
                            obtain rfl : ad195 = ad201 := (by injection e201)
                            replace p201 := eq_true p201
                            replace q201 := eq_true q201
                            go_wp2
                            go_roundg k1
                            case measure => have := HK1.out; omega
                            case rel => exact ⟨(x0_1), (ji6), (by first | rfl | (simp; done) | (simp only [← hji6] <;> (first | rfl | simp)) | (simp [*]; done)), (by first | exact H' | (simp only [hji3]; exact H') | (simp only [hji6]; exact H') | (simp only [hji3, hji6]; exact H')), ⟨by have := HK1.out; omega⟩, ⟨by (with_reducible repeat (first | apply Kd.R_alloc | apply Kd.R_drewN | apply Kd.R_drew)); exact HO_0.out⟩, ⟨by repeat (first | (with_reducible first | exact HK.out | apply Kept.alloc | apply Kept.drewN | apply Kept.drew) | exact HK.out)⟩, ⟨by repeat (first | (with_reducible first | exact HB.out | apply below_alloc | apply pw_below_drewN | apply below_drew1) | exact HB.out)⟩⟩
                          · rw [if_neg c22] at H
                            have c22b0 : ((rd x0_1 (ji3)) == 7) = false := beq_eq_false_iff_ne.mpr c22
                            have c22b1 : ((rd x0_1 (ji3)) != 7) = true := bne_iff_ne.mpr c22
                            have H' := Aside0.mk H
                            clear H
                            obtain ⟨Ao24, co24, eo24⟩ := Kd.R_slice HO_0.out
                            subst eo24
                            have p195 : 0 ≤ ((ji3) : Int) := of_decide_eq_true (by first | (with_reducible assumption) | assumption)
                            have q195 : (ji3) < (x0_1.length : Int) := of_decide_eq_true (by first | (with_reducible assumption) | assumption)
                            obtain ⟨ad195, e195, hx195_0⟩ := Kd.at_int (Kd.R_reads' HO_0.out).2.2 (ji3) p195 q195
                            cases e195
                            replace p195 := eq_true p195
                            replace q195 := eq_true q195
                            have p196 : 0 ≤ ((ji6) : Int) := of_decide_eq_true (by first | (with_reducible assumption) | assumption)
                            have q196 : (ji6) < (x0_1.length : Int) := of_decide_eq_true (by first | (with_reducible assumption) | assumption)
                            obtain ⟨ad196, e196, hx196_0⟩ := Kd.at_int (Kd.R_reads' HO_0.out).2.2 (ji6) p196 q196
                            obtain rfl : ad195 = ad196 := (by injection e196)
                            replace p196 := eq_true p196
                            replace q196 := eq_true q196
                            have p197 : 0 ≤ (x2_1 : Int) := of_decide_eq_true (by first | (with_reducible assumption) | assumption)
                            have q197 : x2_1 < (x0_1.length : Int) := of_decide_eq_true (by first | (with_reducible assumption) | assumption)
                            obtain ⟨ad197, e197, hx197_0⟩ := Kd.at_int (Kd.R_reads' HO_0.out).2.2 x2_1 p197 q197
                            obtain rfl : ad195 = ad197 := (by injection e197)
                            replace p197 := eq_true p197
                            replace q197 := eq_true q197
                            have p199 : 0 ≤ (x2_1 : Int) := of_decide_eq_true (by first | (with_reducible assumption) | assumption)
                            have q199 : x2_1 < (x0_1.length : Int) := of_decide_eq_true (by first | (with_reducible assumption) | assumption)
                            obtain ⟨ad199, e199, hx199_0⟩ := Kd.at_int (Kd.R_reads' HO_0.out).2.2 x2_1 p199 q199
                            obtain rfl : ad195 = ad199 := (by injection e199)
                            replace p199 := eq_true p199
                            replace q199 := eq_true q199
                            go_wp2
                            go_roundg k1
                            case measure => have := HK1.out; omega
                            case rel => exact ⟨(x0_1), (ji6), (by first | rfl | (simp; done) | (simp only [← hji6] <;> (first | rfl | simp)) | (simp [*]; done)), (by first | exact H' | (simp only [hji3]; exact H') | (simp only [hji6]; exact H') | (simp only [hji3, hji6]; exact H')), ⟨by have := HK1.out; omega⟩, ⟨by (with_reducible repeat (first | apply Kd.R_alloc | apply Kd.R_drewN | apply Kd.R_drew)); exact HO_0.out⟩, ⟨by repeat (first | (with_reducible first | exact HK.out | apply Kept.alloc | apply Kept.drewN | apply Kept.drew) | exact HK.out)⟩, ⟨by repeat (first | (with_reducible first | exact HB.out | apply below_alloc | apply pw_below_drewN | apply below_drew1) | exact HB.out)⟩⟩
                    · rw [if_neg c11] at H
                      exact absurd H (by simp)
                  · rw [if_neg c10] at H
                    exact absurd H (by simp)
                · rw [if_neg c9] at H
                  have c9b0 : ((rd x0_1 (ji3)) == 4) = false := beq_eq_false_iff_ne.mpr c9
                  have c9b1 : ((rd x0_1 (ji3)) != 4) = true := bne_iff_ne.mpr c9
                  by_cases c25 : (rd x0_1 (ji3)) = 7
                  · rw [if_pos c25] at H
                    have c25b0 : ((rd x0_1 (ji3)) == 7) = true := beq_iff_eq.mpr c25
                    have c25b1 : ((rd x0_1 (ji3)) != 7) = false := bne_eq_false_iff_eq.mpr c25
                    clear c25
                    by_cases c26 : 0 ≤ x2_1
                    · rw [if_pos c26] at H
                      have c26b0 : decide (0 ≤ x2_1) = true := decide_eq_true c26
                      clear c26
                      by_cases c27 : x2_1 < (x0_1.length : Int)
                      · rw [if_pos c27] at H
                        have c27b0 : decide (x2_1 < (x0_1.length : Int)) = true := decide_eq_true c27
                        clear c27
                        by_cases c28 : (rd x0_1 x2_1) = 8
                        · rw [if_pos c28] at H
                          have c28b0 : ((rd x0_1 x2_1) == 8) = true := beq_iff_eq.mpr c28
                          have c28b1 : ((rd x0_1 x2_1) != 8) = false := bne_eq_false_iff_eq.mpr c28
                          clear c28
                          obtain ⟨y203, hy203⟩ : ∃ y_ : List Int, y_ = (x0_1.set (x2_1 : Int).toNat (rd x0_1 (ji3))) := ⟨_, rfl⟩
                          replace H : (spec_l3Between.l0 k1 y203 ji6) = some r := by first | (rw [hy203]; with_reducible exact H) | (have H2_ := (Option.bind_some _ _).symm.trans H; rw [hy203]; with_reducible exact H2_) | (have H2_ := (Option.bind_some _ _).symm.trans H; with_reducible exact H2_) | with_reducible exact H | (rw [hy203]; exact H) | exact H
                          have Ny203 := Aside0.mk hy203
                          clear hy203
                          have H' := Aside0.mk H
                          clear H
                          obtain ⟨Ao30, co30, eo30⟩ := Kd.R_slice HO_0.out
                          subst eo30
                          have p195 : 0 ≤ ((ji3) : Int) := of_decide_eq_true (by first | (with_reducible assumption) | assumption)
                          have q195 : (ji3) < (x0_1.length : Int) := of_decide_eq_true (by first | (with_reducible assumption) | assumption)
                          obtain ⟨ad195, e195, hx195_0⟩ := Kd.at_int (Kd.R_reads' HO_0.out).2.2 (ji3) p195 q195
                          cases e195
                          replace p195 := eq_true p195
                          replace q195 := eq_true q195
                          have p196 : 0 ≤ ((ji6) : Int) := of_decide_eq_true (by first | (with_reducible assumption) | assumption)
                          have q196 : (ji6) < (x0_1.length : Int) := of_decide_eq_true (by first | (with_reducible assumption) | assumption)
                          obtain ⟨ad196, e196, hx196_0⟩ := Kd.at_int (Kd.R_reads' HO_0.out).2.2 (ji6) p196 q196
                          obtain rfl : ad195 = ad196 := (by injection e196)
                          replace p196 := eq_true p196
                          replace q196 := eq_true q196
                          have p202 : 0 ≤ (x2_1 : Int) := of_decide_eq_true (by first | (with_reducible assumption) | assumption)
                          have q202 : x2_1 < (x0_1.length : Int) := of_decide_eq_true (by first | (with_reducible assumption) | assumption)
                          obtain ⟨ad202, e202, hx202_0⟩ := Kd.at_int (Kd.R_reads' HO_0.out).2.2 x2_1 p202 q202
                          obtain rfl : ad195 = ad202 := (by injection e202)
                          replace p202 := eq_true p202
                          replace q202 := eq_true q202
                          have p29 : 0 ≤ (x2_1 : Int) := of_decide_eq_true (by first | (with_reducible assumption) | assumption)
                          have q29 : (x2_1 : Int) < ((x0_1.length : Int) : Int) := of_decide_eq_true (by first | (with_reducible assumption) | assumption)
                          obtain ⟨go29, co29, eo29, gb29, gl29, cl29, HG29⟩ := Kd.R_form HO_0.out (by omega)
                          (first | cases eo29 | (injection eo29 with ea_ en_ ec_; (first | subst ea_ | (injection ea_ with ea_; subst ea_)); subst ec_; clear en_))
                          have GB29 := Aside0.mk gb29
                          have GG29 := Aside0.mk HG29
                          clear gb29 gl29 HG29
                          have HMgo29 := Aside0.mk (show (P0_ go29 ∨ w.heap.size ≤ go29) from (HO_0.out.1 _ rfl))
                          (first | simp only [add_plain] at hx195_0 | skip)
                          (first | simp only [add_plain] at hx196_0 | skip)
                          (first | simp only [add_plain] at hx197_0 | skip)
                          (first | simp only [add_plain] at hx199_0 | skip)
                          (first | simp only [add_plain] at hx201_0 | skip)
                          (first | simp only [add_plain] at hx202_0 | skip)
                          obtain ⟨hx29_0, hf29_0⟩ := Kd.R_celln 0 HO_0.out (x2_1 : Int) p29 q29
                          replace p29 := eq_true p29
                          replace q29 := eq_true q29
                          have HP31 := Kd.R_putg HO_0.out (x2_1 : Int) (rd x0_1 (ji3))
                          go_wp2_with (first | ((with_reducible refine gate_store (t := 3) (p := 53) rfl ?_); refine store_event (t := 3) (p := 53) (v := ?vo_w32) (w1 := (wr.setCell ⟨go29, (x2_1 : Int).toNat, none⟩ (.int .i64 (rd x0_1 (ji3))))) ?hg ?ho ?hn ?hr ?_; (case ho => rfl); (case hg => rfl); (case hn => rfl); (case hr => first | (go_simp; done) | (go_simp; rfl)); intro w32 hw; have hg : wr.grownBy w32 (some go29) := (by rw [hw]; exact HP31.2); have hp_ : Kd.R (Kd.int .i64) 3 w32 w0.heap.size (fun k_ => (P0_ k_ ∨ w.heap.size ≤ k_)) (.slice (some ⟨go29, 0, none⟩) x0_1.length co30) y203 := (by rw [hw, Ny203.out]; exact HP31.1); clear HP31; have n0_ := Aside0.mk (hp_); have n1_ := Aside0.mk ((by rw [hw]; exact below_set (HB.out) GB29.out : Below w0.heap.size w0 w32)); have n2_ := Aside0.mk (Kept.of_grown (S := (fun k_ => P0_ k_)) hg (by repeat (first | (with_reducible first | exact HK.out | apply Kept.alloc | apply Kept.drewN | apply Kept.drew) | exact HK.out)) (fun k_ e_ => (HO_0.out.1 k_ e_))); clear HO_0; clear HB; clear HK; have HO_0 := n0_; have HB := n1_; have HK := n2_; clear n0_ n1_ n2_; clear hg hw hp_))
                          go_roundg k1
                          case measure => have := HK1.out; omega
                          case rel => exact ⟨(y203), (ji6), (by first | rfl | (simp; done) | (simp only [← hji6] <;> (first | rfl | simp)) | (simp [*]; done)), (by first | exact H' | (simp only [hji3]; exact H') | (simp only [hji6]; exact H') | (simp only [hji3, hji6]; exact H')), ⟨by have := HK1.out; omega⟩, ⟨by (with_reducible repeat (first | apply Kd.R_alloc | apply Kd.R_drewN | apply Kd.R_drew)); exact HO_0.out⟩, ⟨by repeat (first | (with_reducible first | exact HK.out | apply Kept.alloc | apply Kept.drewN | apply Kept.drew) | exact HK.out)⟩, ⟨by repeat (first | (with_reducible first | exact HB.out | apply below_alloc | apply pw_below_drewN | apply below_drew1) | exact HB.out)⟩⟩
                        · rw [if_neg c28] at H
                          have c28b0 : ((rd x0_1 x2_1) == 8) = false := beq_eq_false_iff_ne.mpr c28
                          have c28b1 : ((rd x0_1 x2_1) != 8) = true := bne_iff_ne.mpr c28
                          have H' := Aside0.mk H
                          clear H
                          obtain ⟨Ao33, co33, eo33⟩ := Kd.R_slice HO_0.out
                          subst eo33
                          have p195 : 0 ≤ ((ji3) : Int) := of_decide_eq_true (by first | (with_reducible assumption) | assumption)
                          have q195 : (ji3) < (x0_1.length : Int) := of_decide_eq_true (by first | (with_reducible assumption) | assumption)
                          obtain ⟨ad195, e195, hx195_0⟩ := Kd.at_int (Kd.R_reads' HO_0.out).2.2 (ji3) p195 q195
                          cases e195
                          replace p195 := eq_true p195
                          replace q195 := eq_true q195
                          have p196 : 0 ≤ ((ji6) : Int) := of_decide_eq_true (by first | (with_reducible assumption) | assumption)
                          have q196 : (ji6) < (x0_1.length : Int) := of_decide_eq_true (by first | (with_reducible assumption) | assumption)
                          obtain ⟨ad196, e196, hx196_0⟩ := Kd.at_int (Kd.R_reads' HO_0.out).2.2 (ji6) p196 q196
                          obtain rfl : ad195 = ad196 := (by injection e196)
                          replace p196 := eq_true p196
                          replace q196 := eq_true q196
                          have p202 : 0 ≤ (x2_1 : Int) := of_decide_eq_true (by first | (with_reducible assumption) | assumption)
                          have q202 : x2_1 < (x0_1.length : Int) := of_decide_eq_true (by first | (with_reducible assumption) | assumption)
                          obtain ⟨ad202, e202, hx202_0⟩ := Kd.at_int (Kd.R_reads' HO_0.out).2.2 x2_1 p202 q202
                          obtain rfl : ad195 = ad202 := (by injection e202)
                          replace p202 := eq_true p202
                          replace q202 := eq_true q202
                          go_wp2
                          go_roundg k1
                          case measure => have := HK1.out; omega
                          case rel => exact ⟨(x0_1), (ji6), (by first | rfl | (simp; done) | (simp only [← hji6] <;> (first | rfl | simp)) | (simp [*]; done)), (by first | exact H' | (simp only [hji3]; exact H') | (simp only [hji6]; exact H') | (simp only [hji3, hji6]; exact H')), ⟨by have := HK1.out; omega⟩, ⟨by (with_reducible repeat (first | apply Kd.R_alloc | apply Kd.R_drewN | apply Kd.R_drew)); exact HO_0.out⟩, ⟨by repeat (first | (with_reducible first | exact HK.out | apply Kept.alloc | apply Kept.drewN | apply Kept.drew) | exact HK.out)⟩, ⟨by repeat (first | (with_reducible first | exact HB.out | apply below_alloc | apply pw_below_drewN | apply below_drew1) | exact HB.out)⟩⟩
                      · rw [if_neg c27] at H
                        exact absurd H (by simp)
                    · rw [if_neg c26] at H
                      exact absurd H (by simp)
                  · rw [if_neg c25] at H
                    have c25b0 : ((rd x0_1 (ji3)) == 7) = false := beq_eq_false_iff_ne.mpr c25
                    have c25b1 : ((rd x0_1 (ji3)) != 7) = true := bne_iff_ne.mpr c25
                    have H' := Aside0.mk H
                    clear H
                    obtain ⟨Ao34, co34, eo34⟩ := Kd.R_slice HO_0.out
                    subst eo34
                    have p195 : 0 ≤ ((ji3) : Int) := of_decide_eq_true (by first | (with_reducible assumption) | assumption)
                    have q195 : (ji3) < (x0_1.length : Int) := of_decide_eq_true (by first | (with_reducible assumption) | assumption)
                    obtain ⟨ad195, e195, hx195_0⟩ := Kd.at_int (Kd.R_reads' HO_0.out).2.2 (ji3) p195 q195
                    cases e195
                    replace p195 := eq_true p195
                    replace q195 := eq_true q195
                    have p196 : 0 ≤ ((ji6) : Int) := of_decide_eq_true (by first | (with_reducible assumption) | assumption)
                    have q196 : (ji6) < (x0_1.length : Int) := of_decide_eq_true (by first | (with_reducible assumption) | assumption)
                    obtain ⟨ad196, e196, hx196_0⟩ := Kd.at_int (Kd.R_reads' HO_0.out).2.2 (ji6) p196 q196
                    obtain rfl : ad195 = ad196 := (by injection e196)
                    replace p196 := eq_true p196
                    replace q196 := eq_true q196
                    go_wp2
                    go_roundg k1
                    case measure => have := HK1.out; omega
                    case rel => exact ⟨(x0_1), (ji6), (by first | rfl | (simp; done) | (simp only [← hji6] <;> (first | rfl | simp)) | (simp [*]; done)), (by first | exact H' | (simp only [hji3]; exact H') | (simp only [hji6]; exact H') | (simp only [hji3, hji6]; exact H')), ⟨by have := HK1.out; omega⟩, ⟨by (with_reducible repeat (first | apply Kd.R_alloc | apply Kd.R_drewN | apply Kd.R_drew)); exact HO_0.out⟩, ⟨by repeat (first | (with_reducible first | exact HK.out | apply Kept.alloc | apply Kept.drewN | apply Kept.drew) | exact HK.out)⟩, ⟨by repeat (first | (with_reducible first | exact HB.out | apply below_alloc | apply pw_below_drewN | apply below_drew1) | exact HB.out)⟩⟩
              · rw [if_neg c8] at H
                have c8b0 : ((rd x0_1 (ji3)) == (rd x0_1 (ji6))) = false := beq_eq_false_iff_ne.mpr c8
                have c8b1 : ((rd x0_1 (ji3)) != (rd x0_1 (ji6))) = true := bne_iff_ne.mpr c8
                have H' := Aside0.mk H
                clear H
                obtain ⟨Ao35, co35, eo35⟩ := Kd.R_slice HO_0.out
                subst eo35
                have p195 : 0 ≤ ((ji3) : Int) := of_decide_eq_true (by first | (with_reducible assumption) | assumption)
                have q195 : (ji3) < (x0_1.length : Int) := of_decide_eq_true (by first | (with_reducible assumption) | assumption)
                obtain ⟨ad195, e195, hx195_0⟩ := Kd.at_int (Kd.R_reads' HO_0.out).2.2 (ji3) p195 q195
                cases e195
                replace p195 := eq_true p195
                replace q195 := eq_true q195
                have p196 : 0 ≤ ((ji6) : Int) := of_decide_eq_true (by first | (with_reducible assumption) | assumption)
                have q196 : (ji6) < (x0_1.length : Int) := of_decide_eq_true (by first | (with_reducible assumption) | assumption)
                obtain ⟨ad196, e196, hx196_0⟩ := Kd.at_int (Kd.R_reads' HO_0.out).2.2 (ji6) p196 q196
                obtain rfl : ad195 = ad196 := (by injection e196)
                replace p196 := eq_true p196
                replace q196 := eq_true q196
                go_wp2
                go_roundg k1
                case measure => have := HK1.out; omega
                case rel => exact ⟨(x0_1), (ji6), (by first | rfl | (simp; done) | (simp only [← hji6] <;> (first | rfl | simp)) | (simp [*]; done)), (by first | exact H' | (simp only [hji3]; exact H') | (simp only [hji6]; exact H') | (simp only [hji3, hji6]; exact H')), ⟨by have := HK1.out; omega⟩, ⟨by (with_reducible repeat (first | apply Kd.R_alloc | apply Kd.R_drewN | apply Kd.R_drew)); exact HO_0.out⟩, ⟨by repeat (first | (with_reducible first | exact HK.out | apply Kept.alloc | apply Kept.drewN | apply Kept.drew) | exact HK.out)⟩, ⟨by repeat (first | (with_reducible first | exact HB.out | apply below_alloc | apply pw_below_drewN | apply below_drew1) | exact HB.out)⟩⟩
            · rw [if_neg c7] at H
              exact absurd H (by simp)
          · rw [if_neg c5] at H
            exact absurd H (by simp)
        · rw [if_neg c4] at H
          exact absurd H (by simp)
      · rw [if_neg c2] at H
        have c2b0 : decide ((wrap64 (x2_1 + 1)) < (x0_1.length : Int)) = false := decide_eq_false c2
        clear c2
        obtain rfl := Option.some.inj H
        obtain ⟨Ao36, co36, eo36⟩ := Kd.R_slice HO_0.out
        subst eo36
        go_wp2
        first | go_end0 | ((try simp only [Exit.inBlock, Exit.then]); refine bodyPost_ret (results_none rfl _ _ _) rfl ?_)
        exact ⟨by first | rfl | (simp [errW_none, errW_some] <;> rfl) | (simp [*, errW_none, errW_some] <;> rfl), by (with_reducible repeat (first | apply Kd.R_alloc | apply Kd.R_drewN | apply Kd.R_drew)); exact HO_0.out, by repeat (first | (with_reducible first | exact HB.out | apply below_alloc | apply pw_below_drewN | apply below_drew1) | exact HB.out), by repeat (first | (with_reducible first | exact HK.out | apply Kept.alloc | apply Kept.drewN | apply Kept.drew) | exact HK.out)⟩

end Go.Proofs.Ytkapjhlcmicpnaa.PFnLevelPlain
