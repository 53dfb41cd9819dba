-- Written by a program of this session (wip/tools) out of the translation; its shape is that of the kit print.
import Derived.Test.YtmjhdgofepdgkaaPFnExactLevelMatesx0
import Derived.Test.YtmjhdgofepdgkaaPFnExactLevelMatesx1
import Derived.Test.YtmjhdgofepdgkaaPFnExactLevelMatesx4
import Derived.Test.YtmjhdgofepdgkaaPFnExactLevelMatesx6
namespace Go.Proofs.Ytmjhdgofepdgkaa.PFnExactLevelMates
open Go.RowKit Go.Proofs.YtmjhdgofepdgkaaW.PrintWords Go.Proofs.YtmjhdgofepdgkaaW.PrintLast Go.Proofs.YtmjhdgofepdgkaaW.PrintMore
attribute [local go_sem] max2_int min2_int max_two min_two max_three min_three max_four min_four   -- for this text's walks alone
set_option linter.unusedVariables false
set_option linter.unusedSimpArgs false

/-! ### laws_eqIntSS: function 41 -/
def laws_eqIntSS.l0 : Nat → List (List Int) → List (List Int) → Int → Option (Bool)
  | 0, _, _, _ => none
  | k + 1, x0, x1, x5 => if x5 < (x0.length : Int) then (if 0 ≤ x5 then (if x5 < (x1.length : Int) then ((laws_eqIntS.f k (rd_L1 x0 x5) (rd_L1 x1 x5)).bind fun t219 => (if t219 = true then (laws_eqIntSS.l0 k x0 x1 (wrap64 (x5 + 1))) else (some false))) else (none)) else (none)) else (some true)
def laws_eqIntSS.f (k : Nat) (l0 : List (List Int)) (l1 : List (List Int)) : Option (Bool) := if (l0.length : Int) = (l1.length : Int) then (laws_eqIntSS.l0 k l0 l1 0) else (some false)
theorem laws_eqIntSS.mono_l : ∀ k, (∀ y0 y1 y2, LeO (laws_eqIntSS.l0 k y0 y1 y2) (laws_eqIntSS.l0 (k + 1) y0 y1 y2))
  | 0 => fun _ _ _ r h => by simp [laws_eqIntSS.l0] at h
  | k + 1 => by
    have ih0 := laws_eqIntSS.mono_l k
    · intro y0 y1 y2
      unfold laws_eqIntSS.l0
      repeat' first
      | (with_reducible exact ih0 _ _ _)
      | (with_reducible exact laws_eqIntS.mono _ _ _)
      | (with_reducible exact LeO.refl _)
      | (with_reducible exact LeO.none _)
      | (with_reducible refine LeO.ite ?_ ?_)
      | (with_reducible refine LeO.bind ?_ (fun _ => ?_))
      | exact ih0 _ _ _
      | exact laws_eqIntS.mono _ _ _
      | exact LeO.none _
      | refine LeO.ite ?_ ?_
      | refine LeO.bind ?_ (fun _ => ?_)
theorem laws_eqIntSS.mono : ∀ a0 a1 k, LeO (laws_eqIntSS.f k a0 a1) (laws_eqIntSS.f (k + 1) a0 a1) := by
  intro a0 a1 k
  have ih0 := laws_eqIntSS.mono_l k
  unfold laws_eqIntSS.f
  repeat' first
      | (with_reducible exact ih0 _ _ _)
      | (with_reducible exact laws_eqIntS.mono _ _ _)
      | (with_reducible exact LeO.refl _)
      | (with_reducible exact LeO.none _)
      | (with_reducible refine LeO.ite ?_ ?_)
      | (with_reducible refine LeO.bind ?_ (fun _ => ?_))
      | exact ih0 _ _ _
      | exact laws_eqIntS.mono _ _ _
      | exact LeO.none _
      | refine LeO.ite ?_ ?_
      | refine LeO.bind ?_ (fun _ => ?_)
set_option maxHeartbeats 8000000 in
set_option maxRecDepth 100000 in
theorem laws_eqIntSS.calls (k : Nat) (A0 : Option Addr) (c0 : Nat) (l0 : List (List Int)) (A1 : Option Addr) (c1 : Nat) (l1 : List (List Int)) (r : Bool) (w : World) (hr0 : Kd.C (Kd.slice 3 (Kd.int .i64)) w A0 l0.length l0) (hc0 : l0.length ≤ c0) (hr1 : Kd.C (Kd.slice 3 (Kd.int .i64)) w A1 l1.length l1) (hc1 : l1.length ≤ c1) (h : laws_eqIntSS.f k l0 l1 = some r) :
    Calls Try.prog 41 #[.slice A0 l0.length c0, .slice A1 l1.length c1] w fun e w' => e = .returned (.bool r) ∧ Drawn0 w w' := by
  have HR0 := Aside0.mk hr0
  have HC0 := Aside0.mk hc0
  clear hr0 hc0
  have HR1 := Aside0.mk hr1
  have HC1 := Aside0.mk hc1
  clear hr1 hc1
  have H : (if (l0.length : Int) = (l1.length : Int) then (laws_eqIntSS.l0 k l0 l1 0) else (some false)) = some r := h
  clear h
  by_cases c3 : (l0.length : Int) = (l1.length : Int)
  · rw [if_pos c3] at H
    have c3b0 : ((l0.length : Int) == (l1.length : Int)) = true := beq_iff_eq.mpr c3
    have c3b1 : ((l0.length : Int) != (l1.length : Int)) = false := bne_eq_false_iff_eq.mpr c3
    have c3b2 : (l0.length == l1.length) = true := by first | simpa using c3 | (simp at c3 ⊢; omega)
    clear c3
    have H' := Aside0.mk H
    clear H
    go_enter Try.func41, Try.ntmps41
    go_wp2
    repeat (go_quiet (fail); try go_wp2)
    go_loopg [5] k (fun kq v5 w' => ∃ (x5_1 : Int), v5 = .int .i64 x5_1 ∧ Aside0 (laws_eqIntSS.l0 kq l0 l1 x5_1 = some r) ∧ Aside0 (kq ≤ k) ∧ Drawn0 w w')
    case atStart => exact ⟨(0), (by first | rfl | (simp; done) | (simp [*]; done)), H', ⟨Nat.le_refl _⟩, by repeat (first | exact Drawn0.refl _ | apply Drawn0.step)⟩
    case round =>
      clear H'
      try clear c1
      try clear p2
      try clear c3
      try clear c3b0
      try clear c3b1
      try clear c3b2
      obtain ⟨x5_1, rfl, HA, HK1, ⟨m1, rfl⟩⟩ := hrel
      cases gk with
      | zero => exact absurd HA.out (by simp [laws_eqIntSS.l0])
      | succ k1 =>
        have H := HA.out
        clear HA
        simp only [laws_eqIntSS.l0] at H
        by_cases c4 : x5_1 < (l0.length : Int)
        · rw [if_pos c4] at H
          have c4b0 : decide (x5_1 < (l0.length : Int)) = true := decide_eq_true c4
          clear c4
          by_cases c5 : 0 ≤ x5_1
          · rw [if_pos c5] at H
            have c5b0 : decide (0 ≤ x5_1) = true := decide_eq_true c5
            clear c5
            by_cases c6 : x5_1 < (l1.length : Int)
            · rw [if_pos c6] at H
              have c6b0 : decide (x5_1 < (l1.length : Int)) = true := decide_eq_true c6
              clear c6
              replace H := Option.bind_eq_some_iff.mp H
              obtain ⟨t219, A70, H⟩ := H
              replace H : (if t219 = true then (laws_eqIntSS.l0 k1 l0 l1 (wrap64 (x5_1 + 1))) else (some false)) = some r := H
              have A7 := Aside0.mk A70
              clear A70
              by_cases c8 : t219 = true
              · subst c8
                have H1 : (laws_eqIntSS.l0 k1 l0 l1 (wrap64 (x5_1 + 1))) = some r := by rw [if_pos rfl] at H; exact H
                clear H
                have H := H1
                clear H1
                have H' := Aside0.mk H
                clear H
                have p217 : 0 ≤ (x5_1 : Int) := of_decide_eq_true (by first | (with_reducible assumption) | assumption)
                have q217 : x5_1 < (l0.length : Int) := of_decide_eq_true (by first | (with_reducible assumption) | assumption)
                obtain ⟨ad217, A217_0, c217_0, e217, hx217_0, hl217_0, hi217_0⟩ := at_L1 HR0.out x5_1 p217 q217
                cases e217
                have HR217_0 := Aside0.mk hi217_0
                have HC217_0 := Aside0.mk hl217_0
                clear hi217_0 hl217_0
                replace p217 := eq_true p217
                replace q217 := eq_true q217
                have p218 : 0 ≤ (x5_1 : Int) := of_decide_eq_true (by first | (with_reducible assumption) | assumption)
                have q218 : x5_1 < (l1.length : Int) := of_decide_eq_true (by first | (with_reducible assumption) | assumption)
                obtain ⟨ad218, A218_0, c218_0, e218, hx218_0, hl218_0, hi218_0⟩ := at_L1 HR1.out x5_1 p218 q218
                cases e218
                have HR218_0 := Aside0.mk hi218_0
                have HC218_0 := Aside0.mk hl218_0
                clear hi218_0 hl218_0
                replace p218 := eq_true p218
                replace q218 := eq_true q218
                go_wp2_with (first | (go_at_call 19; (with_reducible refine (laws_eqIntS.calls k1 _ _ (rd_L1 l0 x5_1) _ _ (rd_L1 l1 x5_1) true _ ?side1 ?side2 ?side3 ?side4 A7.out).mono ?_); (case side1 => repeat (first | exact HR217_0.out | (with_reducible refine Kd.C_alloc ?_ _) | (with_reducible refine Kd.C_drewN ?_ _) | (with_reducible refine Kd.C_drew ?_))); (case side2 => exact HC217_0.out); (case side3 => repeat (first | exact HR218_0.out | (with_reducible refine Kd.C_alloc ?_ _) | (with_reducible refine Kd.C_drewN ?_ _) | (with_reducible refine Kd.C_drew ?_))); (case side4 => exact HC218_0.out); rintro e w' ⟨rfl, ⟨nd, rfl⟩⟩; (try first | exact ⟨rfl, _, World.drewN_drewN _ _ _⟩ | exact ⟨rfl, _, Eq.trans (World.drewN_drewN _ _ _) (congrArg (World.drewN _) (Nat.add_assoc _ _ _))⟩)))
                repeat (go_quiet (first | (go_at_call 19; (with_reducible refine (laws_eqIntS.calls k1 _ _ (rd_L1 l0 x5_1) _ _ (rd_L1 l1 x5_1) true _ ?side1 ?side2 ?side3 ?side4 A7.out).mono ?_); (case side1 => repeat (first | exact HR217_0.out | (with_reducible refine Kd.C_alloc ?_ _) | (with_reducible refine Kd.C_drewN ?_ _) | (with_reducible refine Kd.C_drew ?_))); (case side2 => exact HC217_0.out); (case side3 => repeat (first | exact HR218_0.out | (with_reducible refine Kd.C_alloc ?_ _) | (with_reducible refine Kd.C_drewN ?_ _) | (with_reducible refine Kd.C_drew ?_))); (case side4 => exact HC218_0.out); rintro e w' ⟨rfl, ⟨nd, rfl⟩⟩; (try first | exact ⟨rfl, _, World.drewN_drewN _ _ _⟩ | exact ⟨rfl, _, Eq.trans (World.drewN_drewN _ _ _) (congrArg (World.drewN _) (Nat.add_assoc _ _ _))⟩))); try go_wp2_with (first | (go_at_call 19; (with_reducible refine (laws_eqIntS.calls k1 _ _ (rd_L1 l0 x5_1) _ _ (rd_L1 l1 x5_1) true _ ?side1 ?side2 ?side3 ?side4 A7.out).mono ?_); (case side1 => repeat (first | exact HR217_0.out | (with_reducible refine Kd.C_alloc ?_ _) | (with_reducible refine Kd.C_drewN ?_ _) | (with_reducible refine Kd.C_drew ?_))); (case side2 => exact HC217_0.out); (case side3 => repeat (first | exact HR218_0.out | (with_reducible refine Kd.C_alloc ?_ _) | (with_reducible refine Kd.C_drewN ?_ _) | (with_reducible refine Kd.C_drew ?_))); (case side4 => exact HC218_0.out); rintro e w' ⟨rfl, ⟨nd, rfl⟩⟩; (try first | exact ⟨rfl, _, World.drewN_drewN _ _ _⟩ | exact ⟨rfl, _, Eq.trans (World.drewN_drewN _ _ _) (congrArg (World.drewN _) (Nat.add_assoc _ _ _))⟩))))
                go_roundg k1
                case measure => have := HK1.out; omega
                case rel => exact ⟨(wrap64 (x5_1 + 1)), (by first | rfl | (simp; done) | (simp [*]; done)), H', ⟨by have := HK1.out; omega⟩, by repeat (first | exact Drawn0.refl _ | apply Drawn0.step)⟩
              · replace c8 := Bool.eq_false_iff.mpr c8
                subst c8
                have H1 : (some false) = some r := by rw [if_neg (show ¬ (false = true) by decide)] at H; exact H
                clear H
                have H := H1
                clear H1
                obtain rfl := Option.some.inj H
                have p217 : 0 ≤ (x5_1 : Int) := of_decide_eq_true (by first | (with_reducible assumption) | assumption)
                have q217 : x5_1 < (l0.length : Int) := of_decide_eq_true (by first | (with_reducible assumption) | assumption)
                obtain ⟨ad217, A217_0, c217_0, e217, hx217_0, hl217_0, hi217_0⟩ := at_L1 HR0.out x5_1 p217 q217
                cases e217
                have HR217_0 := Aside0.mk hi217_0
                have HC217_0 := Aside0.mk hl217_0
                clear hi217_0 hl217_0
                replace p217 := eq_true p217
                replace q217 := eq_true q217
                have p218 : 0 ≤ (x5_1 : Int) := of_decide_eq_true (by first | (with_reducible assumption) | assumption)
                have q218 : x5_1 < (l1.length : Int) := of_decide_eq_true (by first | (with_reducible assumption) | assumption)
                obtain ⟨ad218, A218_0, c218_0, e218, hx218_0, hl218_0, hi218_0⟩ := at_L1 HR1.out x5_1 p218 q218
                cases e218
                have HR218_0 := Aside0.mk hi218_0
                have HC218_0 := Aside0.mk hl218_0
                clear hi218_0 hl218_0
                replace p218 := eq_true p218
                replace q218 := eq_true q218
                go_wp2_with (first | (go_at_call 19; (with_reducible refine (laws_eqIntS.calls k1 _ _ (rd_L1 l0 x5_1) _ _ (rd_L1 l1 x5_1) false _ ?side1 ?side2 ?side3 ?side4 A7.out).mono ?_); (case side1 => repeat (first | exact HR217_0.out | (with_reducible refine Kd.C_alloc ?_ _) | (with_reducible refine Kd.C_drewN ?_ _) | (with_reducible refine Kd.C_drew ?_))); (case side2 => exact HC217_0.out); (case side3 => repeat (first | exact HR218_0.out | (with_reducible refine Kd.C_alloc ?_ _) | (with_reducible refine Kd.C_drewN ?_ _) | (with_reducible refine Kd.C_drew ?_))); (case side4 => exact HC218_0.out); rintro e w' ⟨rfl, ⟨nd, rfl⟩⟩; (try first | exact ⟨rfl, _, World.drewN_drewN _ _ _⟩ | exact ⟨rfl, _, Eq.trans (World.drewN_drewN _ _ _) (congrArg (World.drewN _) (Nat.add_assoc _ _ _))⟩)))
                repeat (go_quiet (first | (go_at_call 19; (with_reducible refine (laws_eqIntS.calls k1 _ _ (rd_L1 l0 x5_1) _ _ (rd_L1 l1 x5_1) false _ ?side1 ?side2 ?side3 ?side4 A7.out).mono ?_); (case side1 => repeat (first | exact HR217_0.out | (with_reducible refine Kd.C_alloc ?_ _) | (with_reducible refine Kd.C_drewN ?_ _) | (with_reducible refine Kd.C_drew ?_))); (case side2 => exact HC217_0.out); (case side3 => repeat (first | exact HR218_0.out | (with_reducible refine Kd.C_alloc ?_ _) | (with_reducible refine Kd.C_drewN ?_ _) | (with_reducible refine Kd.C_drew ?_))); (case side4 => exact HC218_0.out); rintro e w' ⟨rfl, ⟨nd, rfl⟩⟩; (try first | exact ⟨rfl, _, World.drewN_drewN _ _ _⟩ | exact ⟨rfl, _, Eq.trans (World.drewN_drewN _ _ _) (congrArg (World.drewN _) (Nat.add_assoc _ _ _))⟩))); try go_wp2_with (first | (go_at_call 19; (with_reducible refine (laws_eqIntS.calls k1 _ _ (rd_L1 l0 x5_1) _ _ (rd_L1 l1 x5_1) false _ ?side1 ?side2 ?side3 ?side4 A7.out).mono ?_); (case side1 => repeat (first | exact HR217_0.out | (with_reducible refine Kd.C_alloc ?_ _) | (with_reducible refine Kd.C_drewN ?_ _) | (with_reducible refine Kd.C_drew ?_))); (case side2 => exact HC217_0.out); (case side3 => repeat (first | exact HR218_0.out | (with_reducible refine Kd.C_alloc ?_ _) | (with_reducible refine Kd.C_drewN ?_ _) | (with_reducible refine Kd.C_drew ?_))); (case side4 => exact HC218_0.out); rintro e w' ⟨rfl, ⟨nd, rfl⟩⟩; (try first | exact ⟨rfl, _, World.drewN_drewN _ _ _⟩ | exact ⟨rfl, _, Eq.trans (World.drewN_drewN _ _ _) (congrArg (World.drewN _) (Nat.add_assoc _ _ _))⟩))))
                go_ret
                exact ⟨by first | rfl | (simp; done) | (simp [*]; done), by repeat (first | exact Drawn0.refl _ | apply Drawn0.step)⟩
            · rw [if_neg c6] at H
              exact absurd H (by simp)
          · rw [if_neg c5] at H
            exact absurd H (by simp)
        · rw [if_neg c4] at H
          have c4b0 : decide (x5_1 < (l0.length : Int)) = false := decide_eq_false c4
          clear c4
          obtain rfl := Option.some.inj H
          go_wp2
          repeat (go_quiet (fail); try go_wp2)
          go_ret
          exact ⟨by first | rfl | (simp; done) | (simp [*]; done), by repeat (first | exact Drawn0.refl _ | apply Drawn0.step)⟩
  · rw [if_neg c3] at H
    have c3b0 : ((l0.length : Int) == (l1.length : Int)) = false := beq_eq_false_iff_ne.mpr c3
    have c3b1 : ((l0.length : Int) != (l1.length : Int)) = true := bne_iff_ne.mpr c3
    have c3b2 : (l0.length == l1.length) = false := by first | simpa using c3 | (simp at c3 ⊢; omega)
    obtain rfl := Option.some.inj H
    go_enter Try.func41, Try.ntmps41
    go_wp2
    repeat (go_quiet (fail); try go_wp2)
    go_ret
    exact ⟨by first | rfl | (simp; done) | (simp [*]; done), by repeat (first | exact Drawn0.refl _ | apply Drawn0.step)⟩

def laws_markIntSS.l0 : Nat → List (List Int) → Int → Int → Option (Int × List (List Int))
  | 0, _, _, _ => none
  | k + 1, x0, x1, x5 => if x5 < (x0.length : Int) then (if 0 ≤ x5 then ((laws_markIntS.f k (rd_L1 x0 x5) x1).bind fun t => laws_markIntSS.l0 k (x0.set x5.toNat t.2) t.1 (wrap64 (x5 + 1))) else none) else (some (x1, x0))
def laws_markIntSS.f (k : Nat) (l0 : List (List Int)) (a1 : Int) : Option (Int × List (List Int)) := laws_markIntSS.l0 k l0 a1 0
theorem laws_markIntSS.mono_l : ∀ k, ∀ y0 y1 y2, LeO (laws_markIntSS.l0 k y0 y1 y2) (laws_markIntSS.l0 (k + 1) y0 y1 y2)
  | 0, _, _, _ => fun r h => by simp [laws_markIntSS.l0] at h
  | k + 1, y0, y1, y2 => by
    rw [laws_markIntSS.l0, laws_markIntSS.l0]
    exact LeO.ite (LeO.ite (LeO.bind (laws_markIntS.mono _ _ _) (fun t => laws_markIntSS.mono_l k _ _ _)) (LeO.refl _)) (LeO.refl _)
theorem laws_markIntSS.mono : ∀ a0 a1 k, LeO (laws_markIntSS.f k a0 a1) (laws_markIntSS.f (k + 1) a0 a1) := fun a0 a1 k => laws_markIntSS.mono_l k a0 a1 0
set_option maxHeartbeats 1000000 in
set_option maxRecDepth 100000 in
theorem laws_markIntSS.calls (k : Nat) (okp : Nat → Prop) (v : Value) (l0 : List (List Int)) (a1 r1 : Int) (r2 : List (List Int)) (w0 w : World) (hB : Below w0.heap.size w0 w) (ho : Kd.S (Kd.slice 3 (Kd.int .i64)) 22 w w0.heap.size okp v l0) (hlen : l0.length < 17592186044416) (h : laws_markIntSS.f k l0 a1 = some (r1, r2)) :
    Calls Try.prog 42 #[v, .int .i64 a1] w fun e w' => e = .returned (.int .i64 r1) ∧ Kd.S (Kd.slice 3 (Kd.int .i64)) 22 w' w0.heap.size okp v r2 ∧ Below w0.heap.size w0 w' ∧ Kept w w' okp := by
  have hu48 := Try.underlying48
  have hu22 := Try.underlying22
  obtain ⟨A, c, e⟩ := Kd.S_slice ho
  subst e
  have HO := Aside0.mk ho
  have HB := Aside0.mk hB
  have HL := Aside0.mk hlen
  have HH := Aside0.mk (show laws_markIntSS.l0 k l0 a1 0 = some (r1, r2) from h)
  clear ho hB hlen h
  go_enter Try.func42, Try.ntmps42
  go_wp2
  go_loopg [1, 5] k (fun kq v1 v5 wr => ∃ (i : Nat) (m : Int) (rows : List (List Int)), v1 = .int .i64 m ∧ v5 = .int .i64 (i : Int) ∧ Aside0 (laws_markIntSS.l0 kq rows m (i : Int) = some (r1, r2)) ∧ Aside0 (rows.length = l0.length) ∧ Aside0 (Kd.S (Kd.slice 3 (Kd.int .i64)) 22 wr w0.heap.size okp (.slice A l0.length c) rows) ∧ Aside0 (Below w0.heap.size w0 wr) ∧ Aside0 (Kept w wr okp))
  case atStart => exact ⟨0, a1, l0, rfl, rfl, HH, ⟨rfl⟩, HO, HB, ⟨Kept.refl _ _⟩⟩
  case round =>
    clear HO HB HH
    obtain ⟨i, m, rows, rfl, rfl, HH, HN, HO, HB, HK⟩ := hrel
    cases gk with
    | zero => exact absurd HH.out (by simp [laws_markIntSS.l0])
    | succ k1 =>
      have h := HH.out
      clear HH
      rw [laws_markIntSS.l0] at h
      by_cases hi : i < l0.length
      · have hdec : decide ((i : Int) < (l0.length : Int)) = true := decide_eq_true (by omega)
        have p1 : (0 : Int) ≤ (i : Int) := by omega
        have p2 : (i : Int) < (l0.length : Int) := by omega
        rw [if_pos (by rw [HN.out]; exact p2), if_pos p1] at h
        obtain ⟨t, ht, h2⟩ := Option.bind_eq_some_iff.mp h
        obtain ⟨t1, t2⟩ := t
        clear h
        obtain ⟨g, cap, e1, _⟩ := Kd.S_form HO.out (by rw [HN.out]; omega)
        injection e1 with e1 e2 e3
        subst e1
        clear e2 e3
        obtain ⟨oki, cc, hcl, hM, hcc, hoki, hH⟩ := Kd.S_lend HO.out [] (i : Int) p1 (by simpa using hi)
        obtain ⟨u, rfl, hR⟩ := hM
        have hx : wr.cell? ⟨g, i, none⟩ = some u := by
          have := hcc 0 u rfl
          rw [show (i : Int).toNat * (Kd.slice 3 (Kd.int .i64)).sz + 0 = i from by show (i : Int).toNat * 1 + 0 = i; omega] at this
          exact this
        have hwr : wrap64 ((i : Int) + 1) = ((i + 1 : Nat) : Int) := by have := HL.out; unfold wrap64; omega
        have HT := Aside0.mk ht
        have H2 := Aside0.mk h2
        have HR := Aside0.mk hR
        have HHH := Aside0.mk hH
        have HOK := Aside0.mk hoki
        have HWR := Aside0.mk hwr
        have hcall := laws_markIntS.calls k1 oki u (rd_L1 rows (i : Int)) m t1 t2 w0 wr HB.out (show Kd.R (Kd.int .i64) 3 wr w0.heap.size oki u (rd_L1 rows (i : Int)) from hR) ht
        have HC := Aside0.mk hcall
        clear ht h2 hR hH hoki hcc hcl hwr hcall
        go_wp2_with (go_at_call 21; refine HC.out.mono ?_; rintro e w5 ⟨rfl, hr5, hb5, hk5⟩; have HB5 := Aside0.mk hb5; have HR5 := Aside0.mk hr5; have HK5 := Aside0.mk hk5; clear hr5 hb5 hk5)
        go_roundg k1
        case measure => omega
        case rel =>
          have hH5 := Kd.H_step (w1 := w5) HHH.out (fun k _ hn hlt => HK5.out.2 k hlt hn)
          have hM5 : (Kd.slice 3 (Kd.int .i64)).M w5 w0.heap.size (fun k => some k = u.ownBlock) t2 [u] := ⟨u, rfl, Kd.R_tight rfl HR5.out⟩
          have hS5 : Kd.S (Kd.slice 3 (Kd.int .i64)) 22 w5 w0.heap.size okp (.slice (some ⟨g, 0, none⟩) l0.length c) (rows.set (i : Int).toNat t2) := Kd.H_back hH5 hM5 (fun k hk => HR.out.1 k hk.symm)
          have hl2 : laws_markIntSS.l0 k1 (rows.set (i : Int).toNat t2) t1 ((i + 1 : Nat) : Int) = some (r1, r2) := by rw [← HWR.out]; exact H2.out
          exact ⟨i + 1, t1, rows.set (i : Int).toNat t2, rfl, by rw [← HWR.out], ⟨hl2⟩, ⟨by simpa using HN.out⟩, ⟨hS5⟩, HB5, ⟨HK.out.then_ HK5.out (fun k hk => .inl (HOK.out k hk).1)⟩⟩
      · have hdec : decide ((i : Int) < (l0.length : Int)) = false := decide_eq_false (by omega)
        rw [if_neg (by rw [HN.out]; omega)] at h
        simp only [Option.some.injEq, Prod.mk.injEq] at h
        obtain ⟨rfl, rfl⟩ := h
        go_wp2
        go_ret
        exact ⟨rfl, HO.out, HB.out, HK.out⟩


/-! ### laws_heldIntSS: function 43 -/
def laws_heldIntSS.l0 : Nat → List (List Int) → Int → Int → Option (Int)
  | 0, _, _, _ => none
  | k + 1, x0, x1, x5 => if x5 < (x0.length : Int) then (if 0 ≤ x5 then ((laws_heldIntS.f k (rd_L1 x0 x5) x1).bind fun t221 => (if t221 < 0 then (some (-1)) else (laws_heldIntSS.l0 k x0 t221 (wrap64 (x5 + 1))))) else (none)) else (some x1)
def laws_heldIntSS.f (k : Nat) (l0 : List (List Int)) (a1 : Int) : Option (Int) := laws_heldIntSS.l0 k l0 a1 0
theorem laws_heldIntSS.mono_l : ∀ k, (∀ y0 y1 y2, LeO (laws_heldIntSS.l0 k y0 y1 y2) (laws_heldIntSS.l0 (k + 1) y0 y1 y2))
  | 0 => fun _ _ _ r h => by simp [laws_heldIntSS.l0] at h
  | k + 1 => by
    have ih0 := laws_heldIntSS.mono_l k
    · intro y0 y1 y2
      unfold laws_heldIntSS.l0
      repeat' first
      | (with_reducible exact ih0 _ _ _)
      | (with_reducible exact laws_heldIntS.mono _ _ _)
      | (with_reducible exact LeO.refl _)
      | (with_reducible exact LeO.none _)
      | (with_reducible refine LeO.ite ?_ ?_)
      | (with_reducible refine LeO.bind ?_ (fun _ => ?_))
      | exact ih0 _ _ _
      | exact laws_heldIntS.mono _ _ _
      | exact LeO.none _
      | refine LeO.ite ?_ ?_
      | refine LeO.bind ?_ (fun _ => ?_)
theorem laws_heldIntSS.mono : ∀ a0 a1 k, LeO (laws_heldIntSS.f k a0 a1) (laws_heldIntSS.f (k + 1) a0 a1) := by
  intro a0 a1 k
  have ih0 := laws_heldIntSS.mono_l k
  unfold laws_heldIntSS.f
  repeat' first
      | (with_reducible exact ih0 _ _ _)
      | (with_reducible exact laws_heldIntS.mono _ _ _)
      | (with_reducible exact LeO.refl _)
      | (with_reducible exact LeO.none _)
      | (with_reducible refine LeO.ite ?_ ?_)
      | (with_reducible refine LeO.bind ?_ (fun _ => ?_))
      | exact ih0 _ _ _
      | exact laws_heldIntS.mono _ _ _
      | exact LeO.none _
      | refine LeO.ite ?_ ?_
      | refine LeO.bind ?_ (fun _ => ?_)
set_option maxHeartbeats 8000000 in
set_option maxRecDepth 100000 in
theorem laws_heldIntSS.calls (k : Nat) (A0 : Option Addr) (c0 : Nat) (l0 : List (List Int)) (a1 : Int) (r : Int) (w : World) (hr0 : Kd.C (Kd.slice 3 (Kd.int .i64)) w A0 l0.length l0) (hc0 : l0.length ≤ c0) (h : laws_heldIntSS.f k l0 a1 = some r) :
    Calls Try.prog 43 #[.slice A0 l0.length c0, .int .i64 a1] w fun e w' => e = .returned (.int .i64 r) ∧ Drawn0 w w' := by
  have HR0 := Aside0.mk hr0
  have HC0 := Aside0.mk hc0
  clear hr0 hc0
  have H : (laws_heldIntSS.l0 k l0 a1 0) = some r := h
  clear h
  have H' := Aside0.mk H
  clear H
  go_enter Try.func43, Try.ntmps43
  go_wp2
  go_loopg [1, 5] k (fun kq v1 v5 w' => ∃ (x1_1 : Int) (x5_1 : Int), v1 = .int .i64 x1_1 ∧ v5 = .int .i64 x5_1 ∧ Aside0 (laws_heldIntSS.l0 kq l0 x1_1 x5_1 = some r) ∧ Aside0 (kq ≤ k) ∧ Drawn0 w w')
  case atStart => exact ⟨(a1), (0), (by first | rfl | (simp; done) | (simp [*]; done)), (by first | rfl | (simp; done) | (simp [*]; done)), H', ⟨Nat.le_refl _⟩, by repeat (first | exact Drawn0.refl _ | apply Drawn0.step)⟩
  case round =>
    clear H'
    try clear p2
    obtain ⟨x1_1, x5_1, rfl, rfl, HA, HK1, ⟨m1, rfl⟩⟩ := hrel
    cases gk with
    | zero => exact absurd HA.out (by simp [laws_heldIntSS.l0])
    | succ k1 =>
      have H := HA.out
      clear HA
      simp only [laws_heldIntSS.l0] at H
      by_cases c3 : x5_1 < (l0.length : Int)
      · rw [if_pos c3] at H
        have c3b0 : decide (x5_1 < (l0.length : Int)) = true := decide_eq_true c3
        clear c3
        by_cases c4 : 0 ≤ x5_1
        · rw [if_pos c4] at H
          have c4b0 : decide (0 ≤ x5_1) = true := decide_eq_true c4
          clear c4
          replace H := Option.bind_eq_some_iff.mp H
          obtain ⟨t221, A50, H⟩ := H
          replace H : (if t221 < 0 then (some (-1)) else (laws_heldIntSS.l0 k1 l0 t221 (wrap64 (x5_1 + 1)))) = some r := H
          have A5 := Aside0.mk A50
          clear A50
          by_cases c6 : t221 < 0
          · rw [if_pos c6] at H
            have c6b0 : decide (t221 < 0) = true := decide_eq_true c6
            clear c6
            obtain rfl := Option.some.inj H
            have p220 : 0 ≤ (x5_1 : Int) := of_decide_eq_true (by first | (with_reducible assumption) | assumption)
            have q220 : x5_1 < (l0.length : Int) := of_decide_eq_true (by first | (with_reducible assumption) | assumption)
            obtain ⟨ad220, A220_0, c220_0, e220, hx220_0, hl220_0, hi220_0⟩ := at_L1 HR0.out x5_1 p220 q220
            cases e220
            have HR220_0 := Aside0.mk hi220_0
            have HC220_0 := Aside0.mk hl220_0
            clear hi220_0 hl220_0
            replace p220 := eq_true p220
            replace q220 := eq_true q220
            go_wp2_with (first | ((with_reducible refine gate_callee (f := 23) rfl ?_); refine goesL_ (some 17) rfl rfl Try.func23 (by kernel_rfl) rfl #[.slice A220_0 (rd_L1 l0 x5_1).length c220_0, .int .i64 x1_1] rfl (by (try simp only [List.map_toArray, List.map_cons, List.map_nil]); first | done | rfl | (simp only [List.length_drop, List.length_take]; rfl)) ?_; (with_reducible refine (laws_heldIntS.calls k1 _ _ (rd_L1 l0 x5_1) x1_1 t221 _ ?side1 ?side2 A5.out).mono ?_); (case side1 => repeat (first | exact HR220_0.out | (with_reducible refine Kd.C_alloc ?_ _) | (with_reducible refine Kd.C_drewN ?_ _) | (with_reducible refine Kd.C_drew ?_))); (case side2 => exact HC220_0.out); rintro e w' ⟨rfl, ⟨nd, rfl⟩⟩; refine ⟨_, rfl, ?_⟩))
            go_ret
            exact ⟨by first | rfl | (simp; done) | (simp [*]; done), by repeat (first | exact Drawn0.refl _ | apply Drawn0.step)⟩
          · rw [if_neg c6] at H
            have c6b0 : decide (t221 < 0) = false := decide_eq_false c6
            clear c6
            have H' := Aside0.mk H
            clear H
            have p220 : 0 ≤ (x5_1 : Int) := of_decide_eq_true (by first | (with_reducible assumption) | assumption)
            have q220 : x5_1 < (l0.length : Int) := of_decide_eq_true (by first | (with_reducible assumption) | assumption)
            obtain ⟨ad220, A220_0, c220_0, e220, hx220_0, hl220_0, hi220_0⟩ := at_L1 HR0.out x5_1 p220 q220
            cases e220
            have HR220_0 := Aside0.mk hi220_0
            have HC220_0 := Aside0.mk hl220_0
            clear hi220_0 hl220_0
            replace p220 := eq_true p220
            replace q220 := eq_true q220
            go_wp2_with (first | ((with_reducible refine gate_callee (f := 23) rfl ?_); refine goesL_ (some 17) rfl rfl Try.func23 (by kernel_rfl) rfl #[.slice A220_0 (rd_L1 l0 x5_1).length c220_0, .int .i64 x1_1] rfl (by (try simp only [List.map_toArray, List.map_cons, List.map_nil]); first | done | rfl | (simp only [List.length_drop, List.length_take]; rfl)) ?_; (with_reducible refine (laws_heldIntS.calls k1 _ _ (rd_L1 l0 x5_1) x1_1 t221 _ ?side1 ?side2 A5.out).mono ?_); (case side1 => repeat (first | exact HR220_0.out | (with_reducible refine Kd.C_alloc ?_ _) | (with_reducible refine Kd.C_drewN ?_ _) | (with_reducible refine Kd.C_drew ?_))); (case side2 => exact HC220_0.out); rintro e w' ⟨rfl, ⟨nd, rfl⟩⟩; refine ⟨_, rfl, ?_⟩))
            go_roundg k1
            case measure => have := HK1.out; omega
            case rel => exact ⟨(t221), (wrap64 (x5_1 + 1)), (by first | rfl | (simp; done) | (simp [*]; done)), (by first | rfl | (simp; done) | (simp [*]; done)), H', ⟨by have := HK1.out; omega⟩, by repeat (first | exact Drawn0.refl _ | apply Drawn0.step)⟩
        · rw [if_neg c4] at H
          exact absurd H (by simp)
      · rw [if_neg c3] at H
        have c3b0 : decide (x5_1 < (l0.length : Int)) = false := decide_eq_false c3
        clear c3
        obtain rfl := Option.some.inj H
        go_wp2
        go_ret
        exact ⟨by first | rfl | (simp; done) | (simp [*]; done), by repeat (first | exact Drawn0.refl _ | apply Drawn0.step)⟩

/-- what the law's own functions answer -/
structure laws_FnExactLevelMates.Facts (k : Nat) (l0 l1 l0' l1' : List Int) (ms ms' : List (List Int)) (q1 q2 m : Int) : Prop where
  t0 : laws_toIntS.f k l0 = some l0
  t1 : laws_toIntS.f k l1 = some l1
  sp : spec_LevelMates.f k l0 l1 = some ms
  im : impl_LevelMates.f k l0 l1 = some ms
  e0 : laws_eqIntSS.f k ms ms = some true
  e1 : laws_eqIntS.f k l0 l0 = some true
  e2 : laws_eqIntS.f k l1 l1 = some true
  k1 : laws_markIntS.f k l0 1 = some (q1, l0')
  k2 : laws_markIntS.f k l1 q1 = some (q2, l1')
  ks : laws_markIntSS.f k ms 1 = some (m, ms')
  h : laws_heldIntSS.f k ms' 1 = some m
  len : ms.length < 17592186044416
  n : ms'.length = ms.length
  p : 0 ≤ q2
  pm : 0 ≤ m
set_option maxHeartbeats 16000000 in
set_option maxRecDepth 100000 in
theorem laws_FnExactLevelMates.path (k : Nat) (A0 : Option Addr) (c0 : Nat) (l0 : List Int) (A1 : Option Addr) (c1 : Nat) (l1 l0' l1' : List Int) (ms ms' : List (List Int)) (q1 q2 m : Int) (w : World) (hr0 : Kd.C (Kd.int .i64) w A0 l0.length l0) (hc0 : l0.length ≤ c0) (hr1 : Kd.C (Kd.int .i64) w A1 l1.length l1) (hc1 : l1.length ≤ c1) (b0 : (l0.length : Int) ≤ 1048576) (b1 : (l1.length : Int) ≤ 1048576) (h : laws_FnExactLevelMates.Facts k l0 l1 l0' l1' ms ms' q1 q2 m) :
    Calls Try.prog 11 #[.slice A0 l0.length c0, .slice A1 l1.length c1] w fun e w' => e = .returned (.bool true) ∧ Below w.heap.size w w' := by
  have x0 : decide (1048576 < (l0.length : Int)) = false := decide_eq_false (by omega)
  have x1 : decide (1048576 < (l1.length : Int)) = false := decide_eq_false (by omega)
  have x2 : decide (q2 < 0) = false := decide_eq_false (by have := h.p; omega)
  have x3 : decide (m < 0) = false := decide_eq_false (by have := h.pm; omega)
  have x4 : (m != m) = false := by simp
  have C0 := Aside0.mk hr0
  have C1 := Aside0.mk hr1
  have D0 := Aside0.mk hc0
  have D1 := Aside0.mk hc1
  have F := Aside0.mk h
  have HB := Aside0.mk (Below.refl w.heap.size w)
  have T1 := Aside0.mk True.intro
  have T2 := Aside0.mk True.intro
  have T3 := Aside0.mk True.intro
  have T4 := Aside0.mk True.intro
  have T5 := Aside0.mk True.intro
  have T6 := Aside0.mk True.intro
  have T7 := Aside0.mk True.intro
  have T8 := Aside0.mk True.intro
  have T9 := Aside0.mk True.intro
  have T10 := Aside0.mk True.intro
  have T11 := Aside0.mk True.intro
  have T12 := Aside0.mk True.intro
  have T13 := Aside0.mk True.intro
  have T14 := Aside0.mk True.intro
  have T15 := Aside0.mk True.intro
  have T16 := Aside0.mk True.intro
  have T17 := Aside0.mk True.intro
  have T18 := Aside0.mk True.intro
  have T19 := Aside0.mk True.intro
  have T20 := Aside0.mk True.intro
  have T21 := Aside0.mk True.intro
  clear hr0 hr1 hc0 hc1 b0 b1 h
  go_enter Try.func11, Try.ntmps11
  go_wp2_with (first
    | (go_at_call 16; have tk_ := T1.out; refine (laws_toIntS.calls k A0 c0 l0 l0 _ (Kd.C_below C0.out HB.out) D0.out F.out.t0).mono ?_; clear tk_ T1; rintro e_ w1 ⟨v_, rfl, hr, hb⟩; have HBn := Aside0.mk (below_step HB.out hb); have HSn := Aside0.mk hb.size; clear HB; have HB := HBn; clear HBn; have Z1 := HSn; clear HSn; obtain ⟨B1, d1, e1, g1, f1⟩ := Kd.R_reads hr; subst e1; have H1 := Aside0.mk f1; have G1 := Aside0.mk g1; clear hr hb g1 f1)
    | (go_at_call 16; have tk_ := T2.out; refine (laws_toIntS.calls k A1 c1 l1 l1 _ (Kd.C_below C1.out HB.out) D1.out F.out.t1).mono ?_; clear tk_ T2; rintro e_ w2 ⟨v_, rfl, hr, hb⟩; have HBn := Aside0.mk (below_step HB.out hb); have HSn := Aside0.mk hb.size; have H1n := Aside0.mk (Kd.C_below H1.out hb); clear HB H1; have HB := HBn; have H1 := H1n; clear HBn H1n; have Z2 := HSn; clear HSn; obtain ⟨B2, d2, e2, g2, f2⟩ := Kd.R_reads hr; subst e2; have H2 := Aside0.mk f2; have G2 := Aside0.mk g2; clear hr hb g2 f2)
    | (go_at_call 39; have tk_ := T3.out; refine (spec_LevelMates.calls k _ _ l0 _ _ l1 ms _ H1.out G1.out H2.out G2.out F.out.sp).mono ?_; clear tk_ T3; rintro e_ w3 ⟨v_, rfl, hr, hb⟩; have HBn := Aside0.mk (below_step HB.out hb); have HSn := Aside0.mk hb.size; have H1n := Aside0.mk (Kd.C_below H1.out hb); have H2n := Aside0.mk (Kd.C_below H2.out hb); clear HB H1 H2; have HB := HBn; have H1 := H1n; have H2 := H2n; clear HBn H1n H2n; have Z3 := HSn; clear HSn; obtain ⟨B3, d3, e3, g3, _⟩ := id (Kd.N_V (base' := 0) hr); subst e3; have V3 := Aside0.mk (Kd.V_mono (ok' := (fun k => w2.heap.size ≤ k ∧ k < w3.heap.size)) (Kd.V_bound (Kd.N_V (base' := 0) hr)) (fun k hk => hk)); have G3 := Aside0.mk g3; clear hr hb g3; clear H1 H2)
    | (go_at_call 16; have tk_ := T4.out; refine (laws_toIntS.calls k A0 c0 l0 l0 _ (Kd.C_below C0.out HB.out) D0.out F.out.t0).mono ?_; clear tk_ T4; rintro e_ w4 ⟨v_, rfl, hr, hb⟩; have HBn := Aside0.mk (below_step HB.out hb); have HSn := Aside0.mk hb.size; have V3n := Aside0.mk (Kd.V_below V3.out hb); clear HB V3; have HB := HBn; have V3 := V3n; clear HBn V3n; have Z4 := HSn; clear HSn; obtain ⟨B4, d4, e4, g4, _⟩ := Kd.R_reads hr; subst e4; have R4 := Aside0.mk (Kd.R_mono (ok' := (fun k => w3.heap.size ≤ k ∧ k < w4.heap.size)) (Kd.R_bound hr) (fun k hk => ⟨hk.2.1, hk.2.2.1⟩)); have G4 := Aside0.mk g4; clear hr hb g4)
    | (go_at_call 16; have tk_ := T5.out; refine (laws_toIntS.calls k A1 c1 l1 l1 _ (Kd.C_below C1.out HB.out) D1.out F.out.t1).mono ?_; clear tk_ T5; rintro e_ w5 ⟨v_, rfl, hr, hb⟩; have HBn := Aside0.mk (below_step HB.out hb); have HSn := Aside0.mk hb.size; have V3n := Aside0.mk (Kd.V_below V3.out hb); have R4n := Aside0.mk (Kd.R_below R4.out hb); clear HB V3 R4; have HB := HBn; have V3 := V3n; have R4 := R4n; clear HBn V3n R4n; have Z5 := HSn; clear HSn; obtain ⟨B5, d5, e5, g5, _⟩ := Kd.R_reads hr; subst e5; have R5 := Aside0.mk (Kd.R_mono (ok' := (fun k => w4.heap.size ≤ k ∧ k < w5.heap.size)) (Kd.R_bound hr) (fun k hk => ⟨hk.2.1, hk.2.2.1⟩)); have G5 := Aside0.mk g5; clear hr hb g5)
    | (go_at_call 40; have tk_ := T6.out; refine (impl_LevelMates.calls k _ _ l0 _ _ l1 ms _ (Kd.R_reads' R4.out).2.2 G4.out (Kd.R_reads' R5.out).2.2 G5.out F.out.im).mono ?_; clear tk_ T6; rintro e_ w6 ⟨v_, rfl, hr, hb⟩; have HBn := Aside0.mk (below_step HB.out hb); have HSn := Aside0.mk hb.size; have V3n := Aside0.mk (Kd.V_below V3.out hb); have R4n := Aside0.mk (Kd.R_below R4.out hb); have R5n := Aside0.mk (Kd.R_below R5.out hb); clear HB V3 R4 R5; have HB := HBn; have V3 := V3n; have R4 := R4n; have R5 := R5n; clear HBn V3n R4n R5n; have Z6 := HSn; clear HSn; obtain ⟨B6, d6, e6, g6, _⟩ := Kd.S_reads hr; subst e6; have S6 := Aside0.mk (Kd.S_mono (ok' := (fun k => w5.heap.size ≤ k ∧ k < w6.heap.size)) (Kd.S_bound hr) (fun k hk => ⟨hk.2.1, hk.2.2.1⟩)); have G6 := Aside0.mk g6; clear hr hb g6)
    | (go_at_call 41; have tk_ := T7.out; refine (laws_eqIntSS.calls k _ _ ms _ _ ms true _ (Kd.S_reads' S6.out).2.2 G6.out (Kd.V_reads' V3.out).2.2 G3.out F.out.e0).mono ?_; clear tk_ T7; rintro e_ w7 ⟨rfl, hd⟩; have hb := hd.below; clear hd; have HBn := Aside0.mk (below_step HB.out hb); have HSn := Aside0.mk hb.size; have V3n := Aside0.mk (Kd.V_below V3.out hb); have R4n := Aside0.mk (Kd.R_below R4.out hb); have R5n := Aside0.mk (Kd.R_below R5.out hb); have S6n := Aside0.mk (Kd.S_below S6.out hb); clear HB V3 R4 R5 S6; have HB := HBn; have V3 := V3n; have R4 := R4n; have R5 := R5n; have S6 := S6n; clear HBn V3n R4n R5n S6n; have Z7 := HSn; clear HSn; clear hb)
    | (go_at_call 16; have tk_ := T8.out; refine (laws_toIntS.calls k A0 c0 l0 l0 _ (Kd.C_below C0.out HB.out) D0.out F.out.t0).mono ?_; clear tk_ T8; rintro e_ w8 ⟨v_, rfl, hr, hb⟩; have HBn := Aside0.mk (below_step HB.out hb); have HSn := Aside0.mk hb.size; have V3n := Aside0.mk (Kd.V_below V3.out hb); have R4n := Aside0.mk (Kd.R_below R4.out hb); have R5n := Aside0.mk (Kd.R_below R5.out hb); have S6n := Aside0.mk (Kd.S_below S6.out hb); clear HB V3 R4 R5 S6; have HB := HBn; have V3 := V3n; have R4 := R4n; have R5 := R5n; have S6 := S6n; clear HBn V3n R4n R5n S6n; have Z8 := HSn; clear HSn; obtain ⟨B8, d8, e8, g8, f8⟩ := Kd.R_reads hr; subst e8; have H8 := Aside0.mk f8; have G8 := Aside0.mk g8; clear hr hb g8 f8)
    | (go_at_call 19; have tk_ := T9.out; refine (laws_eqIntS.calls k _ _ l0 _ _ l0 true _ (Kd.R_reads' R4.out).2.2 G4.out H8.out G8.out F.out.e1).mono ?_; clear tk_ T9; rintro e_ w9 ⟨rfl, hd⟩; have hb := hd.below; clear hd; have HBn := Aside0.mk (below_step HB.out hb); have HSn := Aside0.mk hb.size; have V3n := Aside0.mk (Kd.V_below V3.out hb); have R4n := Aside0.mk (Kd.R_below R4.out hb); have R5n := Aside0.mk (Kd.R_below R5.out hb); have S6n := Aside0.mk (Kd.S_below S6.out hb); have H8n := Aside0.mk (Kd.C_below H8.out hb); clear HB V3 R4 R5 S6 H8; have HB := HBn; have V3 := V3n; have R4 := R4n; have R5 := R5n; have S6 := S6n; have H8 := H8n; clear HBn V3n R4n R5n S6n H8n; have Z9 := HSn; clear HSn; clear hb; clear H8)
    | (go_at_call 16; have tk_ := T10.out; refine (laws_toIntS.calls k A1 c1 l1 l1 _ (Kd.C_below C1.out HB.out) D1.out F.out.t1).mono ?_; clear tk_ T10; rintro e_ w10 ⟨v_, rfl, hr, hb⟩; have HBn := Aside0.mk (below_step HB.out hb); have HSn := Aside0.mk hb.size; have V3n := Aside0.mk (Kd.V_below V3.out hb); have R4n := Aside0.mk (Kd.R_below R4.out hb); have R5n := Aside0.mk (Kd.R_below R5.out hb); have S6n := Aside0.mk (Kd.S_below S6.out hb); clear HB V3 R4 R5 S6; have HB := HBn; have V3 := V3n; have R4 := R4n; have R5 := R5n; have S6 := S6n; clear HBn V3n R4n R5n S6n; have Z10 := HSn; clear HSn; obtain ⟨B10, d10, e10, g10, f10⟩ := Kd.R_reads hr; subst e10; have H10 := Aside0.mk f10; have G10 := Aside0.mk g10; clear hr hb g10 f10)
    | (go_at_call 19; have tk_ := T11.out; refine (laws_eqIntS.calls k _ _ l1 _ _ l1 true _ (Kd.R_reads' R5.out).2.2 G5.out H10.out G10.out F.out.e2).mono ?_; clear tk_ T11; rintro e_ w11 ⟨rfl, hd⟩; have hb := hd.below; clear hd; have HBn := Aside0.mk (below_step HB.out hb); have HSn := Aside0.mk hb.size; have V3n := Aside0.mk (Kd.V_below V3.out hb); have R4n := Aside0.mk (Kd.R_below R4.out hb); have R5n := Aside0.mk (Kd.R_below R5.out hb); have S6n := Aside0.mk (Kd.S_below S6.out hb); have H10n := Aside0.mk (Kd.C_below H10.out hb); clear HB V3 R4 R5 S6 H10; have HB := HBn; have V3 := V3n; have R4 := R4n; have R5 := R5n; have S6 := S6n; have H10 := H10n; clear HBn V3n R4n R5n S6n H10n; have Z11 := HSn; clear HSn; clear hb; clear H10)
    | (go_at_call 21; have tk_ := T12.out; refine (laws_markIntS.calls k (fun k => w3.heap.size ≤ k ∧ k < w4.heap.size) _ _ 1 q1 l0' w _ HB.out (Kd.R_lower R4.out (by have z1 := Z1.out; have z2 := Z2.out; have z3 := Z3.out; omega)) F.out.k1).mono ?_; clear tk_ T12; rintro e_ w12 ⟨rfl, _, hB, hk⟩; have HBn := Aside0.mk hB; have HSn := Aside0.mk hk.1; have V3n := Aside0.mk (Kd.V_kept V3.out hk (fun k hx hy => by have h1 := hx; have h2 := hy; have z1 := Z1.out; have z2 := Z2.out; have z3 := Z3.out; have z4 := Z4.out; have z5 := Z5.out; have z6 := Z6.out; omega)); have R5n := Aside0.mk (Kd.R_step (w1 := w12) R5.out (fun k hk_ hlt => hk.2 k hlt ((fun k hx hy => by have h1 := hx; have h2 := hy; have z1 := Z1.out; have z2 := Z2.out; have z3 := Z3.out; have z4 := Z4.out; have z5 := Z5.out; have z6 := Z6.out; omega) k hk_))); have S6n := Aside0.mk (Kd.S_step (w1 := w12) S6.out (fun k hk_ hlt => hk.2 k hlt ((fun k hx hy => by have h1 := hx; have h2 := hy; have z1 := Z1.out; have z2 := Z2.out; have z3 := Z3.out; have z4 := Z4.out; have z5 := Z5.out; have z6 := Z6.out; omega) k hk_))); clear HB V3 R5 S6; have HB := HBn; have V3 := V3n; have R5 := R5n; have S6 := S6n; clear HBn V3n R5n S6n; have Z12 := HSn; clear HSn; clear hB hk R4)
    | (go_at_call 21; have tk_ := T13.out; refine (laws_markIntS.calls k (fun k => w4.heap.size ≤ k ∧ k < w5.heap.size) _ _ q1 q2 l1' w _ HB.out (Kd.R_lower R5.out (by have z1 := Z1.out; have z2 := Z2.out; have z3 := Z3.out; have z4 := Z4.out; omega)) F.out.k2).mono ?_; clear tk_ T13; rintro e_ w13 ⟨rfl, _, hB, hk⟩; have HBn := Aside0.mk hB; have HSn := Aside0.mk hk.1; have V3n := Aside0.mk (Kd.V_kept V3.out hk (fun k hx hy => by have h1 := hx; have h2 := hy; have z1 := Z1.out; have z2 := Z2.out; have z3 := Z3.out; have z4 := Z4.out; have z5 := Z5.out; have z6 := Z6.out; omega)); have S6n := Aside0.mk (Kd.S_step (w1 := w13) S6.out (fun k hk_ hlt => hk.2 k hlt ((fun k hx hy => by have h1 := hx; have h2 := hy; have z1 := Z1.out; have z2 := Z2.out; have z3 := Z3.out; have z4 := Z4.out; have z5 := Z5.out; have z6 := Z6.out; omega) k hk_))); clear HB V3 S6; have HB := HBn; have V3 := V3n; have S6 := S6n; clear HBn V3n S6n; have Z13 := HSn; clear HSn; clear hB hk R5)
    | (go_at_call 41; have tk_ := T14.out; refine (laws_eqIntSS.calls k _ _ ms _ _ ms true _ (Kd.S_reads' S6.out).2.2 G6.out (Kd.V_reads' V3.out).2.2 G3.out F.out.e0).mono ?_; clear tk_ T14; rintro e_ w14 ⟨rfl, hd⟩; have hb := hd.below; clear hd; have HBn := Aside0.mk (below_step HB.out hb); have HSn := Aside0.mk hb.size; have V3n := Aside0.mk (Kd.V_below V3.out hb); have S6n := Aside0.mk (Kd.S_below S6.out hb); clear HB V3 S6; have HB := HBn; have V3 := V3n; have S6 := S6n; clear HBn V3n S6n; have Z14 := HSn; clear HSn; clear hb)
    | (go_at_call 42; have tk_ := T15.out; refine (laws_markIntSS.calls k (fun k => w5.heap.size ≤ k ∧ k < w6.heap.size) _ ms 1 m ms' w _ HB.out (Kd.S_lower S6.out (by have z1 := Z1.out; have z2 := Z2.out; have z3 := Z3.out; have z4 := Z4.out; have z5 := Z5.out; omega)) F.out.len F.out.ks).mono ?_; clear tk_ T15; rintro e_ w15 ⟨rfl, hs, hB, hk⟩; have HBn := Aside0.mk hB; have HSn := Aside0.mk hk.1; have V3n := Aside0.mk (Kd.V_kept V3.out hk (fun k hx hy => by have h1 := hx; have h2 := hy; have z1 := Z1.out; have z2 := Z2.out; have z3 := Z3.out; have z4 := Z4.out; have z5 := Z5.out; have z6 := Z6.out; omega)); clear HB V3; have HB := HBn; have V3 := V3n; clear HBn V3n; have Z15 := HSn; clear HSn; have S15 := Aside0.mk hs; clear hB hk hs S6)
    | (go_at_call 43; have tk_ := T16.out; have hc_ := laws_heldIntSS.calls k B6 d6 ms' 1 m _ (Kd.S_reads' S15.out).2.2 (by rw [F.out.n]; exact G6.out) F.out.h; rw [F.out.n] at hc_; refine hc_.mono ?_; clear tk_ T16 hc_; rintro e_ w16 ⟨rfl, hd⟩; have hb := hd.below; clear hd; have HBn := Aside0.mk (below_step HB.out hb); have HSn := Aside0.mk hb.size; have V3n := Aside0.mk (Kd.V_below V3.out hb); have S15n := Aside0.mk (Kd.S_below S15.out hb); clear HB V3 S15; have HB := HBn; have V3 := V3n; have S15 := S15n; clear HBn V3n S15n; have Z16 := HSn; clear HSn; clear hb)
    | (go_at_call 16; have tk_ := T17.out; refine (laws_toIntS.calls k A0 c0 l0 l0 _ (Kd.C_below C0.out HB.out) D0.out F.out.t0).mono ?_; clear tk_ T17; rintro e_ w17 ⟨v_, rfl, hr, hb⟩; have HBn := Aside0.mk (below_step HB.out hb); have HSn := Aside0.mk hb.size; have V3n := Aside0.mk (Kd.V_below V3.out hb); have S15n := Aside0.mk (Kd.S_below S15.out hb); clear HB V3 S15; have HB := HBn; have V3 := V3n; have S15 := S15n; clear HBn V3n S15n; have Z17 := HSn; clear HSn; obtain ⟨B17, d17, e17, g17, f17⟩ := Kd.R_reads hr; subst e17; have H17 := Aside0.mk f17; have G17 := Aside0.mk g17; clear hr hb g17 f17)
    | (go_at_call 16; have tk_ := T18.out; refine (laws_toIntS.calls k A1 c1 l1 l1 _ (Kd.C_below C1.out HB.out) D1.out F.out.t1).mono ?_; clear tk_ T18; rintro e_ w18 ⟨v_, rfl, hr, hb⟩; have HBn := Aside0.mk (below_step HB.out hb); have HSn := Aside0.mk hb.size; have V3n := Aside0.mk (Kd.V_below V3.out hb); have S15n := Aside0.mk (Kd.S_below S15.out hb); have H17n := Aside0.mk (Kd.C_below H17.out hb); clear HB V3 S15 H17; have HB := HBn; have V3 := V3n; have S15 := S15n; have H17 := H17n; clear HBn V3n S15n H17n; have Z18 := HSn; clear HSn; obtain ⟨B18, d18, e18, g18, f18⟩ := Kd.R_reads hr; subst e18; have H18 := Aside0.mk f18; have G18 := Aside0.mk g18; clear hr hb g18 f18)
    | (go_at_call 40; have tk_ := T19.out; refine (impl_LevelMates.calls k _ _ l0 _ _ l1 ms _ H17.out G17.out H18.out G18.out F.out.im).mono ?_; clear tk_ T19; rintro e_ w19 ⟨v_, rfl, hr, hb⟩; have HBn := Aside0.mk (below_step HB.out hb); have HSn := Aside0.mk hb.size; have V3n := Aside0.mk (Kd.V_below V3.out hb); have S15n := Aside0.mk (Kd.S_below S15.out hb); have H17n := Aside0.mk (Kd.C_below H17.out hb); have H18n := Aside0.mk (Kd.C_below H18.out hb); clear HB V3 S15 H17 H18; have HB := HBn; have V3 := V3n; have S15 := S15n; have H17 := H17n; have H18 := H18n; clear HBn V3n S15n H17n H18n; have Z19 := HSn; clear HSn; obtain ⟨B19, d19, e19, g19, _⟩ := Kd.S_reads hr; subst e19; have S19 := Aside0.mk (Kd.S_mono (ok' := (fun k => w18.heap.size ≤ k ∧ k < w19.heap.size)) (Kd.S_bound hr) (fun k hk => ⟨hk.2.1, hk.2.2.1⟩)); have G19 := Aside0.mk g19; clear hr hb g19; clear H17 H18)
    | (go_at_call 41; have tk_ := T20.out; refine (laws_eqIntSS.calls k _ _ ms _ _ ms true _ (Kd.S_reads' S19.out).2.2 G19.out (Kd.V_reads' V3.out).2.2 G3.out F.out.e0).mono ?_; clear tk_ T20; rintro e_ w20 ⟨rfl, hd⟩; have hb := hd.below; clear hd; have HBn := Aside0.mk (below_step HB.out hb); have HSn := Aside0.mk hb.size; have V3n := Aside0.mk (Kd.V_below V3.out hb); have S15n := Aside0.mk (Kd.S_below S15.out hb); have S19n := Aside0.mk (Kd.S_below S19.out hb); clear HB V3 S15 S19; have HB := HBn; have V3 := V3n; have S15 := S15n; have S19 := S19n; clear HBn V3n S15n S19n; have Z20 := HSn; clear HSn; clear hb)
    | (go_at_call 43; have tk_ := T21.out; have hc_ := laws_heldIntSS.calls k B6 d6 ms' 1 m _ (Kd.S_reads' S15.out).2.2 (by rw [F.out.n]; exact G6.out) F.out.h; rw [F.out.n] at hc_; refine hc_.mono ?_; clear tk_ T21 hc_; rintro e_ w21 ⟨rfl, hd⟩; have hb := hd.below; clear hd; have HBn := Aside0.mk (below_step HB.out hb); have HSn := Aside0.mk hb.size; have V3n := Aside0.mk (Kd.V_below V3.out hb); have S15n := Aside0.mk (Kd.S_below S15.out hb); have S19n := Aside0.mk (Kd.S_below S19.out hb); clear HB V3 S15 S19; have HB := HBn; have V3 := V3n; have S15 := S15n; have S19 := S19n; clear HBn V3n S15n S19n; have Z21 := HSn; clear HSn; clear hb))
  go_ret
  exact ⟨rfl, HB.out⟩
def laws_FnExactLevelMates.Pure : Prop := ∀ (l0 : List Int) (l1 : List Int), l0.length ≤ maxLen → l0.length * 8 ≤ 140737488351232 → (∀ x ∈ l0, (Lit.int .i64 x).wf = true) → l1.length ≤ maxLen → l1.length * 8 ≤ 140737488351232 → (∀ x ∈ l1, (Lit.int .i64 x).wf = true) → (l0.length : Int) ≤ 1048576 → (l1.length : Int) ≤ 1048576 →
  ∃ (k : Nat) (l0' l1' : List Int) (ms ms' : List (List Int)) (q1 q2 m : Int), laws_FnExactLevelMates.Facts k l0 l1 l0' l1' ms ms' q1 q2 m
set_option maxHeartbeats 4000000 in
set_option maxRecDepth 100000 in
theorem laws_FnExactLevelMates.walk (P : laws_FnExactLevelMates.Pure) (a0 : Option Addr) (len0 cap0 : Nat) (z0 : List Int) (a1 : Option Addr) (len1 cap1 : Nat) (z1 : List Int) (w : World) (w0 : (a0 = none ∧ len0 = 0 ∧ cap0 = 0 ∧ z0 = []) ∨ ∃ x, a0 = some x ∧ len0 ≤ cap0 ∧ cap0 ≤ maxLen ∧ z0.length = cap0 ∧ (∀ i, i < z0.length → w.cell? (x.add i) = some (.int .i64 (z0.getD i 0))) ∧ ∀ n ∈ z0, (Lit.int .i64 n).wf = true) (y0 : len0 * 8 ≤ 140737488351232) (w1 : (a1 = none ∧ len1 = 0 ∧ cap1 = 0 ∧ z1 = []) ∨ ∃ x, a1 = some x ∧ len1 ≤ cap1 ∧ cap1 ≤ maxLen ∧ z1.length = cap1 ∧ (∀ i, i < z1.length → w.cell? (x.add i) = some (.int .i64 (z1.getD i 0))) ∧ ∀ n ∈ z1, (Lit.int .i64 n).wf = true) (y1 : len1 * 8 ≤ 140737488351232) :
    Calls Try.prog 11 #[.slice a0 len0 cap0, .slice a1 len1 cap1] w fun e w' => e = .returned (.bool true) ∧ Below w.heap.size w w' := by
  obtain ⟨l0, rfl, hr0, hm0, hw0, hc0⟩ := ReadsInt.ofRowC w0
  obtain ⟨l1, rfl, hr1, hm1, hw1, hc1⟩ := ReadsInt.ofRowC w1
  by_cases b0 : (l0.length : Int) ≤ 1048576
  · by_cases b1 : (l1.length : Int) ≤ 1048576
    · obtain ⟨k, l0', l1', ms, ms', q1, q2, m, h⟩ := P l0 l1 hm0 y0 hw0 hm1 y1 hw1 b0 b1
      exact laws_FnExactLevelMates.path k _ _ l0 _ _ l1 l0' l1' ms ms' q1 q2 m w (Kd.C_of_reads (d := (0 : Int)) (h1 := fun _ => rfl) hr0) hc0 (Kd.C_of_reads (d := (0 : Int)) (h1 := fun _ => rfl) hr1) hc1 b0 b1 h
    · have x0 : decide (1048576 < (l0.length : Int)) = false := decide_eq_false (by omega)
      have x1 : decide (1048576 < (l1.length : Int)) = true := decide_eq_true (by omega)
      clear hr0 hm0 hw0 hc0 hr1 hm1 hw1 hc1 w0 w1 y0 y1 b0 b1
      go_enter Try.func11, Try.ntmps11
      go_wp2
      go_ret
      exact ⟨rfl, Below.refl _ _⟩
  · have x0 : decide (1048576 < (l0.length : Int)) = true := decide_eq_true (by omega)
    clear hr0 hm0 hw0 hc0 hr1 hm1 hw1 hc1 w0 w1 y0 y1 b0
    go_enter Try.func11, Try.ntmps11
    go_wp2
    go_ret
    exact ⟨rfl, Below.refl _ _⟩


end Go.Proofs.Ytmjhdgofepdgkaa.PFnExactLevelMates
