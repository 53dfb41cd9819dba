-- Written by a program of this session (wip/tools) out of the translation; its shape is that of the kit print.
import Derived.Test.YtmjhdgofepdgkaaPFnExactFillCostx0
import Derived.Test.YtmjhdgofepdgkaaPFnExactFillCostx2
import Derived.Test.YtmjhdgofepdgkaaPFnExactFillCostx5
import Derived.Test.YtmjhdgofepdgkaaPFnExactFillCostx6
import Derived.Test.YtmjhdgofepdgkaaPFnExactFillCostx10
import Derived.Test.YtmjhdgofepdgkaaPFnExactFillCostx11
import Derived.Test.YtmjhdgofepdgkaaPFnExactFillCostx12
namespace Go.Proofs.Ytmjhdgofepdgkaa.PFnExactFillCost
open Go.RowKit Go.Proofs.YtmjhdgofepdgkaaW.PrintWords Go.Proofs.YtmjhdgofepdgkaaW.PrintLast Go.Proofs.YtmjhdgofepdgkaaW.PrintMore
attribute [local go_sem] zbb zcb zjb zkb zxa zya zdb zeb
set_option linter.unusedVariables false
set_option maxHeartbeats 8000000
set_option maxRecDepth 100000
set_option linter.unusedSimpArgs false
def spec_l7All.f (k : Nat) (l0 : List Int) (l1 : List (S40)) (a2 : Int) : Option (Bool) := (spec_l1Ok.f k l0).bind fun t278 => (if t278 = true then ((spec_SpansOk.f k l1 (l0.length : Int)).bind fun t279 => (if t279 = true then ((spec_l1In.f a2 0 20000).bind fun t280 => (some t280)) else (some false))) else (some false))
theorem spec_l7All.calls (k : Nat) (A0 : Option Addr) (c0 : Nat) (l0 : List Int) (A1 : Option Addr) (c1 : Nat) (l1 : List (S40)) (a2 : Int) (r : Bool) (w : World) (hr0 : Kd.C (Kd.int .i64) w A0 l0.length l0) (hc0 : l0.length ≤ c0) (hr1 : Kd.C k40 w A1 l1.length l1) (hc1 : l1.length ≤ c1) (h : spec_l7All.f k l0 l1 a2 = some r) :
  Calls Try.prog 86 #[.slice A0 l0.length c0, .slice A1 l1.length c1, .int .i64 a2] w fun e w' => e = .returned (.bool r) ∧ Below w.heap.size w w' := by
 have HR0 := za.mk hr0
 have HC0 := za.mk hc0
 clear hr0 hc0
 have HR1 := za.mk hr1
 have HC1 := za.mk hc1
 clear hr1 hc1
 have HB := za.mk (Below.refl w.heap.size w)
 have H : ((spec_l1Ok.f k l0).bind fun t278 => (if t278 = true then ((spec_SpansOk.f k l1 (l0.length : Int)).bind fun t279 => (if t279 = true then ((spec_l1In.f a2 0 20000).bind fun t280 => (some t280)) else (some false))) else (some false))) = some r := h
 clear h
 replace H := Option.bind_eq_some_iff.mp H
 obtain ⟨t278, A40, H⟩ := H
 replace H : (if t278 = true then ((spec_SpansOk.f k l1 (l0.length : Int)).bind fun t279 => (if t279 = true then ((spec_l1In.f a2 0 20000).bind fun t280 => (some t280)) else (some false))) else (some false)) = some r := H
 have A4 := za.mk A40
 clear A40
 by_cases c5 : t278 = true
 ·subst c5
  have H1 : ((spec_SpansOk.f k l1 (l0.length : Int)).bind fun t279 => (if t279 = true then ((spec_l1In.f a2 0 20000).bind fun t280 => (some t280)) else (some false))) = some r := by rw [if_pos rfl] at H; exact H
  clear H
  have H := H1
  clear H1
  replace H := Option.bind_eq_some_iff.mp H
  obtain ⟨t279, A60, H⟩ := H
  replace H : (if t279 = true then ((spec_l1In.f a2 0 20000).bind fun t280 => (some t280)) else (some false)) = some r := H
  have A6 := za.mk A60
  clear A60
  by_cases c7 : t279 = true
  ·subst c7
   have H1 : ((spec_l1In.f a2 0 20000).bind fun t280 => (some t280)) = some r := by rw [if_pos rfl] at H; exact H
   clear H
   have H := H1
   clear H1
   replace H := Option.bind_eq_some_iff.mp H
   obtain ⟨t280, A80, H⟩ := H
   replace H : (some t280) = some r := H
   have A8 := za.mk A80
   clear A80
   obtain rfl := Option.some.inj H
   go_enter Try.func86, Try.ntmps86
   go_wp2_with (first | ((with_reducible refine zj (f := 49) rfl ?_); refine zgo (some 8) Try.func49 #[.slice A0 l0.length c0] rfl ?_; (with_reducible refine (spec_l1Ok.calls k _ _ l0 true _ ?side1 ?side2 A4.out).mono ?_); (case side1 => repeat (first | exact HR0.out | (with_reducible refine Kd.zea ?_ _) | (with_reducible refine Kd.zga ?_ _) | (with_reducible refine Kd.zha ?_))); (case side2 => exact HC0.out); rintro e w' ⟨rfl, ⟨nd, rfl⟩⟩; refine ⟨_, rfl, ?_⟩) | (go_at_call 50; (with_reducible refine (spec_SpansOk.calls k _ _ l1 (l0.length : Int) true _ ?side1 ?side2 A6.out).mono ?_); (case side1 => repeat (first | exact HR1.out | (with_reducible refine Kd.zea ?_ _) | (with_reducible refine Kd.zga ?_ _) | (with_reducible refine Kd.zha ?_))); (case side2 => exact HC1.out); rintro e w9 ⟨rfl, hb⟩; have n0_ := za.mk (zg (by repeat (first | (with_reducible first | exact HB.out | apply zc | apply zb | apply zd) | exact HB.out)) hb); clear HB; have HB := n0_; clear n0_; (try clear hb); (try clear hb2); (try clear hk); (try clear hi)) | (go_at_call 74; (with_reducible refine (spec_l1In.calls a2 0 20000 t280 _ A8.out).mono ?_); rintro e w' ⟨rfl, ⟨nd, rfl⟩⟩))
   go_ret
   exact ⟨by first | rfl | (simp [zh, zi] <;> rfl) | (simp [*, zh, zi] <;> rfl), by repeat (first | (with_reducible first | exact HB.out | apply zc | apply zb | apply zd) | exact HB.out)⟩
  ·replace c7 := Bool.eq_false_iff.mpr c7
   subst c7
   have H1 : (some false) = some r := by rw [if_neg (show ¬ (false = true) by decide)] at H; exact H
   clear H
   have H := H1
   clear H1
   obtain rfl := Option.some.inj H
   go_enter Try.func86, Try.ntmps86
   go_wp2_with (first | ((with_reducible refine zj (f := 49) rfl ?_); refine zgo (some 8) Try.func49 #[.slice A0 l0.length c0] rfl ?_; (with_reducible refine (spec_l1Ok.calls k _ _ l0 true _ ?side1 ?side2 A4.out).mono ?_); (case side1 => repeat (first | exact HR0.out | (with_reducible refine Kd.zea ?_ _) | (with_reducible refine Kd.zga ?_ _) | (with_reducible refine Kd.zha ?_))); (case side2 => exact HC0.out); rintro e w' ⟨rfl, ⟨nd, rfl⟩⟩; refine ⟨_, rfl, ?_⟩) | (go_at_call 50; (with_reducible refine (spec_SpansOk.calls k _ _ l1 (l0.length : Int) false _ ?side1 ?side2 A6.out).mono ?_); (case side1 => repeat (first | exact HR1.out | (with_reducible refine Kd.zea ?_ _) | (with_reducible refine Kd.zga ?_ _) | (with_reducible refine Kd.zha ?_))); (case side2 => exact HC1.out); rintro e w10 ⟨rfl, hb⟩; have n0_ := za.mk (zg (by repeat (first | (with_reducible first | exact HB.out | apply zc | apply zb | apply zd) | exact HB.out)) hb); clear HB; have HB := n0_; clear n0_; (try clear hb); (try clear hb2); (try clear hk); (try clear hi)))
   go_ret
   exact ⟨by first | rfl | (simp [zh, zi] <;> rfl) | (simp [*, zh, zi] <;> rfl), by repeat (first | (with_reducible first | exact HB.out | apply zc | apply zb | apply zd) | exact HB.out)⟩
 ·replace c5 := Bool.eq_false_iff.mpr c5
  subst c5
  have H1 : (some false) = some r := by rw [if_neg (show ¬ (false = true) by decide)] at H; exact H
  clear H
  have H := H1
  clear H1
  obtain rfl := Option.some.inj H
  go_enter Try.func86, Try.ntmps86
  go_wp2_with (first | ((with_reducible refine zj (f := 49) rfl ?_); refine zgo (some 8) Try.func49 #[.slice A0 l0.length c0] rfl ?_; (with_reducible refine (spec_l1Ok.calls k _ _ l0 false _ ?side1 ?side2 A4.out).mono ?_); (case side1 => repeat (first | exact HR0.out | (with_reducible refine Kd.zea ?_ _) | (with_reducible refine Kd.zga ?_ _) | (with_reducible refine Kd.zha ?_))); (case side2 => exact HC0.out); rintro e w' ⟨rfl, ⟨nd, rfl⟩⟩; refine ⟨_, rfl, ?_⟩))
  go_ret
  exact ⟨by first | rfl | (simp [zh, zi] <;> rfl) | (simp [*, zh, zi] <;> rfl), by repeat (first | (with_reducible first | exact HB.out | apply zc | apply zb | apply zd) | exact HB.out)⟩
def spec_l7Ends.l0 : Nat → List Int → Int → Int → Option (Bool)
 | 0, _, _, _ => none
 | k + 1, x0, x1, x5 => if x5 < (x0.length : Int) then (if x5 > 0 then (if 0 ≤ (wrap64 (x5 - 1)) then (if (wrap64 (x5 - 1)) < (x0.length : Int) then (if 0 ≤ x5 then (if (rd x0 (wrap64 (x5 - 1))) ≥ (rd x0 x5) then (some false) else ((spec_l1In.f (rd x0 x5) 1 x1).bind fun t284 => (if t284 = true then (spec_l7Ends.l0 k x0 x1 (wrap64 (x5 + 1))) else (some false)))) else (none)) else (none)) else (none)) else (if 0 ≤ x5 then ((spec_l1In.f (rd x0 x5) 1 x1).bind fun t286 => (if t286 = true then (spec_l7Ends.l0 k x0 x1 (wrap64 (x5 + 1))) else (some false))) else (none))) else (if x1 = 0 then (some ((x0.length : Int) == 0)) else (if (x0.length : Int) > 0 then (if 0 ≤ (wrap64 ((x0.length : Int) - 1)) then (if (wrap64 ((x0.length : Int) - 1)) < (x0.length : Int) then (some ((rd x0 (wrap64 ((x0.length : Int) - 1))) == x1)) else (none)) else (none)) else (some false)))
def spec_l7Ends.f (k : Nat) (l0 : List Int) (a1 : Int) : Option (Bool) := spec_l7Ends.l0 k l0 a1 0
theorem spec_l7Ends.calls (k : Nat) (A0 : Option Addr) (c0 : Nat) (l0 : List Int) (a1 : Int) (r : Bool) (w : World) (hr0 : Kd.C (Kd.int .i64) w A0 l0.length l0) (hc0 : l0.length ≤ c0) (h : spec_l7Ends.f k l0 a1 = some r) :
  Calls Try.prog 87 #[.slice A0 l0.length c0, .int .i64 a1] w fun e w' => e = .returned (.bool r) ∧ zm w w' := by
 have HR0 := za.mk hr0
 have HC0 := za.mk hc0
 clear hr0 hc0
 have H : (spec_l7Ends.l0 k l0 a1 0) = some r := h
 clear h
 have H' := za.mk H
 clear H
 go_enter Try.func87, Try.ntmps87
 go_wp2
 repeat (go_quiet (fail); try go_wp2)
 go_loopg [5] k (fun kq v5 w' => ∃ (x5_1 : Int), v5 = .int .i64 x5_1 ∧ za (spec_l7Ends.l0 kq l0 a1 x5_1 = some r) ∧ za (kq ≤ k) ∧ zm w w')
 case atStart => exact ⟨(0), (by first | rfl | (simp; done) | (simp [*]; done)), H', ⟨Nat.le_refl _⟩, by repeat (first | exact zm.refl _ | apply zm.step)⟩
 case round =>
  clear H'
  try clear p2
  obtain ⟨x5_1, rfl, HA, HK1, ⟨m1, rfl⟩⟩ := hrel
  cases gk with
  | zero => exact absurd HA.out (by simp [spec_l7Ends.l0])
  | succ k1 =>
   have H := HA.out
   clear HA
   simp only [spec_l7Ends.l0] at H
   by_cases c3 : x5_1 < (l0.length : Int)
   ·rw [if_pos c3] at H
    have c3b0 : decide (x5_1 < (l0.length : Int)) = true := decide_eq_true c3
    clear c3
    by_cases c4 : x5_1 > 0
    ·rw [if_pos c4] at H
     have c4b0 : decide (0 < x5_1) = true := decide_eq_true c4
     clear c4
     obtain ⟨ji5, hji5⟩ : ∃ j_ : Int, (wrap64 (x5_1 - 1)) = j_ := ⟨_, rfl⟩
     replace H : (if 0 ≤ (ji5) then (if (ji5) < (l0.length : Int) then (if 0 ≤ x5_1 then (if (rd l0 (ji5)) ≥ (rd l0 x5_1) then (some false) else ((spec_l1In.f (rd l0 x5_1) 1 a1).bind fun t284 => (if t284 = true then (spec_l7Ends.l0 k1 l0 a1 (wrap64 (x5_1 + 1))) else (some false)))) else (none)) else (none)) else (none)) = some r := by first | (rw [hji5] at H; exact H) | (simp only [hji5] at H ⊢; exact H)
     have hji5w : (IntKind.i64.wrap (x5_1 - 1)) = ji5 := (zr _).trans hji5
     by_cases c6 : 0 ≤ (ji5)
     ·rw [if_pos c6] at H
      have c6b0 : decide (0 ≤ (ji5)) = true := decide_eq_true c6
      clear c6
      by_cases c7 : (ji5) < (l0.length : Int)
      ·rw [if_pos c7] at H
       have c7b0 : decide ((ji5) < (l0.length : Int)) = true := decide_eq_true c7
       clear c7
       by_cases c8 : 0 ≤ x5_1
       ·rw [if_pos c8] at H
        have c8b0 : decide (0 ≤ x5_1) = true := decide_eq_true c8
        clear c8
        by_cases c9 : (rd l0 (ji5)) ≥ (rd l0 x5_1)
        ·rw [if_pos c9] at H
         have c9b0 : decide ((rd l0 x5_1) ≤ (rd l0 (ji5))) = true := decide_eq_true c9
         clear c9
         obtain rfl := Option.some.inj H
         have p281 : 0 ≤ ((ji5) : Int) := of_decide_eq_true (by assumption)
         have q281 : (ji5) < (l0.length : Int) := of_decide_eq_true (by assumption)
         obtain ⟨ad281, e281, hx281_0⟩ := Kd.zfa HR0.out (ji5) p281 q281
         cases e281
         replace p281 := eq_true p281
         replace q281 := eq_true q281
         have p282 : 0 ≤ (x5_1 : Int) := of_decide_eq_true (by assumption)
         have q282 : x5_1 < (l0.length : Int) := of_decide_eq_true (by assumption)
         obtain ⟨ad282, e282, hx282_0⟩ := Kd.zfa HR0.out x5_1 p282 q282
         obtain rfl : ad281 = ad282 := (by injection e282)
         replace p282 := eq_true p282
         replace q282 := eq_true q282
         go_wp2
         repeat (go_quiet (fail); try go_wp2)
         go_ret
         exact ⟨by first | rfl | (simp; done) | (simp only [← hji5] <;> (first | rfl | simp)) | (simp [*]; done), by repeat (first | exact zm.refl _ | apply zm.step)⟩
        ·rw [if_neg c9] at H
         have c9b0 : decide ((rd l0 x5_1) ≤ (rd l0 (ji5))) = false := decide_eq_false c9
         clear c9
         replace H := Option.bind_eq_some_iff.mp H
         obtain ⟨t284, A100, H⟩ := H
         replace H : (if t284 = true then (spec_l7Ends.l0 k1 l0 a1 (wrap64 (x5_1 + 1))) else (some false)) = some r := H
         have A10 := za.mk A100
         clear A100
         by_cases c11 : t284 = true
         ·subst c11
          have H1 : (spec_l7Ends.l0 k1 l0 a1 (wrap64 (x5_1 + 1))) = some r := by rw [if_pos rfl] at H; exact H
          clear H
          have H := H1
          clear H1
          have H' := za.mk H
          clear H
          have p281 : 0 ≤ ((ji5) : Int) := of_decide_eq_true (by assumption)
          have q281 : (ji5) < (l0.length : Int) := of_decide_eq_true (by assumption)
          obtain ⟨ad281, e281, hx281_0⟩ := Kd.zfa HR0.out (ji5) p281 q281
          cases e281
          replace p281 := eq_true p281
          replace q281 := eq_true q281
          have p282 : 0 ≤ (x5_1 : Int) := of_decide_eq_true (by assumption)
          have q282 : x5_1 < (l0.length : Int) := of_decide_eq_true (by assumption)
          obtain ⟨ad282, e282, hx282_0⟩ := Kd.zfa HR0.out x5_1 p282 q282
          obtain rfl : ad281 = ad282 := (by injection e282)
          replace p282 := eq_true p282
          replace q282 := eq_true q282
          have p283 : 0 ≤ (x5_1 : Int) := of_decide_eq_true (by assumption)
          have q283 : x5_1 < (l0.length : Int) := of_decide_eq_true (by assumption)
          obtain ⟨ad283, e283, hx283_0⟩ := Kd.zfa HR0.out x5_1 p283 q283
          obtain rfl : ad281 = ad283 := (by injection e283)
          replace p283 := eq_true p283
          replace q283 := eq_true q283
          go_wp2_with (first | (go_at_call 74; (with_reducible refine (spec_l1In.calls (rd l0 x5_1) 1 a1 true _ A10.out).mono ?_); rintro e w' ⟨rfl, ⟨nd, rfl⟩⟩; (try first | exact ⟨rfl, _, World.drewN_drewN _ _ _⟩ | exact ⟨rfl, _, Eq.trans (World.drewN_drewN _ _ _) (congrArg (World.drewN _) (Nat.add_assoc _ _ _))⟩)))
          repeat (go_quiet (first | (go_at_call 74; (with_reducible refine (spec_l1In.calls (rd l0 x5_1) 1 a1 true _ A10.out).mono ?_); rintro e w' ⟨rfl, ⟨nd, rfl⟩⟩; (try first | exact ⟨rfl, _, World.drewN_drewN _ _ _⟩ | exact ⟨rfl, _, Eq.trans (World.drewN_drewN _ _ _) (congrArg (World.drewN _) (Nat.add_assoc _ _ _))⟩))); try go_wp2_with (first | (go_at_call 74; (with_reducible refine (spec_l1In.calls (rd l0 x5_1) 1 a1 true _ A10.out).mono ?_); rintro e w' ⟨rfl, ⟨nd, rfl⟩⟩; (try first | exact ⟨rfl, _, World.drewN_drewN _ _ _⟩ | exact ⟨rfl, _, Eq.trans (World.drewN_drewN _ _ _) (congrArg (World.drewN _) (Nat.add_assoc _ _ _))⟩))))
          go_roundg k1
          case measure => have := HK1.out; omega
          case rel => exact ⟨(wrap64 (x5_1 + 1)), (by first | rfl | (simp; done) | (simp [*]; done)), (by first | exact H' | (simp only [hji5]; exact H') | (simp only [hji17]; exact H') | (simp only [hji5, hji17]; exact H')), ⟨by have := HK1.out; omega⟩, by repeat (first | exact zm.refl _ | apply zm.step)⟩
         ·replace c11 := Bool.eq_false_iff.mpr c11
          subst c11
          have H1 : (some false) = some r := by rw [if_neg (show ¬ (false = true) by decide)] at H; exact H
          clear H
          have H := H1
          clear H1
          obtain rfl := Option.some.inj H
          have p281 : 0 ≤ ((ji5) : Int) := of_decide_eq_true (by assumption)
          have q281 : (ji5) < (l0.length : Int) := of_decide_eq_true (by assumption)
          obtain ⟨ad281, e281, hx281_0⟩ := Kd.zfa HR0.out (ji5) p281 q281
          cases e281
          replace p281 := eq_true p281
          replace q281 := eq_true q281
          have p282 : 0 ≤ (x5_1 : Int) := of_decide_eq_true (by assumption)
          have q282 : x5_1 < (l0.length : Int) := of_decide_eq_true (by assumption)
          obtain ⟨ad282, e282, hx282_0⟩ := Kd.zfa HR0.out x5_1 p282 q282
          obtain rfl : ad281 = ad282 := (by injection e282)
          replace p282 := eq_true p282
          replace q282 := eq_true q282
          have p283 : 0 ≤ (x5_1 : Int) := of_decide_eq_true (by assumption)
          have q283 : x5_1 < (l0.length : Int) := of_decide_eq_true (by assumption)
          obtain ⟨ad283, e283, hx283_0⟩ := Kd.zfa HR0.out x5_1 p283 q283
          obtain rfl : ad281 = ad283 := (by injection e283)
          replace p283 := eq_true p283
          replace q283 := eq_true q283
          go_wp2_with (first | (go_at_call 74; (with_reducible refine (spec_l1In.calls (rd l0 x5_1) 1 a1 false _ A10.out).mono ?_); rintro e w' ⟨rfl, ⟨nd, rfl⟩⟩; (try first | exact ⟨rfl, _, World.drewN_drewN _ _ _⟩ | exact ⟨rfl, _, Eq.trans (World.drewN_drewN _ _ _) (congrArg (World.drewN _) (Nat.add_assoc _ _ _))⟩)))
          repeat (go_quiet (first | (go_at_call 74; (with_reducible refine (spec_l1In.calls (rd l0 x5_1) 1 a1 false _ A10.out).mono ?_); rintro e w' ⟨rfl, ⟨nd, rfl⟩⟩; (try first | exact ⟨rfl, _, World.drewN_drewN _ _ _⟩ | exact ⟨rfl, _, Eq.trans (World.drewN_drewN _ _ _) (congrArg (World.drewN _) (Nat.add_assoc _ _ _))⟩))); try go_wp2_with (first | (go_at_call 74; (with_reducible refine (spec_l1In.calls (rd l0 x5_1) 1 a1 false _ A10.out).mono ?_); rintro e w' ⟨rfl, ⟨nd, rfl⟩⟩; (try first | exact ⟨rfl, _, World.drewN_drewN _ _ _⟩ | exact ⟨rfl, _, Eq.trans (World.drewN_drewN _ _ _) (congrArg (World.drewN _) (Nat.add_assoc _ _ _))⟩))))
          go_ret
          exact ⟨by first | rfl | (simp; done) | (simp only [← hji5] <;> (first | rfl | simp)) | (simp [*]; done), by repeat (first | exact zm.refl _ | apply zm.step)⟩
       ·rw [if_neg c8] at H
        exact absurd H (by simp)
      ·rw [if_neg c7] at H
       exact absurd H (by simp)
     ·rw [if_neg c6] at H
      exact absurd H (by simp)
    ·rw [if_neg c4] at H
     have c4b0 : decide (0 < x5_1) = false := decide_eq_false c4
     clear c4
     by_cases c12 : 0 ≤ x5_1
     ·rw [if_pos c12] at H
      have c12b0 : decide (0 ≤ x5_1) = true := decide_eq_true c12
      clear c12
      replace H := Option.bind_eq_some_iff.mp H
      obtain ⟨t286, A130, H⟩ := H
      replace H : (if t286 = true then (spec_l7Ends.l0 k1 l0 a1 (wrap64 (x5_1 + 1))) else (some false)) = some r := H
      have A13 := za.mk A130
      clear A130
      by_cases c14 : t286 = true
      ·subst c14
       have H1 : (spec_l7Ends.l0 k1 l0 a1 (wrap64 (x5_1 + 1))) = some r := by rw [if_pos rfl] at H; exact H
       clear H
       have H := H1
       clear H1
       have H' := za.mk H
       clear H
       have p285 : 0 ≤ (x5_1 : Int) := of_decide_eq_true (by assumption)
       have q285 : x5_1 < (l0.length : Int) := of_decide_eq_true (by assumption)
       obtain ⟨ad285, e285, hx285_0⟩ := Kd.zfa HR0.out x5_1 p285 q285
       cases e285
       replace p285 := eq_true p285
       replace q285 := eq_true q285
       go_wp2_with (first | (go_at_call 74; (with_reducible refine (spec_l1In.calls (rd l0 x5_1) 1 a1 true _ A13.out).mono ?_); rintro e w' ⟨rfl, ⟨nd, rfl⟩⟩; (try first | exact ⟨rfl, _, World.drewN_drewN _ _ _⟩ | exact ⟨rfl, _, Eq.trans (World.drewN_drewN _ _ _) (congrArg (World.drewN _) (Nat.add_assoc _ _ _))⟩)))
       repeat (go_quiet (first | (go_at_call 74; (with_reducible refine (spec_l1In.calls (rd l0 x5_1) 1 a1 true _ A13.out).mono ?_); rintro e w' ⟨rfl, ⟨nd, rfl⟩⟩; (try first | exact ⟨rfl, _, World.drewN_drewN _ _ _⟩ | exact ⟨rfl, _, Eq.trans (World.drewN_drewN _ _ _) (congrArg (World.drewN _) (Nat.add_assoc _ _ _))⟩))); try go_wp2_with (first | (go_at_call 74; (with_reducible refine (spec_l1In.calls (rd l0 x5_1) 1 a1 true _ A13.out).mono ?_); rintro e w' ⟨rfl, ⟨nd, rfl⟩⟩; (try first | exact ⟨rfl, _, World.drewN_drewN _ _ _⟩ | exact ⟨rfl, _, Eq.trans (World.drewN_drewN _ _ _) (congrArg (World.drewN _) (Nat.add_assoc _ _ _))⟩))))
       go_roundg k1
       case measure => have := HK1.out; omega
       case rel => exact ⟨(wrap64 (x5_1 + 1)), (by first | rfl | (simp; done) | (simp [*]; done)), (by first | exact H' | (simp only [hji5]; exact H') | (simp only [hji17]; exact H') | (simp only [hji5, hji17]; exact H')), ⟨by have := HK1.out; omega⟩, by repeat (first | exact zm.refl _ | apply zm.step)⟩
      ·replace c14 := Bool.eq_false_iff.mpr c14
       subst c14
       have H1 : (some false) = some r := by rw [if_neg (show ¬ (false = true) by decide)] at H; exact H
       clear H
       have H := H1
       clear H1
       obtain rfl := Option.some.inj H
       have p285 : 0 ≤ (x5_1 : Int) := of_decide_eq_true (by assumption)
       have q285 : x5_1 < (l0.length : Int) := of_decide_eq_true (by assumption)
       obtain ⟨ad285, e285, hx285_0⟩ := Kd.zfa HR0.out x5_1 p285 q285
       cases e285
       replace p285 := eq_true p285
       replace q285 := eq_true q285
       go_wp2_with (first | (go_at_call 74; (with_reducible refine (spec_l1In.calls (rd l0 x5_1) 1 a1 false _ A13.out).mono ?_); rintro e w' ⟨rfl, ⟨nd, rfl⟩⟩; (try first | exact ⟨rfl, _, World.drewN_drewN _ _ _⟩ | exact ⟨rfl, _, Eq.trans (World.drewN_drewN _ _ _) (congrArg (World.drewN _) (Nat.add_assoc _ _ _))⟩)))
       repeat (go_quiet (first | (go_at_call 74; (with_reducible refine (spec_l1In.calls (rd l0 x5_1) 1 a1 false _ A13.out).mono ?_); rintro e w' ⟨rfl, ⟨nd, rfl⟩⟩; (try first | exact ⟨rfl, _, World.drewN_drewN _ _ _⟩ | exact ⟨rfl, _, Eq.trans (World.drewN_drewN _ _ _) (congrArg (World.drewN _) (Nat.add_assoc _ _ _))⟩))); try go_wp2_with (first | (go_at_call 74; (with_reducible refine (spec_l1In.calls (rd l0 x5_1) 1 a1 false _ A13.out).mono ?_); rintro e w' ⟨rfl, ⟨nd, rfl⟩⟩; (try first | exact ⟨rfl, _, World.drewN_drewN _ _ _⟩ | exact ⟨rfl, _, Eq.trans (World.drewN_drewN _ _ _) (congrArg (World.drewN _) (Nat.add_assoc _ _ _))⟩))))
       go_ret
       exact ⟨by first | rfl | (simp; done) | (simp [*]; done), by repeat (first | exact zm.refl _ | apply zm.step)⟩
     ·rw [if_neg c12] at H
      exact absurd H (by simp)
   ·rw [if_neg c3] at H
    have c3b0 : decide (x5_1 < (l0.length : Int)) = false := decide_eq_false c3
    clear c3
    by_cases c15 : a1 = 0
    ·rw [if_pos c15] at H
     have c15b0 : (a1 == 0) = true := beq_iff_eq.mpr c15
     have c15b1 : (a1 != 0) = false := bne_eq_false_iff_eq.mpr c15
     clear c15
     obtain rfl := Option.some.inj H
     go_wp2
     repeat (go_quiet (fail); try go_wp2)
     go_ret
     exact ⟨by first | rfl | (simp; done) | (simp [*]; done), by repeat (first | exact zm.refl _ | apply zm.step)⟩
    ·rw [if_neg c15] at H
     have c15b0 : (a1 == 0) = false := beq_eq_false_iff_ne.mpr c15
     have c15b1 : (a1 != 0) = true := bne_iff_ne.mpr c15
     by_cases c16 : (l0.length : Int) > 0
     ·rw [if_pos c16] at H
      have c16b0 : decide (0 < (l0.length : Int)) = true := decide_eq_true c16
      have c16b1 : decide (0 < l0.length) = true := decide_eq_true (by omega)
      clear c16
      obtain ⟨ji17, hji17⟩ : ∃ j_ : Int, (wrap64 ((l0.length : Int) - 1)) = j_ := ⟨_, rfl⟩
      replace H : (if 0 ≤ (ji17) then (if (ji17) < (l0.length : Int) then (some ((rd l0 (ji17)) == a1)) else (none)) else (none)) = some r := by first | (rw [hji17] at H; exact H) | (simp only [hji17] at H ⊢; exact H)
      have hji17w : (IntKind.i64.wrap ((l0.length : Int) - 1)) = ji17 := (zr _).trans hji17
      by_cases c18 : 0 ≤ (ji17)
      ·rw [if_pos c18] at H
       have c18b0 : decide (0 ≤ (ji17)) = true := decide_eq_true c18
       clear c18
       by_cases c19 : (ji17) < (l0.length : Int)
       ·rw [if_pos c19] at H
        have c19b0 : decide ((ji17) < (l0.length : Int)) = true := decide_eq_true c19
        clear c19
        obtain rfl := Option.some.inj H
        have p287 : 0 ≤ ((ji17) : Int) := of_decide_eq_true (by assumption)
        have q287 : (ji17) < (l0.length : Int) := of_decide_eq_true (by assumption)
        obtain ⟨ad287, e287, hx287_0⟩ := Kd.zfa HR0.out (ji17) p287 q287
        cases e287
        replace p287 := eq_true p287
        replace q287 := eq_true q287
        go_wp2
        repeat (go_quiet (fail); try go_wp2)
        go_ret
        exact ⟨by first | rfl | (simp; done) | (simp only [← hji17] <;> (first | rfl | simp)) | (simp [*]; done), by repeat (first | exact zm.refl _ | apply zm.step)⟩
       ·rw [if_neg c19] at H
        exact absurd H (by simp)
      ·rw [if_neg c18] at H
       exact absurd H (by simp)
     ·rw [if_neg c16] at H
      have c16b0 : decide (0 < (l0.length : Int)) = false := decide_eq_false c16
      have c16b1 : decide (0 < l0.length) = false := decide_eq_false (by omega)
      clear c16
      obtain rfl := Option.some.inj H
      go_wp2
      repeat (go_quiet (fail); try go_wp2)
      go_ret
      exact ⟨by first | rfl | (simp; done) | (simp [*]; done), by repeat (first | exact zm.refl _ | apply zm.step)⟩
def spec_FillCost.cost (k : Nat) (l0 lw lb : List Int) (wd a b : Int) : Option Int :=
 if 0 ≤ wrap64 (b - 1) ∧ wrap64 (b - 1) < (lb.length : Int) then
  (if rd lb (wrap64 (b - 1)) = 2 then some 0 else (spec_l7Wide.f k l0 lw a b).bind fun t => some (wrap64 (wrap64 (wd - t) * wrap64 (wd - t))))
 else none
def spec_FillCost.go (k : Nat) (l0 lw lb : List Int) (wd : Int) : List Int → Int → Int → Option Int
 | [], n, _ => some n
 | e :: es, n, a => (spec_FillCost.cost k l0 lw lb wd a e).bind fun c => spec_FillCost.go k l0 lw lb wd es (wrap64 (n + c)) e
def spec_FillCost.f (k : Nat) (l0 : List Int) (l1 : List S40) (a2 : Int) (l3 : List Int) : Option (Int × Bool) :=
 (spec_l7All.f k l0 l1 a2).bind fun t => (if t = true then ((spec_l7Ends.f k l3 (l0.length : Int)).bind fun u => (if u = true then ((spec_l6Wides.f k l0 l1).bind fun lw => ((spec_l5Breaks.f k l0).bind fun lb => (if l3.length < 17592186044416 then ((spec_FillCost.go k l0 lw lb a2 l3 0 0).bind fun n => some (n, true)) else none))) else some (0, false))) else some (0, false))
structure spec_FillCost.At (g : Nat) (A0 : Option Addr) (c0 : Nat) (l0 lw lb : List Int) (wd : Int) (W : World) : Prop where
 at_ : ∃ A1 c1 A2 c2, W.heap[g]? = some (.cells #[.slice A0 l0.length c0, .slice A1 lw.length c1, .slice A2 lb.length c2, .int .i64 wd] 105 (0, 0)) ∧ Kd.C (Kd.int .i64) W A1 lw.length lw ∧ lw.length ≤ c1 ∧ Kd.C (Kd.int .i64) W A2 lb.length lb ∧ lb.length ≤ c2
theorem spec_FillCost.At.below {g : Nat} {A0 : Option Addr} {c0 : Nat} {l0 lw lb : List Int} {wd : Int} {W W' : World} (h : spec_FillCost.At g A0 c0 l0 lw lb wd W) (hb : Below W.heap.size W W') : spec_FillCost.At g A0 c0 l0 lw lb wd W' := by
 obtain ⟨A1, c1, A2, c2, hg, h1, hc1, h2, hc2⟩ := h
 exact ⟨A1, c1, A2, c2, (hb.block g (zta hg)).trans hg, Kd.zka h1 hb, hc1, Kd.zka h2 hb, hc2⟩
theorem spec_FillCost.made (k : Nat) (A0 : Option Addr) (c0 : Nat) (l0 : List Int) (A1 : Option Addr) (c1 : Nat) (l1 : List S40) (a2 : Int) (lw lb : List Int) (w : World) (hr0 : Kd.C (Kd.int .i64) w A0 l0.length l0) (hc0 : l0.length ≤ c0) (hr1 : Kd.C k40 w A1 l1.length l1) (hc1 : l1.length ≤ c1) (hw : spec_l6Wides.f k l0 l1 = some lw) (hb : spec_l5Breaks.f k l0 = some lb) :
  Calls Try.prog 88 #[.slice A0 l0.length c0, .slice A1 l1.length c1, .int .i64 a2] w fun e w' => ∃ g, e = .returned (.pointer (some ⟨g, 0, none⟩)) ∧ spec_FillCost.At g A0 c0 l0 lw lb a2 w' ∧ Below w.heap.size w w' := by
 have hu := Try.underlying105
 have hu2 := Try.underlying78
 have HR0 := za.mk hr0
 have HC0 := za.mk hc0
 have HR1 := za.mk hr1
 have HC1 := za.mk hc1
 have HW := za.mk hw
 have HK := za.mk hb
 clear hr0 hc0 hr1 hc1 hw hb
 go_enter Try.func88, Try.ntmps88
 go_wp2_with (first
  | (go_at_call 51; refine (spec_l6Wides.calls k A0 c0 l0 A1 c1 l1 lw _ HR0.out HC0.out HR1.out HC1.out HW.out).mono ?_; rintro e w1 ⟨v1, rfl, hr1, hb1⟩; obtain ⟨A5, c5, e5, hc5, hC5⟩ := Kd.R_reads hr1; subst e5; have HB1 := za.mk hb1; have HC5 := za.mk hc5; have HD5 := za.mk hC5; clear hr1 hb1 hc5 hC5)
  | (go_at_call 76; refine (spec_l5Breaks.calls k A0 c0 l0 lb _ (Kd.zka HR0.out HB1.out) HC0.out HK.out).mono ?_; rintro e w2 ⟨v2, rfl, hr2, hb2⟩; obtain ⟨A6, c6, e6, hc6, hC6⟩ := Kd.R_reads hr2; subst e6; have HB2 := za.mk (zg HB1.out hb2); have HC6 := za.mk hc6; have HD6 := za.mk hC6; have HE5 := za.mk (Kd.zka HD5.out hb2); clear hr2 hb2 hc6 hC6))
 go_ret
 exact ⟨_, rfl, ⟨A5, c5, A6, c6, blk_new _ _, Kd.zea HE5.out _, HC5.out, Kd.zea HD6.out _, HC6.out⟩, HB2.out.alloc HB2.out.size _⟩
theorem spec_FillCost.costs (k : Nat) (g : Nat) (A0 : Option Addr) (c0 : Nat) (l0 lw lb : List Int) (wd a b r : Int) (w : World) (h : spec_FillCost.At g A0 c0 l0 lw lb wd w) (hr0 : Kd.C (Kd.int .i64) w A0 l0.length l0) (hc0 : l0.length ≤ c0) (hr : spec_FillCost.cost k l0 lw lb wd a b = some r) :
  Calls Try.prog 89 #[.pointer (some ⟨g, 0, none⟩), .int .i64 a, .int .i64 b] w fun e w' => e = .returned (.int .i64 r) ∧ Below w.heap.size w w' := by
 have hu := Try.underlying105
 have hu22 := Try.underlying22
 have hu2 := Try.underlying78
 unfold spec_FillCost.cost at hr
 by_cases hin : 0 ≤ wrap64 (b - 1) ∧ wrap64 (b - 1) < (lb.length : Int)
 ·rw [if_pos hin] at hr
  obtain ⟨p1, p2⟩ := hin
  obtain ⟨A1, c1, A2, c2, hg, h1, hc1, h2, hc2⟩ := h
  have x0 : w.cell? ⟨g, 0, none⟩ = some (Value.slice A0 l0.length c0) := (zf hg 0).trans rfl
  have x1 : w.cell? ⟨g, 1, none⟩ = some (Value.slice A1 lw.length c1) := (zf hg 1).trans rfl
  have x2 : w.cell? ⟨g, 2, none⟩ = some (Value.slice A2 lb.length c2) := (zf hg 2).trans rfl
  have x3 : w.cell? ⟨g, 3, none⟩ = some (Value.int .i64 wd) := (zf hg 3).trans rfl
  obtain ⟨ad, e1, hx⟩ := Kd.zfa h2 (wrap64 (b - 1)) p1 p2
  cases e1
  have HR0 := za.mk hr0
  have HC0 := za.mk hc0
  have HR1 := za.mk h1
  have HC1 := za.mk hc1
  have HG := za.mk hg
  have HH := za.mk hr
  clear hr0 hc0 h1 hc1 h2 hc2 hg hr
  by_cases h2 : rd lb (wrap64 (b - 1)) = 2
  ·have h2b : (rd lb (wrap64 (b - 1)) == 2) = true := beq_iff_eq.2 h2
   have hr := HH.out
   rw [if_pos h2] at hr
   cases hr
   clear HH h2
   go_enter Try.func89, Try.ntmps89
   go_wp2
   go_ret
   exact ⟨rfl, Below.refl _ _⟩
  ·have h2b : (rd lb (wrap64 (b - 1)) == 2) = false := beq_eq_false_iff_ne.2 h2
   have hr := HH.out
   rw [if_neg h2] at hr
   obtain ⟨t, ht, hr2⟩ := Option.bind_eq_some_iff.mp hr
   cases hr2
   have HT := za.mk ht
   clear HH h2 hr ht
   go_enter Try.func89, Try.ntmps89
   go_wp2
   go_region_with (first | (go_at_call 75; refine (spec_l7Wide.calls k A0 c0 l0 A1 c1 lw a b t _ (Kd.zha HR0.out) HC0.out (Kd.zha HR1.out) HC1.out HT.out).mono ?_; rintro e w1 ⟨rfl, hb1⟩; have HB1 := za.mk (zg (below_drew (Below.refl _ _)) hb1); have x3' : w1.cell? ⟨g, 3, none⟩ = some (Value.int .i64 wd) := (zf ((hb1.block g (zta HG.out)).trans HG.out) 3).trans rfl; clear hb1))
   all_goals go_wp2
   all_goals go_ret
   all_goals exact ⟨rfl, HB1.out⟩
 ·rw [if_neg hin] at hr
  exact absurd hr (by simp)
theorem spec_FillCost.calls (k : Nat) (A0 : Option Addr) (c0 : Nat) (l0 : List Int) (A1 : Option Addr) (c1 : Nat) (l1 : List S40) (a2 : Int) (A3 : Option Addr) (c3 : Nat) (l3 : List Int) (r1 : Int) (r2 : Bool) (w : World) (hr0 : Kd.C (Kd.int .i64) w A0 l0.length l0) (hc0 : l0.length ≤ c0) (hr1 : Kd.C k40 w A1 l1.length l1) (hc1 : l1.length ≤ c1) (hr3 : Kd.C (Kd.int .i64) w A3 l3.length l3) (hc3 : l3.length ≤ c3) (h : spec_FillCost.f k l0 l1 a2 l3 = some (r1, r2)) :
  Calls Try.prog 47 #[.slice A0 l0.length c0, .slice A1 l1.length c1, .int .i64 a2, .slice A3 l3.length c3] w fun e w' => e = .returned (.tuple #[.int .i64 r1, .bool r2]) ∧ Below w.heap.size w w' := by
 have hu := Try.underlying105
 have hu22 := Try.underlying22
 have hu2 := Try.underlying78
 unfold spec_FillCost.f at h
 obtain ⟨t, ht, h'⟩ := Option.bind_eq_some_iff.mp h
 clear h
 have h := h'
 clear h'
 have HR0 := za.mk hr0
 have HC0 := za.mk hc0
 have HR1 := za.mk hr1
 have HC1 := za.mk hc1
 have HR3 := za.mk hr3
 have HC3 := za.mk hc3
 have HA := za.mk ht
 clear hr0 hc0 hr1 hc1 hr3 hc3 ht
 cases t with
 | false =>
  cases Option.some.inj h
  clear h
  go_enter Try.func47, Try.ntmps47
  go_wp2_with (go_at_call 86; refine (spec_l7All.calls k A0 c0 l0 A1 c1 l1 a2 false _ HR0.out HC0.out HR1.out HC1.out HA.out).mono ?_; rintro e w1 ⟨rfl, hb1⟩; have HB1 := za.mk hb1; clear hb1)
  go_ret2
  exact ⟨rfl, HB1.out⟩
 | true =>
  rw [if_pos rfl] at h
  obtain ⟨u, hu, h'⟩ := Option.bind_eq_some_iff.mp h
  clear h
  have h := h'
  clear h'
  have HE := za.mk hu
  clear hu
  cases u with
  | false =>
   cases Option.some.inj h
   clear h
   go_enter Try.func47, Try.ntmps47
   go_wp2_with (first
    | (go_at_call 86; refine (spec_l7All.calls k A0 c0 l0 A1 c1 l1 a2 true _ HR0.out HC0.out HR1.out HC1.out HA.out).mono ?_; rintro e w1 ⟨rfl, hb1⟩; have HB1 := za.mk hb1; clear hb1)
    | (go_at_call 87; refine (spec_l7Ends.calls k A3 c3 l3 _ false _ (Kd.zka HR3.out HB1.out) HC3.out HE.out).mono ?_; rintro e w2 ⟨rfl, hd2⟩; have hb2 : Below w1.heap.size w1 w2 := (by obtain ⟨nd, e2⟩ := hd2; first | (rw [e2]; apply zb; exact Below.refl _ _) | exact hd2); have HB2 := za.mk (zg HB1.out hb2); clear hb2 hd2))
   go_ret2
   exact ⟨rfl, HB2.out⟩
  | true =>
   rw [if_pos rfl] at h
   obtain ⟨lw, hlw, h'⟩ := Option.bind_eq_some_iff.mp h
   clear h
   obtain ⟨lb, hlb, h⟩ := Option.bind_eq_some_iff.mp h'
   clear h'
   have hlen : l3.length < 17592186044416 := Classical.byContradiction fun hno => by rw [if_neg hno] at h; exact absurd h (by simp)
   rw [if_pos hlen] at h
   obtain ⟨n, hn, h'⟩ := Option.bind_eq_some_iff.mp h
   clear h
   have HLEN := za.mk hlen
   clear hlen
   cases Option.some.inj h'
   clear h'
   have HW := za.mk hlw
   have HK := za.mk hlb
   have HN := za.mk hn
   clear hlw hlb hn
   go_enter Try.func47, Try.ntmps47
   go_wp2_with (first
    | (go_at_call 86; refine (spec_l7All.calls k A0 c0 l0 A1 c1 l1 a2 true _ HR0.out HC0.out HR1.out HC1.out HA.out).mono ?_; rintro e w1 ⟨rfl, hb1⟩; have HB1 := za.mk hb1; clear hb1)
    | (go_at_call 87; refine (spec_l7Ends.calls k A3 c3 l3 _ true _ (Kd.zka HR3.out HB1.out) HC3.out HE.out).mono ?_; rintro e w2 ⟨rfl, hd2⟩; have hb2 : Below w1.heap.size w1 w2 := (by obtain ⟨nd, e2⟩ := hd2; first | (rw [e2]; apply zb; exact Below.refl _ _) | exact hd2); have HB2 := za.mk (zg HB1.out hb2); clear hb2 hd2)
    | (go_at_call 88; refine (spec_FillCost.made k A0 c0 l0 A1 c1 l1 a2 lw lb _ (Kd.zka HR0.out HB2.out) HC0.out (Kd.zka HR1.out HB2.out) HC1.out HW.out HK.out).mono ?_; rintro e w3 ⟨g, rfl, hg3, hb3⟩; have HB3 := za.mk (zg HB2.out hb3); have HG3 := za.mk hg3; clear hb3 hg3))
   go_loopg [11, 12, 13] l3.length (fun kq v11 v12 v13 wr => ∃ (i : Nat) (m a : Int), v11 = .int .i64 m ∧ v12 = .int .i64 a ∧ v13 = .int .i64 (i : Int) ∧ za (kq + i = l3.length) ∧ za (spec_FillCost.At g A0 c0 l0 lw lb a2 wr) ∧ za (spec_FillCost.go k l0 lw lb a2 (l3.drop i) m a = some r1) ∧ za (Below w.heap.size w wr))
   case atStart => exact ⟨0, 0, 0, rfl, rfl, rfl, ⟨by omega⟩, HG3, HN, HB3⟩
   case round =>
    obtain ⟨i, m, a, rfl, rfl, rfl, HI, HG, HH, HB⟩ := hrel
    cases gk with
    | zero =>
     have hi : i = l3.length := by have := HI.out; omega
     subst hi
     have hdec : decide ((l3.length : Int) < (l3.length : Int)) = false := by simp
     have h1 := HH.out
     rw [List.drop_length] at h1
     cases Option.some.inj h1
     clear h1
     go_wp2
     go_ret2
     exact ⟨rfl, HB.out⟩
    | succ k1 =>
     have hi : i < l3.length := by have := HI.out; omega
     have hdec : decide ((i : Int) < (l3.length : Int)) = true := decide_eq_true (by omega)
     have p1 : (0 : Int) ≤ (i : Int) := by omega
     have p2 : (i : Int) < (l3.length : Int) := by omega
     obtain ⟨ad, e1, hx⟩ := Kd.zfa (Kd.zka HR3.out HB.out) (i : Int) p1 p2
     cases e1
     rw [Int.toNat_natCast] at hx
     have h1 := HH.out
     rw [List.drop_eq_getElem_cons hi] at h1
     rw [show rd l3 (i : Int) = l3[i] from by unfold rd; rw [Int.toNat_natCast, List.getD_eq_getElem?_getD, List.getElem?_eq_getElem hi]; rfl] at hx
     obtain ⟨c, hc, h2⟩ := Option.bind_eq_some_iff.mp h1
     generalize l3[i] = e at hx h1 hc h2
     have HC := za.mk hc
     have H2 := za.mk h2
     clear h1 hc h2 HH
     have hwr : wrap64 ((i : Int) + 1) = ((i + 1 : Nat) : Int) := by have := HLEN.out; unfold wrap64; omega
     have HWR := za.mk hwr
     clear hwr
     go_wp2_with (go_at_call 89; refine (spec_FillCost.costs k g A0 c0 l0 lw lb a2 a e c _ HG.out (Kd.zka HR0.out HB.out) HC0.out HC.out).mono ?_; rintro e_ w5 ⟨rfl, hb5⟩; have HB5 := za.mk (zg HB.out hb5); have HG5 := za.mk (HG.out.below hb5); have hx5 := ze hb5 hx; clear hb5)
     go_roundg k1
     case measure => omega
     case rel =>
      exact ⟨i + 1, _, _, rfl, rfl, by rw [← HWR.out], ⟨by have := HI.out; omega⟩, HG5, H2, HB5⟩
def impl_plainLook.f  : Option (Int × Int) := some (10, 0)
theorem impl_plainLook.calls  (r1 : Int) (r2 : Int) (w : World) (h : impl_plainLook.f  = some (r1, r2)) :
  Calls Try.prog 104 #[] w fun e w' => e = .returned (.agg #[.int .i64 r1, .int .i64 r2]) ∧ Below w.heap.size w w' := by
 have hu66 := Try.underlying66
 have HB := za.mk (Below.refl w.heap.size w)
 have H : (some (10, 0)) = some (r1, r2) := h
 clear h
 simp only [Option.some.injEq, Prod.mk.injEq] at H
 obtain ⟨rfl, rfl⟩ := H
 go_enter Try.func104, Try.ntmps104
 go_wp2_with (first | ((with_reducible refine zw (N := 0) rfl ?_); refine zca ?hg (N := 0) ?hd (cs := #[.int .i64 0, .int .i64 0]) (t := 66) ?hr ?_; (case hd => rfl); (case hg => rfl); (case hr => first | (go_simp; done) | (go_simp; rfl)); intro gb288 hg w1 hbox hb; have n0_ := za.mk (zg (by repeat (first | (with_reducible first | exact HB.out | apply zc | apply zb | apply zd) | exact HB.out)) hb); have n1_ := za.mk (hbox); have n2_ := za.mk ((by rw [hg]; exact (zp (by repeat (first | (with_reducible first | exact HB.out | apply zc | apply zb | apply zd) | exact HB.out))) : w.heap.size ≤ gb288)); have n3_ := za.mk ((by rw [hg]; exact (zp (by repeat (first | (with_reducible first | exact HB.out | apply zc | apply zb | apply zd) | exact HB.out))) : w.heap.size ≤ gb288)); clear HB; have HB := n0_; have BK288 := n1_; have GW288 := n2_; have GE288 := n3_; clear n0_ n1_ n2_ n3_; clear hb hbox hg; have hcz2_0 : w1.cell? ⟨gb288, 0, none⟩ = some (.int .i64 0) := (zf BK288.out 0).trans rfl; have hcz2_1 : w1.cell? ⟨gb288, 1, none⟩ = some (.int .i64 0) := (zf BK288.out 1).trans rfl; have hfz2_0 := zl BK288.out 0; have hfz2_1 := zl BK288.out 1))
 refine bodyPost_ret (results_cell_row rfl _ _ gb288 66 #[.int .i64 10, .int .i64 0] (0, 0) _ rfl (by (with_reducible repeat (first | refine zy ?_ _ | refine zaa ?_ | refine zx ?_ _)); refine zfb (cs := #[.int .i64 10, .int .i64 0]) ?_ 1 _ rfl; (with_reducible repeat (first | refine zy ?_ _ | refine zaa ?_ | refine zx ?_ _)); refine zfb (cs := #[.int .i64 0, .int .i64 0]) ?_ 0 _ rfl; (with_reducible repeat (first | refine zy ?_ _ | refine zaa ?_ | refine zx ?_ _)); exact BK288.out) Try.underlying66 rfl (by kernel_rfl)) rfl ?_
 exact ⟨by first | rfl | (simp [zh, zi] <;> rfl) | (simp [*, zh, zi] <;> rfl), by repeat (first | (with_reducible first | exact HB.out | apply zc | apply zb | apply zd | refine zu ?_ GE288.out) | exact HB.out)⟩
def impl_lookAt.l0 : Nat → Int → List (S40) → Int → Int → Option (Int × Int)
 | 0, _, _, _, _ => none
 | k + 1, x1, x7, x8, x9 => if x9 < x8 then (if 0 ≤ x9 then (if x9 < (x7.length : Int) then (if x1 ≥ ((zk x7 x9).f0) then (if x1 < ((zk x7 x9).f1) then (some ((zk x7 x9).f2, (zk x7 x9).f3)) else (impl_lookAt.l0 k x1 x7 x8 (wrap64 (x9 + 1)))) else (impl_lookAt.l0 k x1 x7 x8 (wrap64 (x9 + 1)))) else (none)) else (none)) else ((impl_plainLook.f).bind fun bt292 => (some (bt292.1, bt292.2)))
def impl_lookAt.f (k : Nat) (l0 : List (S40)) (a1 : Int) : Option (Int × Int) := impl_lookAt.l0 k a1 l0 (l0.length : Int) 0
theorem impl_lookAt.calls (k : Nat) (A0 : Option Addr) (c0 : Nat) (l0 : List (S40)) (a1 : Int) (r1 : Int) (r2 : Int) (w : World) (hr0 : Kd.C k40 w A0 l0.length l0) (hc0 : l0.length ≤ c0) (h : impl_lookAt.f k l0 a1 = some (r1, r2)) :
  Calls Try.prog 60 #[.slice A0 l0.length c0, .int .i64 a1] w fun e w' => e = .returned (.agg #[.int .i64 r1, .int .i64 r2]) ∧ Below w.heap.size w w' := by
 have hu66 := Try.underlying66
 have hu40 := Try.underlying40
 have HR0 := za.mk hr0
 have HC0 := za.mk hc0
 clear hr0 hc0
 have HB := za.mk (Below.refl w.heap.size w)
 have H : (impl_lookAt.l0 k a1 l0 (l0.length : Int) 0) = some (r1, r2) := h
 clear h
 have H' := za.mk H
 clear H
 go_enter Try.func60, Try.ntmps60
 go_wp2_with (first | ((with_reducible refine zw (N := 4) rfl ?_); refine zca ?hg (N := 4) ?hd (cs := #[.int .i64 0, .int .i64 0]) (t := 66) ?hr ?_; (case hd => rfl); (case hg => rfl); (case hr => first | (go_simp; done) | (go_simp; rfl)); intro gb289 hg w3 hbox hb; have n0_ := za.mk (zg (by repeat (first | (with_reducible first | exact HB.out | apply zc | apply zb | apply zd) | exact HB.out)) hb); have n1_ := za.mk (hbox); have n2_ := za.mk ((by rw [hg]; exact (zp (by repeat (first | (with_reducible first | exact HB.out | apply zc | apply zb | apply zd) | exact HB.out))) : w.heap.size ≤ gb289)); have n3_ := za.mk ((by rw [hg]; exact (zp (by repeat (first | (with_reducible first | exact HB.out | apply zc | apply zb | apply zd) | exact HB.out))) : w.heap.size ≤ gb289)); clear HB; have HB := n0_; have BK289 := n1_; have GW289 := n2_; have GE289 := n3_; clear n0_ n1_ n2_ n3_; clear hb hbox hg))
 go_loopg [9] k (fun kq v9 w' => ∃ (x9_1 : Int) (x290000_1 : Int) (x290001_1 : Int), v9 = .int .i64 x9_1 ∧ za (impl_lookAt.l0 kq a1 l0 (l0.length : Int) x9_1 = some (r1, r2)) ∧ za (kq ≤ k) ∧ za (w'.heap[gb289]? = some (.cells #[.int .i64 x290000_1, .int .i64 x290001_1] 66 (0, 0))) ∧ za (Below w.heap.size w w'))
 case atStart => exact ⟨(0), (0), (0), (by first | rfl | (simp; done) | (simp [*]; done)), H', ⟨Nat.le_refl _⟩, ⟨by (with_reducible repeat (first | refine zy ?_ _ | refine zaa ?_ | refine zx ?_ _)); exact BK289.out⟩, ⟨by repeat (first | (with_reducible first | exact HB.out | apply zc | apply zb | apply zd | refine zu ?_ GE289.out) | exact HB.out)⟩⟩
 case round =>
  clear H'
  try clear p2
  obtain ⟨x9_1, x290000_1, x290001_1, rfl, HA, HK1, BK289, HB⟩ := hrel
  cases gk with
  | zero => exact absurd HA.out (by simp [impl_lookAt.l0])
  | succ k1 =>
   have H := HA.out
   clear HA
   simp only [impl_lookAt.l0] at H
   by_cases c4 : x9_1 < (l0.length : Int)
   ·rw [if_pos c4] at H
    have c4b0 : decide (x9_1 < (l0.length : Int)) = true := decide_eq_true c4
    clear c4
    by_cases c5 : 0 ≤ x9_1
    ·rw [if_pos c5] at H
     have c5b0 : decide (0 ≤ x9_1) = true := decide_eq_true c5
     clear c5
     by_cases c6 : x9_1 < (l0.length : Int)
     ·rw [if_pos c6] at H
      have c6b0 : decide (x9_1 < (l0.length : Int)) = true := decide_eq_true c6
      clear c6
      by_cases c7 : a1 ≥ ((zk l0 x9_1).f0)
      ·rw [if_pos c7] at H
       have c7b0 : decide (((zk l0 x9_1).f0) ≤ a1) = true := decide_eq_true c7
       clear c7
       by_cases c8 : a1 < ((zk l0 x9_1).f1)
       ·rw [if_pos c8] at H
        have c8b0 : decide (a1 < ((zk l0 x9_1).f1)) = true := decide_eq_true c8
        clear c8
        simp only [Option.some.injEq, Prod.mk.injEq] at H
        obtain ⟨rfl, rfl⟩ := H
        have p290 : 0 ≤ (x9_1 : Int) := of_decide_eq_true (by assumption)
        have q290 : x9_1 < (l0.length : Int) := of_decide_eq_true (by assumption)
        obtain ⟨ad290, e290, hx290_0, hx290_1, hx290_2, hx290_3⟩ := zlb HR0.out x9_1 p290 q290
        cases e290
        replace hx290_0 := (HB.out.cell (World.block_lt_of_cell? w _ hx290_0)).trans hx290_0
        replace hx290_1 := (HB.out.cell (World.block_lt_of_cell? w _ hx290_1)).trans hx290_1
        replace hx290_2 := (HB.out.cell (World.block_lt_of_cell? w _ hx290_2)).trans hx290_2
        replace hx290_3 := (HB.out.cell (World.block_lt_of_cell? w _ hx290_3)).trans hx290_3
        replace p290 := eq_true p290
        replace q290 := eq_true q290
        go_wp2_with (first | ((with_reducible refine zw (N := 6) rfl ?_); refine zca ?hg (N := 6) ?hd (cs := #[.int .i64 0, .int .i64 0, .int .i64 0, .int .i64 0]) (t := 40) ?hr ?_; (case hd => rfl); (case hg => rfl); (case hr => first | (go_simp; done) | (go_simp; rfl)); intro gb291 hg w9 hbox hb; have n0_ := za.mk (zsa (g := gb289) (o := .cells #[.int .i64 x290000_1, .int .i64 x290001_1] 66 (0, 0)) (by (with_reducible repeat (first | refine zy ?_ _ | refine zaa ?_ | refine zx ?_ _)); exact BK289.out) hb); have n1_ := za.mk (zg (by repeat (first | (with_reducible first | exact HB.out | apply zc | apply zb | apply zd | refine zu ?_ GE289.out) | exact HB.out)) hb); have n2_ := za.mk (hbox); have n3_ := za.mk ((by rw [hg]; exact (zp (by repeat (first | (with_reducible first | exact HB.out | apply zc | apply zb | apply zd | refine zu ?_ GE289.out) | exact HB.out))) : w.heap.size ≤ gb291)); have n4_ := za.mk ((by rw [hg]; exact (zp (by repeat (first | (with_reducible first | exact HB.out | apply zc | apply zb | apply zd | refine zu ?_ GE289.out) | exact HB.out))) : w.heap.size ≤ gb291)); have n5_ := za.mk ((by rw [hg]; exact Nat.ne_of_lt (zta (g := gb289) (o := .cells #[.int .i64 x290000_1, .int .i64 x290001_1] 66 (0, 0)) (by (with_reducible repeat (first | refine zy ?_ _ | refine zaa ?_ | refine zx ?_ _)); exact BK289.out)) : gb289 ≠ gb291)); have n6_ := za.mk ((by rw [hg]; exact Nat.ne_of_gt (zta (g := gb289) (o := .cells #[.int .i64 x290000_1, .int .i64 x290001_1] 66 (0, 0)) (by (with_reducible repeat (first | refine zy ?_ _ | refine zaa ?_ | refine zx ?_ _)); exact BK289.out)) : gb291 ≠ gb289)); clear BK289; clear HB; have BK289 := n0_; have HB := n1_; have BK291 := n2_; have GW291 := n3_; have GE291 := n4_; have NB289_291 := n5_; have NB291_289 := n6_; clear n0_ n1_ n2_ n3_ n4_ n5_ n6_; clear hb hbox hg; have hnb10 := NB291_289.out; have hnc10 := NB289_291.out; have hcz11_0 : w9.cell? ⟨gb291, 0, none⟩ = some (.int .i64 0) := (zf BK291.out 0).trans rfl; have hcz11_1 : w9.cell? ⟨gb291, 1, none⟩ = some (.int .i64 0) := (zf BK291.out 1).trans rfl; have hcz11_2 : w9.cell? ⟨gb291, 2, none⟩ = some (.int .i64 0) := (zf BK291.out 2).trans rfl; have hcz11_3 : w9.cell? ⟨gb291, 3, none⟩ = some (.int .i64 0) := (zf BK291.out 3).trans rfl; have hfz11_0 := zl BK291.out 0; have hfz11_1 := zl BK291.out 1; have hfz11_2 := zl BK291.out 2; have hfz11_3 := zl BK291.out 3; have hcz12_0 : w9.cell? ⟨gb289, 0, none⟩ = some (.int .i64 x290000_1) := (zf BK289.out 0).trans rfl; have hcz12_1 : w9.cell? ⟨gb289, 1, none⟩ = some (.int .i64 x290001_1) := (zf BK289.out 1).trans rfl; have hfz12_0 := zl BK289.out 0; have hfz12_1 := zl BK289.out 1))
        refine bodyPost_ret (results_cell_row rfl _ _ gb289 66 #[.int .i64 ((zk l0 x9_1).f2), .int .i64 ((zk l0 x9_1).f3)] (0, 0) _ rfl (by (with_reducible repeat (first | refine zy ?_ _ | refine zaa ?_ | refine zx ?_ _)); refine zfb (cs := #[.int .i64 ((zk l0 x9_1).f2), .int .i64 x290001_1]) ?_ 1 _ rfl; (with_reducible repeat (first | refine zy ?_ _ | refine zaa ?_ | refine zx ?_ _)); refine zfb (cs := #[.int .i64 x290000_1, .int .i64 x290001_1]) ?_ 0 _ rfl; (with_reducible repeat (first | refine zy ?_ _ | refine zaa ?_ | refine zx ?_ _)); refine zvb ?_ NB289_291.out _; (with_reducible repeat (first | refine zy ?_ _ | refine zaa ?_ | refine zx ?_ _)); refine zvb ?_ NB289_291.out _; (with_reducible repeat (first | refine zy ?_ _ | refine zaa ?_ | refine zx ?_ _)); refine zvb ?_ NB289_291.out _; (with_reducible repeat (first | refine zy ?_ _ | refine zaa ?_ | refine zx ?_ _)); refine zvb ?_ NB289_291.out _; (with_reducible repeat (first | refine zy ?_ _ | refine zaa ?_ | refine zx ?_ _)); exact BK289.out) Try.underlying66 rfl (by kernel_rfl)) rfl ?_
        exact ⟨by first | rfl | (simp [zh, zi] <;> rfl) | (simp [*, zh, zi] <;> rfl), by repeat (first | (with_reducible first | exact HB.out | apply zc | apply zb | apply zd | refine zu ?_ GE289.out | refine zu ?_ GE291.out) | exact HB.out)⟩
       ·rw [if_neg c8] at H
        have c8b0 : decide (a1 < ((zk l0 x9_1).f1)) = false := decide_eq_false c8
        clear c8
        have H' := za.mk H
        clear H
        have p290 : 0 ≤ (x9_1 : Int) := of_decide_eq_true (by assumption)
        have q290 : x9_1 < (l0.length : Int) := of_decide_eq_true (by assumption)
        obtain ⟨ad290, e290, hx290_0, hx290_1, hx290_2, hx290_3⟩ := zlb HR0.out x9_1 p290 q290
        cases e290
        replace hx290_0 := (HB.out.cell (World.block_lt_of_cell? w _ hx290_0)).trans hx290_0
        replace hx290_1 := (HB.out.cell (World.block_lt_of_cell? w _ hx290_1)).trans hx290_1
        replace hx290_2 := (HB.out.cell (World.block_lt_of_cell? w _ hx290_2)).trans hx290_2
        replace hx290_3 := (HB.out.cell (World.block_lt_of_cell? w _ hx290_3)).trans hx290_3
        replace p290 := eq_true p290
        replace q290 := eq_true q290
        go_wp2_with (first | ((with_reducible refine zw (N := 6) rfl ?_); refine zca ?hg (N := 6) ?hd (cs := #[.int .i64 0, .int .i64 0, .int .i64 0, .int .i64 0]) (t := 40) ?hr ?_; (case hd => rfl); (case hg => rfl); (case hr => first | (go_simp; done) | (go_simp; rfl)); intro gb291 hg w13 hbox hb; have n0_ := za.mk (zsa (g := gb289) (o := .cells #[.int .i64 x290000_1, .int .i64 x290001_1] 66 (0, 0)) (by (with_reducible repeat (first | refine zy ?_ _ | refine zaa ?_ | refine zx ?_ _)); exact BK289.out) hb); have n1_ := za.mk (zg (by repeat (first | (with_reducible first | exact HB.out | apply zc | apply zb | apply zd | refine zu ?_ GE289.out) | exact HB.out)) hb); have n2_ := za.mk (hbox); have n3_ := za.mk ((by rw [hg]; exact (zp (by repeat (first | (with_reducible first | exact HB.out | apply zc | apply zb | apply zd | refine zu ?_ GE289.out) | exact HB.out))) : w.heap.size ≤ gb291)); have n4_ := za.mk ((by rw [hg]; exact (zp (by repeat (first | (with_reducible first | exact HB.out | apply zc | apply zb | apply zd | refine zu ?_ GE289.out) | exact HB.out))) : w.heap.size ≤ gb291)); have n5_ := za.mk ((by rw [hg]; exact Nat.ne_of_lt (zta (g := gb289) (o := .cells #[.int .i64 x290000_1, .int .i64 x290001_1] 66 (0, 0)) (by (with_reducible repeat (first | refine zy ?_ _ | refine zaa ?_ | refine zx ?_ _)); exact BK289.out)) : gb289 ≠ gb291)); have n6_ := za.mk ((by rw [hg]; exact Nat.ne_of_gt (zta (g := gb289) (o := .cells #[.int .i64 x290000_1, .int .i64 x290001_1] 66 (0, 0)) (by (with_reducible repeat (first | refine zy ?_ _ | refine zaa ?_ | refine zx ?_ _)); exact BK289.out)) : gb291 ≠ gb289)); clear BK289; clear HB; have BK289 := n0_; have HB := n1_; have BK291 := n2_; have GW291 := n3_; have GE291 := n4_; have NB289_291 := n5_; have NB291_289 := n6_; clear n0_ n1_ n2_ n3_ n4_ n5_ n6_; clear hb hbox hg; have hnb14 := NB291_289.out; have hnc14 := NB289_291.out; have hcz15_0 : w13.cell? ⟨gb291, 0, none⟩ = some (.int .i64 0) := (zf BK291.out 0).trans rfl; have hcz15_1 : w13.cell? ⟨gb291, 1, none⟩ = some (.int .i64 0) := (zf BK291.out 1).trans rfl; have hcz15_2 : w13.cell? ⟨gb291, 2, none⟩ = some (.int .i64 0) := (zf BK291.out 2).trans rfl; have hcz15_3 : w13.cell? ⟨gb291, 3, none⟩ = some (.int .i64 0) := (zf BK291.out 3).trans rfl; have hfz15_0 := zl BK291.out 0; have hfz15_1 := zl BK291.out 1; have hfz15_2 := zl BK291.out 2; have hfz15_3 := zl BK291.out 3))
        go_roundg k1
        case measure => have := HK1.out; omega
        case rel => exact ⟨(wrap64 (x9_1 + 1)), (x290000_1), (x290001_1), (by first | rfl | (simp; done) | (simp [*]; done)), H', ⟨by have := HK1.out; omega⟩, ⟨by (with_reducible repeat (first | refine zy ?_ _ | refine zaa ?_ | refine zx ?_ _)); refine zvb ?_ NB289_291.out _; (with_reducible repeat (first | refine zy ?_ _ | refine zaa ?_ | refine zx ?_ _)); refine zvb ?_ NB289_291.out _; (with_reducible repeat (first | refine zy ?_ _ | refine zaa ?_ | refine zx ?_ _)); refine zvb ?_ NB289_291.out _; (with_reducible repeat (first | refine zy ?_ _ | refine zaa ?_ | refine zx ?_ _)); refine zvb ?_ NB289_291.out _; (with_reducible repeat (first | refine zy ?_ _ | refine zaa ?_ | refine zx ?_ _)); exact BK289.out⟩, ⟨by repeat (first | (with_reducible first | exact HB.out | apply zc | apply zb | apply zd | refine zu ?_ GE289.out | refine zu ?_ GE291.out) | exact HB.out)⟩⟩
      ·rw [if_neg c7] at H
       have c7b0 : decide (((zk l0 x9_1).f0) ≤ a1) = false := decide_eq_false c7
       clear c7
       have H' := za.mk H
       clear H
       have p290 : 0 ≤ (x9_1 : Int) := of_decide_eq_true (by assumption)
       have q290 : x9_1 < (l0.length : Int) := of_decide_eq_true (by assumption)
       obtain ⟨ad290, e290, hx290_0, hx290_1, hx290_2, hx290_3⟩ := zlb HR0.out x9_1 p290 q290
       cases e290
       replace hx290_0 := (HB.out.cell (World.block_lt_of_cell? w _ hx290_0)).trans hx290_0
       replace hx290_1 := (HB.out.cell (World.block_lt_of_cell? w _ hx290_1)).trans hx290_1
       replace hx290_2 := (HB.out.cell (World.block_lt_of_cell? w _ hx290_2)).trans hx290_2
       replace hx290_3 := (HB.out.cell (World.block_lt_of_cell? w _ hx290_3)).trans hx290_3
       replace p290 := eq_true p290
       replace q290 := eq_true q290
       go_wp2_with (first | ((with_reducible refine zw (N := 6) rfl ?_); refine zca ?hg (N := 6) ?hd (cs := #[.int .i64 0, .int .i64 0, .int .i64 0, .int .i64 0]) (t := 40) ?hr ?_; (case hd => rfl); (case hg => rfl); (case hr => first | (go_simp; done) | (go_simp; rfl)); intro gb291 hg w16 hbox hb; have n0_ := za.mk (zsa (g := gb289) (o := .cells #[.int .i64 x290000_1, .int .i64 x290001_1] 66 (0, 0)) (by (with_reducible repeat (first | refine zy ?_ _ | refine zaa ?_ | refine zx ?_ _)); exact BK289.out) hb); have n1_ := za.mk (zg (by repeat (first | (with_reducible first | exact HB.out | apply zc | apply zb | apply zd | refine zu ?_ GE289.out) | exact HB.out)) hb); have n2_ := za.mk (hbox); have n3_ := za.mk ((by rw [hg]; exact (zp (by repeat (first | (with_reducible first | exact HB.out | apply zc | apply zb | apply zd | refine zu ?_ GE289.out) | exact HB.out))) : w.heap.size ≤ gb291)); have n4_ := za.mk ((by rw [hg]; exact (zp (by repeat (first | (with_reducible first | exact HB.out | apply zc | apply zb | apply zd | refine zu ?_ GE289.out) | exact HB.out))) : w.heap.size ≤ gb291)); have n5_ := za.mk ((by rw [hg]; exact Nat.ne_of_lt (zta (g := gb289) (o := .cells #[.int .i64 x290000_1, .int .i64 x290001_1] 66 (0, 0)) (by (with_reducible repeat (first | refine zy ?_ _ | refine zaa ?_ | refine zx ?_ _)); exact BK289.out)) : gb289 ≠ gb291)); have n6_ := za.mk ((by rw [hg]; exact Nat.ne_of_gt (zta (g := gb289) (o := .cells #[.int .i64 x290000_1, .int .i64 x290001_1] 66 (0, 0)) (by (with_reducible repeat (first | refine zy ?_ _ | refine zaa ?_ | refine zx ?_ _)); exact BK289.out)) : gb291 ≠ gb289)); clear BK289; clear HB; have BK289 := n0_; have HB := n1_; have BK291 := n2_; have GW291 := n3_; have GE291 := n4_; have NB289_291 := n5_; have NB291_289 := n6_; clear n0_ n1_ n2_ n3_ n4_ n5_ n6_; clear hb hbox hg; have hnb17 := NB291_289.out; have hnc17 := NB289_291.out; have hcz18_0 : w16.cell? ⟨gb291, 0, none⟩ = some (.int .i64 0) := (zf BK291.out 0).trans rfl; have hcz18_1 : w16.cell? ⟨gb291, 1, none⟩ = some (.int .i64 0) := (zf BK291.out 1).trans rfl; have hcz18_2 : w16.cell? ⟨gb291, 2, none⟩ = some (.int .i64 0) := (zf BK291.out 2).trans rfl; have hcz18_3 : w16.cell? ⟨gb291, 3, none⟩ = some (.int .i64 0) := (zf BK291.out 3).trans rfl; have hfz18_0 := zl BK291.out 0; have hfz18_1 := zl BK291.out 1; have hfz18_2 := zl BK291.out 2; have hfz18_3 := zl BK291.out 3))
       go_roundg k1
       case measure => have := HK1.out; omega
       case rel => exact ⟨(wrap64 (x9_1 + 1)), (x290000_1), (x290001_1), (by first | rfl | (simp; done) | (simp [*]; done)), H', ⟨by have := HK1.out; omega⟩, ⟨by (with_reducible repeat (first | refine zy ?_ _ | refine zaa ?_ | refine zx ?_ _)); refine zvb ?_ NB289_291.out _; (with_reducible repeat (first | refine zy ?_ _ | refine zaa ?_ | refine zx ?_ _)); refine zvb ?_ NB289_291.out _; (with_reducible repeat (first | refine zy ?_ _ | refine zaa ?_ | refine zx ?_ _)); refine zvb ?_ NB289_291.out _; (with_reducible repeat (first | refine zy ?_ _ | refine zaa ?_ | refine zx ?_ _)); refine zvb ?_ NB289_291.out _; (with_reducible repeat (first | refine zy ?_ _ | refine zaa ?_ | refine zx ?_ _)); exact BK289.out⟩, ⟨by repeat (first | (with_reducible first | exact HB.out | apply zc | apply zb | apply zd | refine zu ?_ GE289.out | refine zu ?_ GE291.out) | exact HB.out)⟩⟩
     ·rw [if_neg c6] at H
      exact absurd H (by simp)
    ·rw [if_neg c5] at H
     exact absurd H (by simp)
   ·rw [if_neg c4] at H
    have c4b0 : decide (x9_1 < (l0.length : Int)) = false := decide_eq_false c4
    clear c4
    replace H := Option.bind_eq_some_iff.mp H
    obtain ⟨⟨t292, t293⟩, A190, H⟩ := H
    replace H : (some (t292, t293)) = some (r1, r2) := H
    have A19 := za.mk A190
    clear A190
    simp only [Option.some.injEq, Prod.mk.injEq] at H
    obtain ⟨rfl, rfl⟩ := H
    go_wp2_with (first | ((with_reducible refine zj (f := 104) rfl ?_); refine zgo (some 29) Try.func104 #[] rfl ?_; (with_reducible refine (impl_plainLook.calls  t292 t293 _ A19.out).mono ?_); rintro e w20 ⟨rfl, hb⟩; refine ⟨_, rfl, ?_⟩; have n0_ := za.mk (zsa (g := gb289) (o := .cells #[.int .i64 x290000_1, .int .i64 x290001_1] 66 (0, 0)) (by (with_reducible repeat (first | refine zy ?_ _ | refine zaa ?_ | refine zx ?_ _)); exact BK289.out) hb); have n1_ := za.mk (zg (by repeat (first | (with_reducible first | exact HB.out | apply zc | apply zb | apply zd | refine zu ?_ GE289.out) | exact HB.out)) hb); clear BK289; clear HB; have BK289 := n0_; have HB := n1_; clear n0_ n1_; (try clear hb); (try clear hb2); (try clear hk); (try clear hi); have hcz21_0 : w20.cell? ⟨gb289, 0, none⟩ = some (.int .i64 x290000_1) := (zf BK289.out 0).trans rfl; have hcz21_1 : w20.cell? ⟨gb289, 1, none⟩ = some (.int .i64 x290001_1) := (zf BK289.out 1).trans rfl; have hfz21_0 := zl BK289.out 0; have hfz21_1 := zl BK289.out 1))
    refine bodyPost_ret (results_cell_row rfl _ _ gb289 66 #[.int .i64 t292, .int .i64 t293] (0, 0) _ rfl (by (with_reducible repeat (first | refine zy ?_ _ | refine zaa ?_ | refine zx ?_ _)); refine zfb (cs := #[.int .i64 t292, .int .i64 x290001_1]) ?_ 1 _ rfl; (with_reducible repeat (first | refine zy ?_ _ | refine zaa ?_ | refine zx ?_ _)); refine zfb (cs := #[.int .i64 x290000_1, .int .i64 x290001_1]) ?_ 0 _ rfl; (with_reducible repeat (first | refine zy ?_ _ | refine zaa ?_ | refine zx ?_ _)); exact BK289.out) Try.underlying66 rfl (by kernel_rfl)) rfl ?_
    exact ⟨by first | rfl | (simp [zh, zi] <;> rfl) | (simp [*, zh, zi] <;> rfl), by repeat (first | (with_reducible first | exact HB.out | apply zc | apply zb | apply zd | refine zu ?_ GE289.out) | exact HB.out)⟩
-- NOT PRINTED: function 163 (impl_reach_int)
def cmp_isNaN_int.f (a0 : Int) : Option (Bool) := some (a0 != a0)
theorem cmp_isNaN_int.calls (a0 : Int) (r : Bool) (w : World) (h : cmp_isNaN_int.f a0 = some r) :
  Calls Try.prog 171 #[.int .i64 a0] w fun e w' => e = .returned (.bool r) ∧ zm w w' := by
 have H : (some (a0 != a0)) = some r := h
 clear h
 obtain rfl := Option.some.inj H
 go_enter Try.func171, Try.ntmps171
 go_wp2
 go_ret
 exact ⟨by first | rfl | (simp; done) | (simp [*]; done), by repeat (first | exact zm.refl _ | apply zm.step)⟩
def cmp_Compare_int.f (a0 : Int) (a1 : Int) : Option (Int) := (cmp_isNaN_int.f a0).bind fun t294 => ((cmp_isNaN_int.f a1).bind fun t295 => (if t294 = true then (if t295 = true then (some 0) else (some (-1))) else (if t295 = true then (some 1) else (if a0 < a1 then (some (-1)) else (if a0 > a1 then (some 1) else (some 0))))))
theorem cmp_Compare_int.calls (a0 : Int) (a1 : Int) (r : Int) (w : World) (h : cmp_Compare_int.f a0 a1 = some r) :
  Calls Try.prog 165 #[.int .i64 a0, .int .i64 a1] w fun e w' => e = .returned (.int .i64 r) ∧ zm w w' := by
 have H : ((cmp_isNaN_int.f a0).bind fun t294 => ((cmp_isNaN_int.f a1).bind fun t295 => (if t294 = true then (if t295 = true then (some 0) else (some (-1))) else (if t295 = true then (some 1) else (if a0 < a1 then (some (-1)) else (if a0 > a1 then (some 1) else (some 0))))))) = some r := h
 clear h
 replace H := Option.bind_eq_some_iff.mp H
 obtain ⟨t294, A30, H⟩ := H
 replace H : ((cmp_isNaN_int.f a1).bind fun t295 => (if t294 = true then (if t295 = true then (some 0) else (some (-1))) else (if t295 = true then (some 1) else (if a0 < a1 then (some (-1)) else (if a0 > a1 then (some 1) else (some 0)))))) = some r := H
 have A3 := za.mk A30
 clear A30
 replace H := Option.bind_eq_some_iff.mp H
 obtain ⟨t295, A40, H⟩ := H
 replace H : (if t294 = true then (if t295 = true then (some 0) else (some (-1))) else (if t295 = true then (some 1) else (if a0 < a1 then (some (-1)) else (if a0 > a1 then (some 1) else (some 0))))) = some r := H
 have A4 := za.mk A40
 clear A40
 by_cases c5 : t294 = true
 ·subst c5
  have H1 : (if t295 = true then (some 0) else (some (-1))) = some r := by rw [if_pos rfl] at H; exact H
  clear H
  have H := H1
  clear H1
  by_cases c6 : t295 = true
  ·subst c6
   have H1 : (some 0) = some r := by rw [if_pos rfl] at H; exact H
   clear H
   have H := H1
   clear H1
   obtain rfl := Option.some.inj H
   go_enter Try.func165, Try.ntmps165
   go_wp2_with (first | ((with_reducible refine zj (f := 171) rfl ?_); refine zgo (some 8) Try.func171 #[.int .i64 a0] rfl ?_; (with_reducible refine (cmp_isNaN_int.calls a0 true _ A3.out).mono ?_); rintro e w' ⟨rfl, ⟨nd, rfl⟩⟩; refine ⟨_, rfl, ?_⟩) | ((with_reducible refine zj (f := 171) rfl ?_); refine zgo (some 10) Try.func171 #[.int .i64 a1] rfl ?_; (with_reducible refine (cmp_isNaN_int.calls a1 true _ A4.out).mono ?_); rintro e w' ⟨rfl, ⟨nd, rfl⟩⟩; refine ⟨_, rfl, ?_⟩))
   go_ret
   exact ⟨by first | rfl | (simp; done) | (simp [*]; done), by repeat (first | exact zm.refl _ | apply zm.step)⟩
  ·replace c6 := Bool.eq_false_iff.mpr c6
   subst c6
   have H1 : (some (-1)) = some r := by rw [if_neg (show ¬ (false = true) by decide)] at H; exact H
   clear H
   have H := H1
   clear H1
   obtain rfl := Option.some.inj H
   go_enter Try.func165, Try.ntmps165
   go_wp2_with (first | ((with_reducible refine zj (f := 171) rfl ?_); refine zgo (some 8) Try.func171 #[.int .i64 a0] rfl ?_; (with_reducible refine (cmp_isNaN_int.calls a0 true _ A3.out).mono ?_); rintro e w' ⟨rfl, ⟨nd, rfl⟩⟩; refine ⟨_, rfl, ?_⟩) | ((with_reducible refine zj (f := 171) rfl ?_); refine zgo (some 10) Try.func171 #[.int .i64 a1] rfl ?_; (with_reducible refine (cmp_isNaN_int.calls a1 false _ A4.out).mono ?_); rintro e w' ⟨rfl, ⟨nd, rfl⟩⟩; refine ⟨_, rfl, ?_⟩))
   go_ret
   exact ⟨by first | rfl | (simp; done) | (simp [*]; done), by repeat (first | exact zm.refl _ | apply zm.step)⟩
 ·replace c5 := Bool.eq_false_iff.mpr c5
  subst c5
  have H1 : (if t295 = true then (some 1) else (if a0 < a1 then (some (-1)) else (if a0 > a1 then (some 1) else (some 0)))) = some r := by rw [if_neg (show ¬ (false = true) by decide)] at H; exact H
  clear H
  have H := H1
  clear H1
  by_cases c7 : t295 = true
  ·subst c7
   have H1 : (some 1) = some r := by rw [if_pos rfl] at H; exact H
   clear H
   have H := H1
   clear H1
   obtain rfl := Option.some.inj H
   go_enter Try.func165, Try.ntmps165
   go_wp2_with (first | ((with_reducible refine zj (f := 171) rfl ?_); refine zgo (some 8) Try.func171 #[.int .i64 a0] rfl ?_; (with_reducible refine (cmp_isNaN_int.calls a0 false _ A3.out).mono ?_); rintro e w' ⟨rfl, ⟨nd, rfl⟩⟩; refine ⟨_, rfl, ?_⟩) | ((with_reducible refine zj (f := 171) rfl ?_); refine zgo (some 10) Try.func171 #[.int .i64 a1] rfl ?_; (with_reducible refine (cmp_isNaN_int.calls a1 true _ A4.out).mono ?_); rintro e w' ⟨rfl, ⟨nd, rfl⟩⟩; refine ⟨_, rfl, ?_⟩))
   go_ret
   exact ⟨by first | rfl | (simp; done) | (simp [*]; done), by repeat (first | exact zm.refl _ | apply zm.step)⟩
  ·replace c7 := Bool.eq_false_iff.mpr c7
   subst c7
   have H1 : (if a0 < a1 then (some (-1)) else (if a0 > a1 then (some 1) else (some 0))) = some r := by rw [if_neg (show ¬ (false = true) by decide)] at H; exact H
   clear H
   have H := H1
   clear H1
   by_cases c8 : a0 < a1
   ·rw [if_pos c8] at H
    have c8b0 : decide (a0 < a1) = true := decide_eq_true c8
    clear c8
    obtain rfl := Option.some.inj H
    go_enter Try.func165, Try.ntmps165
    go_wp2_with (first | ((with_reducible refine zj (f := 171) rfl ?_); refine zgo (some 8) Try.func171 #[.int .i64 a0] rfl ?_; (with_reducible refine (cmp_isNaN_int.calls a0 false _ A3.out).mono ?_); rintro e w' ⟨rfl, ⟨nd, rfl⟩⟩; refine ⟨_, rfl, ?_⟩) | ((with_reducible refine zj (f := 171) rfl ?_); refine zgo (some 10) Try.func171 #[.int .i64 a1] rfl ?_; (with_reducible refine (cmp_isNaN_int.calls a1 false _ A4.out).mono ?_); rintro e w' ⟨rfl, ⟨nd, rfl⟩⟩; refine ⟨_, rfl, ?_⟩))
    go_ret
    exact ⟨by first | rfl | (simp; done) | (simp [*]; done), by repeat (first | exact zm.refl _ | apply zm.step)⟩
   ·rw [if_neg c8] at H
    have c8b0 : decide (a0 < a1) = false := decide_eq_false c8
    clear c8
    by_cases c9 : a0 > a1
    ·rw [if_pos c9] at H
     have c9b0 : decide (a1 < a0) = true := decide_eq_true c9
     clear c9
     obtain rfl := Option.some.inj H
     go_enter Try.func165, Try.ntmps165
     go_wp2_with (first | ((with_reducible refine zj (f := 171) rfl ?_); refine zgo (some 8) Try.func171 #[.int .i64 a0] rfl ?_; (with_reducible refine (cmp_isNaN_int.calls a0 false _ A3.out).mono ?_); rintro e w' ⟨rfl, ⟨nd, rfl⟩⟩; refine ⟨_, rfl, ?_⟩) | ((with_reducible refine zj (f := 171) rfl ?_); refine zgo (some 10) Try.func171 #[.int .i64 a1] rfl ?_; (with_reducible refine (cmp_isNaN_int.calls a1 false _ A4.out).mono ?_); rintro e w' ⟨rfl, ⟨nd, rfl⟩⟩; refine ⟨_, rfl, ?_⟩))
     go_ret
     exact ⟨by first | rfl | (simp; done) | (simp [*]; done), by repeat (first | exact zm.refl _ | apply zm.step)⟩
    ·rw [if_neg c9] at H
     have c9b0 : decide (a1 < a0) = false := decide_eq_false c9
     clear c9
     obtain rfl := Option.some.inj H
     go_enter Try.func165, Try.ntmps165
     go_wp2_with (first | ((with_reducible refine zj (f := 171) rfl ?_); refine zgo (some 8) Try.func171 #[.int .i64 a0] rfl ?_; (with_reducible refine (cmp_isNaN_int.calls a0 false _ A3.out).mono ?_); rintro e w' ⟨rfl, ⟨nd, rfl⟩⟩; refine ⟨_, rfl, ?_⟩) | ((with_reducible refine zj (f := 171) rfl ?_); refine zgo (some 10) Try.func171 #[.int .i64 a1] rfl ?_; (with_reducible refine (cmp_isNaN_int.calls a1 false _ A4.out).mono ?_); rintro e w' ⟨rfl, ⟨nd, rfl⟩⟩; refine ⟨_, rfl, ?_⟩))
     go_ret
     exact ⟨by first | rfl | (simp; done) | (simp [*]; done), by repeat (first | exact zm.refl _ | apply zm.step)⟩
end Go.Proofs.Ytmjhdgofepdgkaa.PFnExactFillCost
