-- Written by a program of this session (wip/tools) out of the translation; its shape is that of the kit print.
import Derived.Test.YtmjhdgofepdgkaaPFnWidesx0
import Derived.Test.YtmjhdgofepdgkaaPFnWidesx6
import Derived.Test.YtmjhdgofepdgkaaPFnWidesx9
import Derived.Test.YtmjhdgofepdgkaaPFnWidesx10
namespace Go.Proofs.Ytmjhdgofepdgkaa.PFnWides
open Go.RowKit Go.Proofs.YtmjhdgofepdgkaaW.PrintWords Go.Proofs.YtmjhdgofepdgkaaW.PrintLast Go.Proofs.YtmjhdgofepdgkaaW.PrintMore
attribute [local go_sem] zlb znb zvb zwb zbb zcb zob zqb
set_option linter.unusedVariables false
set_option maxHeartbeats 8000000
set_option maxRecDepth 100000
set_option linter.unusedSimpArgs false
def impl_startOf.l0 : Nat → Int → List Bool → Option (Int)
 | 0, _, _ => none
 | k + 1, x1, x5 => if 0 ≤ x1 then (if x1 < (x5.length : Int) then (if rdOf false x5 x1 = true then (impl_startOf.l0 k (wrap64 (x1 - 1)) x5) else (some x1)) else (none)) else (none)
def impl_startOf.f (k : Nat) (l0 : List Int) (a1 : Int) : Option (Int) := (impl_joined.f k l0).bind fun t453 => (impl_startOf.l0 k a1 t453)
theorem impl_startOf.calls (k : Nat) (A0 : Option Addr) (c0 : Nat) (l0 : List Int) (a1 : Int) (r : Int) (w : World) (hr0 : Kd.C (Kd.int .i64) w A0 l0.length l0) (hc0 : l0.length ≤ c0) (h : impl_startOf.f k l0 a1 = some r) :
  Calls Try.prog 61 #[.slice A0 l0.length c0, .int .i64 a1] w fun e w' => e = .returned (.int .i64 r) ∧ Below w.heap.size w w' := by
 have HR0 := za.mk hr0
 have HC0 := za.mk hc0
 clear hr0 hc0
 have HB := za.mk (Below.refl w.heap.size w)
 have H : ((impl_joined.f k l0).bind fun t453 => (impl_startOf.l0 k a1 t453)) = some r := h
 clear h
 replace H := Option.bind_eq_some_iff.mp H
 obtain ⟨t453, A30, H⟩ := H
 replace H : (impl_startOf.l0 k a1 t453) = some r := H
 have A3 := za.mk A30
 clear A30
 have H' := za.mk H
 clear H
 go_enter Try.func61, Try.ntmps61
 go_wp2_with (first | ((with_reducible refine zt (f := 105) rfl ?_); refine zgo (some 7) Try.func105 #[.slice A0 l0.length c0] rfl ?_; (with_reducible refine (impl_joined.calls k _ _ l0 t453 _ ?side1 ?side2 A3.out).mono ?_); (case side1 => repeat (first | exact HR0.out | (with_reducible refine Kd.zca ?_ _) | (with_reducible refine Kd.zda ?_ _) | (with_reducible refine Kd.zfa ?_))); (case side2 => exact HC0.out); rintro e w4 ⟨v454, rfl, ho0, hb⟩; refine ⟨_, rfl, ?_⟩; have n0_ := za.mk (Kd.zqa ho0 (zaa (by repeat (first | (with_reducible first | exact HB.out | apply ze | apply zb | apply zd) | exact HB.out)))); have n1_ := za.mk (zv (by repeat (first | (with_reducible first | exact HB.out | apply ze | apply zb | apply zd) | exact HB.out)) hb); clear HB; have HO455 := n0_; have HB := n1_; clear n0_ n1_; (try clear hb); (try clear hb2); (try clear hk); (try clear hi); (try clear ho0)))
 go_loopg [1] k (fun kq v1 w' => ∃ (x1_1 : Int), v1 = .int .i64 x1_1 ∧ za (impl_startOf.l0 kq x1_1 t453 = some r) ∧ za (kq ≤ k) ∧ za (Kd.R Kd.bool 4 w' w.heap.size (fun _ => True) v454 t453) ∧ za (Below w.heap.size w w'))
 case atStart => exact ⟨(a1), (by first | rfl | (simp; done) | (simp [*]; done)), H', ⟨Nat.le_refl _⟩, ⟨by (with_reducible repeat (first | apply Kd.zg | apply Kd.zh | apply Kd.zm)); exact HO455.out⟩, ⟨by repeat (first | (with_reducible first | exact HB.out | apply ze | apply zb | apply zd) | exact HB.out)⟩⟩
 case round =>
  clear H'
  try clear c1
  try clear p2
  obtain ⟨x1_1, rfl, HA, HK1, HO_5, HB⟩ := hrel
  cases gk with
  | zero => exact absurd HA.out (by simp [impl_startOf.l0])
  | succ k1 =>
   have H := HA.out
   clear HA
   simp only [impl_startOf.l0] at H
   by_cases c5 : 0 ≤ x1_1
   ·rw [if_pos c5] at H
    have c5b0 : decide (0 ≤ x1_1) = true := decide_eq_true c5
    clear c5
    by_cases c6 : x1_1 < (t453.length : Int)
    ·rw [if_pos c6] at H
     have c6b0 : decide (x1_1 < (t453.length : Int)) = true := decide_eq_true c6
     clear c6
     obtain ⟨bq7, hbq7⟩ : ∃ b_ : Bool, b_ = (rdOf false t453 x1_1) := ⟨_, rfl⟩
     replace H : (if bq7 = true then (impl_startOf.l0 k1 (wrap64 (x1_1 - 1)) t453) else (some x1_1)) = some r := by rw [← hbq7] at H; exact H
     have Nbq7 := za.mk hbq7
     clear hbq7
     by_cases c8 : bq7 = true
     ·subst c8
      have H1 : (impl_startOf.l0 k1 (wrap64 (x1_1 - 1)) t453) = some r := by rw [if_pos rfl] at H; exact H
      clear H
      have H := H1
      clear H1
      have H' := za.mk H
      clear H
      obtain ⟨Ao9, co9, eo9⟩ := Kd.zka HO_5.out
      subst eo9
      have p456 : 0 ≤ (x1_1 : Int) := of_decide_eq_true (by assumption)
      have q456 : x1_1 < (t453.length : Int) := of_decide_eq_true (by assumption)
      obtain ⟨ad456, e456, hx456_0⟩ := Kd.at_bool (Kd.zw HO_5.out).2.2 x1_1 p456 q456
      (try rw [← Nbq7.out] at hx456_0)
      cases e456
      replace p456 := eq_true p456
      replace q456 := eq_true q456
      go_wp2
      go_roundg k1
      case measure => have := HK1.out; omega
      case rel => exact ⟨(wrap64 (x1_1 - 1)), (by first | rfl | (simp; done) | (simp [*]; done)), H', ⟨by have := HK1.out; omega⟩, ⟨by (with_reducible repeat (first | apply Kd.zg | apply Kd.zh | apply Kd.zm)); exact HO_5.out⟩, ⟨by repeat (first | (with_reducible first | exact HB.out | apply ze | apply zb | apply zd) | exact HB.out)⟩⟩
     ·replace c8 := Bool.eq_false_iff.mpr c8
      subst c8
      have H1 : (some x1_1) = some r := by rw [if_neg (show ¬ (false = true) by decide)] at H; exact H
      clear H
      have H := H1
      clear H1
      obtain rfl := Option.some.inj H
      obtain ⟨Ao10, co10, eo10⟩ := Kd.zka HO_5.out
      subst eo10
      have p456 : 0 ≤ (x1_1 : Int) := of_decide_eq_true (by assumption)
      have q456 : x1_1 < (t453.length : Int) := of_decide_eq_true (by assumption)
      obtain ⟨ad456, e456, hx456_0⟩ := Kd.at_bool (Kd.zw HO_5.out).2.2 x1_1 p456 q456
      (try rw [← Nbq7.out] at hx456_0)
      cases e456
      replace p456 := eq_true p456
      replace q456 := eq_true q456
      go_wp2
      go_ret
      exact ⟨by first | rfl | (simp [zi, zj] <;> rfl) | (simp [*, zi, zj] <;> rfl), by repeat (first | (with_reducible first | exact HB.out | apply ze | apply zb | apply zd) | exact HB.out)⟩
    ·rw [if_neg c6] at H
     exact absurd H (by simp)
   ·rw [if_neg c5] at H
    exact absurd H (by simp)
def impl_ClusterAt.f (k : Nat) (l0 : List Int) (a1 : Int) : Option (Int) := (impl_lettersOk.f l0).bind fun t457 => (if t457 = true then (if a1 < 0 then (some (-1)) else (if a1 ≥ (l0.length : Int) then (some (-1)) else ((impl_startOf.f k l0 a1).bind fun t458 => (some t458)))) else (some (-1)))
theorem impl_ClusterAt.calls (k : Nat) (A0 : Option Addr) (c0 : Nat) (l0 : List Int) (a1 : Int) (r : Int) (w : World) (hr0 : Kd.C (Kd.int .i64) w A0 l0.length l0) (hc0 : l0.length ≤ c0) (h : impl_ClusterAt.f k l0 a1 = some r) :
  Calls Try.prog 27 #[.slice A0 l0.length c0, .int .i64 a1] w fun e w' => e = .returned (.int .i64 r) ∧ Below w.heap.size w w' := by
 have HR0 := za.mk hr0
 have HC0 := za.mk hc0
 clear hr0 hc0
 have HB := za.mk (Below.refl w.heap.size w)
 have H : ((impl_lettersOk.f l0).bind fun t457 => (if t457 = true then (if a1 < 0 then (some (-1)) else (if a1 ≥ (l0.length : Int) then (some (-1)) else ((impl_startOf.f k l0 a1).bind fun t458 => (some t458)))) else (some (-1)))) = some r := h
 clear h
 replace H := Option.bind_eq_some_iff.mp H
 obtain ⟨t457, A30, H⟩ := H
 replace H : (if t457 = true then (if a1 < 0 then (some (-1)) else (if a1 ≥ (l0.length : Int) then (some (-1)) else ((impl_startOf.f k l0 a1).bind fun t458 => (some t458)))) else (some (-1))) = some r := H
 have A3 := za.mk A30
 clear A30
 by_cases c4 : t457 = true
 ·subst c4
  have H1 : (if a1 < 0 then (some (-1)) else (if a1 ≥ (l0.length : Int) then (some (-1)) else ((impl_startOf.f k l0 a1).bind fun t458 => (some t458)))) = some r := by rw [if_pos rfl] at H; exact H
  clear H
  have H := H1
  clear H1
  by_cases c5 : a1 < 0
  ·rw [if_pos c5] at H
   have c5b0 : decide (a1 < 0) = true := decide_eq_true c5
   clear c5
   obtain rfl := Option.some.inj H
   go_enter Try.func27, Try.ntmps27
   go_wp2_with (first | ((with_reducible refine zt (f := 53) rfl ?_); refine zgo (some 6) Try.func53 #[.slice A0 l0.length c0] rfl ?_; (with_reducible refine (impl_lettersOk.calls _ _ l0 true _ ?side1 ?side2 A3.out).mono ?_); (case side1 => repeat (first | exact HR0.out | (with_reducible refine Kd.zca ?_ _) | (with_reducible refine Kd.zda ?_ _) | (with_reducible refine Kd.zfa ?_))); (case side2 => exact HC0.out); rintro e w' ⟨rfl, ⟨nd, rfl⟩⟩; refine ⟨_, rfl, ?_⟩))
   go_ret
   exact ⟨by first | rfl | (simp [zi, zj] <;> rfl) | (simp [*, zi, zj] <;> rfl), by repeat (first | (with_reducible first | exact HB.out | apply ze | apply zb | apply zd) | exact HB.out)⟩
  ·rw [if_neg c5] at H
   have c5b0 : decide (a1 < 0) = false := decide_eq_false c5
   clear c5
   by_cases c6 : a1 ≥ (l0.length : Int)
   ·rw [if_pos c6] at H
    have c6b0 : decide ((l0.length : Int) ≤ a1) = true := decide_eq_true c6
    clear c6
    obtain rfl := Option.some.inj H
    go_enter Try.func27, Try.ntmps27
    go_wp2_with (first | ((with_reducible refine zt (f := 53) rfl ?_); refine zgo (some 6) Try.func53 #[.slice A0 l0.length c0] rfl ?_; (with_reducible refine (impl_lettersOk.calls _ _ l0 true _ ?side1 ?side2 A3.out).mono ?_); (case side1 => repeat (first | exact HR0.out | (with_reducible refine Kd.zca ?_ _) | (with_reducible refine Kd.zda ?_ _) | (with_reducible refine Kd.zfa ?_))); (case side2 => exact HC0.out); rintro e w' ⟨rfl, ⟨nd, rfl⟩⟩; refine ⟨_, rfl, ?_⟩))
    go_ret
    exact ⟨by first | rfl | (simp [zi, zj] <;> rfl) | (simp [*, zi, zj] <;> rfl), by repeat (first | (with_reducible first | exact HB.out | apply ze | apply zb | apply zd) | exact HB.out)⟩
   ·rw [if_neg c6] at H
    have c6b0 : decide ((l0.length : Int) ≤ a1) = false := decide_eq_false c6
    clear c6
    replace H := Option.bind_eq_some_iff.mp H
    obtain ⟨t458, A70, H⟩ := H
    replace H : (some t458) = some r := H
    have A7 := za.mk A70
    clear A70
    obtain rfl := Option.some.inj H
    go_enter Try.func27, Try.ntmps27
    go_wp2_with (first | ((with_reducible refine zt (f := 53) rfl ?_); refine zgo (some 6) Try.func53 #[.slice A0 l0.length c0] rfl ?_; (with_reducible refine (impl_lettersOk.calls _ _ l0 true _ ?side1 ?side2 A3.out).mono ?_); (case side1 => repeat (first | exact HR0.out | (with_reducible refine Kd.zca ?_ _) | (with_reducible refine Kd.zda ?_ _) | (with_reducible refine Kd.zfa ?_))); (case side2 => exact HC0.out); rintro e w' ⟨rfl, ⟨nd, rfl⟩⟩; refine ⟨_, rfl, ?_⟩) | ((with_reducible refine zt (f := 61) rfl ?_); refine zgo (some 20) Try.func61 #[.slice A0 l0.length c0, .int .i64 a1] rfl ?_; (with_reducible refine (impl_startOf.calls k _ _ l0 a1 t458 _ ?side1 ?side2 A7.out).mono ?_); (case side1 => repeat (first | exact HR0.out | (with_reducible refine Kd.zca ?_ _) | (with_reducible refine Kd.zda ?_ _) | (with_reducible refine Kd.zfa ?_))); (case side2 => exact HC0.out); rintro e w8 ⟨rfl, hb⟩; refine ⟨_, rfl, ?_⟩; have n0_ := za.mk (zv (by repeat (first | (with_reducible first | exact HB.out | apply ze | apply zb | apply zd) | exact HB.out)) hb); clear HB; have HB := n0_; clear n0_; (try clear hb); (try clear hb2); (try clear hk); (try clear hi)))
    go_ret
    exact ⟨by first | rfl | (simp [zi, zj] <;> rfl) | (simp [*, zi, zj] <;> rfl), by repeat (first | (with_reducible first | exact HB.out | apply ze | apply zb | apply zd) | exact HB.out)⟩
 ·replace c4 := Bool.eq_false_iff.mpr c4
  subst c4
  have H1 : (some (-1)) = some r := by rw [if_neg (show ¬ (false = true) by decide)] at H; exact H
  clear H
  have H := H1
  clear H1
  obtain rfl := Option.some.inj H
  go_enter Try.func27, Try.ntmps27
  go_wp2_with (first | ((with_reducible refine zt (f := 53) rfl ?_); refine zgo (some 6) Try.func53 #[.slice A0 l0.length c0] rfl ?_; (with_reducible refine (impl_lettersOk.calls _ _ l0 false _ ?side1 ?side2 A3.out).mono ?_); (case side1 => repeat (first | exact HR0.out | (with_reducible refine Kd.zca ?_ _) | (with_reducible refine Kd.zda ?_ _) | (with_reducible refine Kd.zfa ?_))); (case side2 => exact HC0.out); rintro e w' ⟨rfl, ⟨nd, rfl⟩⟩; refine ⟨_, rfl, ?_⟩))
  go_ret
  exact ⟨by first | rfl | (simp [zi, zj] <;> rfl) | (simp [*, zi, zj] <;> rfl), by repeat (first | (with_reducible first | exact HB.out | apply ze | apply zb | apply zd) | exact HB.out)⟩
def impl_ClusterWide.f (k : Nat) (l0 : List Int) (a1 : Int) : Option (Int) := (impl_lettersOk.f l0).bind fun t459 => (if t459 = true then (if a1 < 0 then (some 0) else (if a1 ≥ (l0.length : Int) then (some 0) else ((impl_startOf.f k l0 a1).bind fun t460 => (if t460 = a1 then ((impl_clusterWide.f k l0 a1).bind fun t461 => (some t461)) else (some 0))))) else (some 0))
theorem impl_ClusterWide.calls (k : Nat) (A0 : Option Addr) (c0 : Nat) (l0 : List Int) (a1 : Int) (r : Int) (w : World) (hr0 : Kd.C (Kd.int .i64) w A0 l0.length l0) (hc0 : l0.length ≤ c0) (h : impl_ClusterWide.f k l0 a1 = some r) :
  Calls Try.prog 28 #[.slice A0 l0.length c0, .int .i64 a1] w fun e w' => e = .returned (.int .i64 r) ∧ Below w.heap.size w w' := by
 have HR0 := za.mk hr0
 have HC0 := za.mk hc0
 clear hr0 hc0
 have HB := za.mk (Below.refl w.heap.size w)
 have H : ((impl_lettersOk.f l0).bind fun t459 => (if t459 = true then (if a1 < 0 then (some 0) else (if a1 ≥ (l0.length : Int) then (some 0) else ((impl_startOf.f k l0 a1).bind fun t460 => (if t460 = a1 then ((impl_clusterWide.f k l0 a1).bind fun t461 => (some t461)) else (some 0))))) else (some 0))) = some r := h
 clear h
 replace H := Option.bind_eq_some_iff.mp H
 obtain ⟨t459, A30, H⟩ := H
 replace H : (if t459 = true then (if a1 < 0 then (some 0) else (if a1 ≥ (l0.length : Int) then (some 0) else ((impl_startOf.f k l0 a1).bind fun t460 => (if t460 = a1 then ((impl_clusterWide.f k l0 a1).bind fun t461 => (some t461)) else (some 0))))) else (some 0)) = some r := H
 have A3 := za.mk A30
 clear A30
 by_cases c4 : t459 = true
 ·subst c4
  have H1 : (if a1 < 0 then (some 0) else (if a1 ≥ (l0.length : Int) then (some 0) else ((impl_startOf.f k l0 a1).bind fun t460 => (if t460 = a1 then ((impl_clusterWide.f k l0 a1).bind fun t461 => (some t461)) else (some 0))))) = some r := by rw [if_pos rfl] at H; exact H
  clear H
  have H := H1
  clear H1
  by_cases c5 : a1 < 0
  ·rw [if_pos c5] at H
   have c5b0 : decide (a1 < 0) = true := decide_eq_true c5
   clear c5
   obtain rfl := Option.some.inj H
   go_enter Try.func28, Try.ntmps28
   go_wp2_with (first | ((with_reducible refine zt (f := 53) rfl ?_); refine zgo (some 6) Try.func53 #[.slice A0 l0.length c0] rfl ?_; (with_reducible refine (impl_lettersOk.calls _ _ l0 true _ ?side1 ?side2 A3.out).mono ?_); (case side1 => repeat (first | exact HR0.out | (with_reducible refine Kd.zca ?_ _) | (with_reducible refine Kd.zda ?_ _) | (with_reducible refine Kd.zfa ?_))); (case side2 => exact HC0.out); rintro e w' ⟨rfl, ⟨nd, rfl⟩⟩; refine ⟨_, rfl, ?_⟩))
   go_ret
   exact ⟨by first | rfl | (simp [zi, zj] <;> rfl) | (simp [*, zi, zj] <;> rfl), by repeat (first | (with_reducible first | exact HB.out | apply ze | apply zb | apply zd) | exact HB.out)⟩
  ·rw [if_neg c5] at H
   have c5b0 : decide (a1 < 0) = false := decide_eq_false c5
   clear c5
   by_cases c6 : a1 ≥ (l0.length : Int)
   ·rw [if_pos c6] at H
    have c6b0 : decide ((l0.length : Int) ≤ a1) = true := decide_eq_true c6
    clear c6
    obtain rfl := Option.some.inj H
    go_enter Try.func28, Try.ntmps28
    go_wp2_with (first | ((with_reducible refine zt (f := 53) rfl ?_); refine zgo (some 6) Try.func53 #[.slice A0 l0.length c0] rfl ?_; (with_reducible refine (impl_lettersOk.calls _ _ l0 true _ ?side1 ?side2 A3.out).mono ?_); (case side1 => repeat (first | exact HR0.out | (with_reducible refine Kd.zca ?_ _) | (with_reducible refine Kd.zda ?_ _) | (with_reducible refine Kd.zfa ?_))); (case side2 => exact HC0.out); rintro e w' ⟨rfl, ⟨nd, rfl⟩⟩; refine ⟨_, rfl, ?_⟩))
    go_ret
    exact ⟨by first | rfl | (simp [zi, zj] <;> rfl) | (simp [*, zi, zj] <;> rfl), by repeat (first | (with_reducible first | exact HB.out | apply ze | apply zb | apply zd) | exact HB.out)⟩
   ·rw [if_neg c6] at H
    have c6b0 : decide ((l0.length : Int) ≤ a1) = false := decide_eq_false c6
    clear c6
    replace H := Option.bind_eq_some_iff.mp H
    obtain ⟨t460, A70, H⟩ := H
    replace H : (if t460 = a1 then ((impl_clusterWide.f k l0 a1).bind fun t461 => (some t461)) else (some 0)) = some r := H
    have A7 := za.mk A70
    clear A70
    by_cases c8 : t460 = a1
    ·rw [if_pos c8] at H
     have c8b0 : (t460 == a1) = true := beq_iff_eq.mpr c8
     have c8b1 : (t460 != a1) = false := bne_eq_false_iff_eq.mpr c8
     clear c8
     replace H := Option.bind_eq_some_iff.mp H
     obtain ⟨t461, A90, H⟩ := H
     replace H : (some t461) = some r := H
     have A9 := za.mk A90
     clear A90
     obtain rfl := Option.some.inj H
     go_enter Try.func28, Try.ntmps28
     go_wp2_with (first | ((with_reducible refine zt (f := 53) rfl ?_); refine zgo (some 6) Try.func53 #[.slice A0 l0.length c0] rfl ?_; (with_reducible refine (impl_lettersOk.calls _ _ l0 true _ ?side1 ?side2 A3.out).mono ?_); (case side1 => repeat (first | exact HR0.out | (with_reducible refine Kd.zca ?_ _) | (with_reducible refine Kd.zda ?_ _) | (with_reducible refine Kd.zfa ?_))); (case side2 => exact HC0.out); rintro e w' ⟨rfl, ⟨nd, rfl⟩⟩; refine ⟨_, rfl, ?_⟩) | (go_at_call 61; (with_reducible refine (impl_startOf.calls k _ _ l0 a1 t460 _ ?side1 ?side2 A7.out).mono ?_); (case side1 => repeat (first | exact HR0.out | (with_reducible refine Kd.zca ?_ _) | (with_reducible refine Kd.zda ?_ _) | (with_reducible refine Kd.zfa ?_))); (case side2 => exact HC0.out); rintro e w10 ⟨rfl, hb⟩; have n0_ := za.mk (zv (by repeat (first | (with_reducible first | exact HB.out | apply ze | apply zb | apply zd) | exact HB.out)) hb); clear HB; have HB := n0_; clear n0_; (try clear hb); (try clear hb2); (try clear hk); (try clear hi)) | ((with_reducible refine zt (f := 62) rfl ?_); refine zgo (some 27) Try.func62 #[.slice A0 l0.length c0, .int .i64 a1] rfl ?_; (with_reducible refine (impl_clusterWide.calls k _ _ l0 a1 t461 _ ?side1 ?side2 A9.out).mono ?_); (case side1 => repeat (first | exact (Kd.zjb HR0.out HB.out) | (with_reducible refine Kd.zca ?_ _) | (with_reducible refine Kd.zda ?_ _) | (with_reducible refine Kd.zfa ?_))); (case side2 => exact HC0.out); rintro e w11 ⟨rfl, hb⟩; refine ⟨_, rfl, ?_⟩; have n0_ := za.mk (zv (by repeat (first | (with_reducible first | exact HB.out | apply ze | apply zb | apply zd) | exact HB.out)) hb); clear HB; have HB := n0_; clear n0_; (try clear hb); (try clear hb2); (try clear hk); (try clear hi)))
     go_ret
     exact ⟨by first | rfl | (simp [zi, zj] <;> rfl) | (simp [*, zi, zj] <;> rfl), by repeat (first | (with_reducible first | exact HB.out | apply ze | apply zb | apply zd) | exact HB.out)⟩
    ·rw [if_neg c8] at H
     have c8b0 : (t460 == a1) = false := beq_eq_false_iff_ne.mpr c8
     have c8b1 : (t460 != a1) = true := bne_iff_ne.mpr c8
     obtain rfl := Option.some.inj H
     go_enter Try.func28, Try.ntmps28
     go_wp2_with (first | ((with_reducible refine zt (f := 53) rfl ?_); refine zgo (some 6) Try.func53 #[.slice A0 l0.length c0] rfl ?_; (with_reducible refine (impl_lettersOk.calls _ _ l0 true _ ?side1 ?side2 A3.out).mono ?_); (case side1 => repeat (first | exact HR0.out | (with_reducible refine Kd.zca ?_ _) | (with_reducible refine Kd.zda ?_ _) | (with_reducible refine Kd.zfa ?_))); (case side2 => exact HC0.out); rintro e w' ⟨rfl, ⟨nd, rfl⟩⟩; refine ⟨_, rfl, ?_⟩) | (go_at_call 61; (with_reducible refine (impl_startOf.calls k _ _ l0 a1 t460 _ ?side1 ?side2 A7.out).mono ?_); (case side1 => repeat (first | exact HR0.out | (with_reducible refine Kd.zca ?_ _) | (with_reducible refine Kd.zda ?_ _) | (with_reducible refine Kd.zfa ?_))); (case side2 => exact HC0.out); rintro e w12 ⟨rfl, hb⟩; have n0_ := za.mk (zv (by repeat (first | (with_reducible first | exact HB.out | apply ze | apply zb | apply zd) | exact HB.out)) hb); clear HB; have HB := n0_; clear n0_; (try clear hb); (try clear hb2); (try clear hk); (try clear hi)))
     go_ret
     exact ⟨by first | rfl | (simp [zi, zj] <;> rfl) | (simp [*, zi, zj] <;> rfl), by repeat (first | (with_reducible first | exact HB.out | apply ze | apply zb | apply zd) | exact HB.out)⟩
 ·replace c4 := Bool.eq_false_iff.mpr c4
  subst c4
  have H1 : (some 0) = some r := by rw [if_neg (show ¬ (false = true) by decide)] at H; exact H
  clear H
  have H := H1
  clear H1
  obtain rfl := Option.some.inj H
  go_enter Try.func28, Try.ntmps28
  go_wp2_with (first | ((with_reducible refine zt (f := 53) rfl ?_); refine zgo (some 6) Try.func53 #[.slice A0 l0.length c0] rfl ?_; (with_reducible refine (impl_lettersOk.calls _ _ l0 false _ ?side1 ?side2 A3.out).mono ?_); (case side1 => repeat (first | exact HR0.out | (with_reducible refine Kd.zca ?_ _) | (with_reducible refine Kd.zda ?_ _) | (with_reducible refine Kd.zfa ?_))); (case side2 => exact HC0.out); rintro e w' ⟨rfl, ⟨nd, rfl⟩⟩; refine ⟨_, rfl, ?_⟩))
  go_ret
  exact ⟨by first | rfl | (simp [zi, zj] <;> rfl) | (simp [*, zi, zj] <;> rfl), by repeat (first | (with_reducible first | exact HB.out | apply ze | apply zb | apply zd) | exact HB.out)⟩
end Go.Proofs.Ytmjhdgofepdgkaa.PFnWides
