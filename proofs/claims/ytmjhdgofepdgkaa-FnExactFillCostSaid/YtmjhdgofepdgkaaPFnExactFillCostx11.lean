-- Written by a program of this session (wip/tools) out of the translation; its shape is that of the kit print.
import Derived.Test.YtmjhdgofepdgkaaPFnExactFillCostx0
import Derived.Test.YtmjhdgofepdgkaaPFnExactFillCostx2
namespace Go.Proofs.Ytmjhdgofepdgkaa.PFnExactFillCost
open Go.RowKit Go.Proofs.YtmjhdgofepdgkaaW.PrintWords Go.Proofs.YtmjhdgofepdgkaaW.PrintLast Go.Proofs.YtmjhdgofepdgkaaW.PrintMore
attribute [local go_sem] zbb zcb zjb zkb zxa zya zdb zeb
set_option linter.unusedVariables false
set_option maxHeartbeats 8000000
set_option maxRecDepth 100000
set_option linter.unusedSimpArgs false
def spec_l1Size.f (a0 : Int) : Option (Int) := (spec_l1In.f a0 0 127).bind fun t261 => (if t261 = true then (some 1) else ((spec_l1In.f a0 128 2047).bind fun t262 => (if t262 = true then (some 2) else ((spec_l1In.f a0 55296 57343).bind fun t263 => (if t263 = true then (some 0) else ((spec_l1In.f a0 2048 65535).bind fun t264 => (if t264 = true then (some 3) else ((spec_l1In.f a0 65536 1114111).bind fun t265 => (if t265 = true then (some 4) else (some 0))))))))))
theorem spec_l1Size.calls (a0 : Int) (r : Int) (w : World) (h : spec_l1Size.f a0 = some r) :
  Calls Try.prog 94 #[.int .i64 a0] w fun e w' => e = .returned (.int .i64 r) ∧ zm w w' := by
 have H : ((spec_l1In.f a0 0 127).bind fun t261 => (if t261 = true then (some 1) else ((spec_l1In.f a0 128 2047).bind fun t262 => (if t262 = true then (some 2) else ((spec_l1In.f a0 55296 57343).bind fun t263 => (if t263 = true then (some 0) else ((spec_l1In.f a0 2048 65535).bind fun t264 => (if t264 = true then (some 3) else ((spec_l1In.f a0 65536 1114111).bind fun t265 => (if t265 = true then (some 4) else (some 0))))))))))) = some r := h
 clear h
 replace H := Option.bind_eq_some_iff.mp H
 obtain ⟨t261, A20, H⟩ := H
 replace H : (if t261 = true then (some 1) else ((spec_l1In.f a0 128 2047).bind fun t262 => (if t262 = true then (some 2) else ((spec_l1In.f a0 55296 57343).bind fun t263 => (if t263 = true then (some 0) else ((spec_l1In.f a0 2048 65535).bind fun t264 => (if t264 = true then (some 3) else ((spec_l1In.f a0 65536 1114111).bind fun t265 => (if t265 = true then (some 4) else (some 0)))))))))) = some r := H
 have A2 := za.mk A20
 clear A20
 by_cases c3 : t261 = true
 ·subst c3
  have H1 : (some 1) = some r := by rw [if_pos rfl] at H; exact H
  clear H
  have H := H1
  clear H1
  obtain rfl := Option.some.inj H
  go_enter Try.func94, Try.ntmps94
  go_wp2_with (first | ((with_reducible refine zj (f := 74) rfl ?_); refine zgo (some 5) Try.func74 #[.int .i64 a0, .int .i64 0, .int .i64 127] rfl ?_; (with_reducible refine (spec_l1In.calls a0 0 127 true _ A2.out).mono ?_); rintro e w' ⟨rfl, ⟨nd, rfl⟩⟩; refine ⟨_, rfl, ?_⟩))
  go_ret
  exact ⟨by first | rfl | (simp; done) | (simp [*]; done), by repeat (first | exact zm.refl _ | apply zm.step)⟩
 ·replace c3 := Bool.eq_false_iff.mpr c3
  subst c3
  have H1 : ((spec_l1In.f a0 128 2047).bind fun t262 => (if t262 = true then (some 2) else ((spec_l1In.f a0 55296 57343).bind fun t263 => (if t263 = true then (some 0) else ((spec_l1In.f a0 2048 65535).bind fun t264 => (if t264 = true then (some 3) else ((spec_l1In.f a0 65536 1114111).bind fun t265 => (if t265 = true then (some 4) else (some 0))))))))) = some r := by rw [if_neg (show ¬ (false = true) by decide)] at H; exact H
  clear H
  have H := H1
  clear H1
  replace H := Option.bind_eq_some_iff.mp H
  obtain ⟨t262, A40, H⟩ := H
  replace H : (if t262 = true then (some 2) else ((spec_l1In.f a0 55296 57343).bind fun t263 => (if t263 = true then (some 0) else ((spec_l1In.f a0 2048 65535).bind fun t264 => (if t264 = true then (some 3) else ((spec_l1In.f a0 65536 1114111).bind fun t265 => (if t265 = true then (some 4) else (some 0)))))))) = some r := H
  have A4 := za.mk A40
  clear A40
  by_cases c5 : t262 = true
  ·subst c5
   have H1 : (some 2) = some r := by rw [if_pos rfl] at H; exact H
   clear H
   have H := H1
   clear H1
   obtain rfl := Option.some.inj H
   go_enter Try.func94, Try.ntmps94
   go_wp2_with (first | ((with_reducible refine zj (f := 74) rfl ?_); refine zgo (some 5) Try.func74 #[.int .i64 a0, .int .i64 0, .int .i64 127] rfl ?_; (with_reducible refine (spec_l1In.calls a0 0 127 false _ A2.out).mono ?_); rintro e w' ⟨rfl, ⟨nd, rfl⟩⟩; refine ⟨_, rfl, ?_⟩) | ((with_reducible refine zj (f := 74) rfl ?_); refine zgo (some 8) Try.func74 #[.int .i64 a0, .int .i64 128, .int .i64 2047] rfl ?_; (with_reducible refine (spec_l1In.calls a0 128 2047 true _ A4.out).mono ?_); rintro e w' ⟨rfl, ⟨nd, rfl⟩⟩; refine ⟨_, rfl, ?_⟩))
   go_ret
   exact ⟨by first | rfl | (simp; done) | (simp [*]; done), by repeat (first | exact zm.refl _ | apply zm.step)⟩
  ·replace c5 := Bool.eq_false_iff.mpr c5
   subst c5
   have H1 : ((spec_l1In.f a0 55296 57343).bind fun t263 => (if t263 = true then (some 0) else ((spec_l1In.f a0 2048 65535).bind fun t264 => (if t264 = true then (some 3) else ((spec_l1In.f a0 65536 1114111).bind fun t265 => (if t265 = true then (some 4) else (some 0))))))) = some r := by rw [if_neg (show ¬ (false = true) by decide)] at H; exact H
   clear H
   have H := H1
   clear H1
   replace H := Option.bind_eq_some_iff.mp H
   obtain ⟨t263, A60, H⟩ := H
   replace H : (if t263 = true then (some 0) else ((spec_l1In.f a0 2048 65535).bind fun t264 => (if t264 = true then (some 3) else ((spec_l1In.f a0 65536 1114111).bind fun t265 => (if t265 = true then (some 4) else (some 0)))))) = some r := H
   have A6 := za.mk A60
   clear A60
   by_cases c7 : t263 = true
   ·subst c7
    have H1 : (some 0) = some r := by rw [if_pos rfl] at H; exact H
    clear H
    have H := H1
    clear H1
    obtain rfl := Option.some.inj H
    go_enter Try.func94, Try.ntmps94
    go_wp2_with (first | ((with_reducible refine zj (f := 74) rfl ?_); refine zgo (some 5) Try.func74 #[.int .i64 a0, .int .i64 0, .int .i64 127] rfl ?_; (with_reducible refine (spec_l1In.calls a0 0 127 false _ A2.out).mono ?_); rintro e w' ⟨rfl, ⟨nd, rfl⟩⟩; refine ⟨_, rfl, ?_⟩) | ((with_reducible refine zj (f := 74) rfl ?_); refine zgo (some 8) Try.func74 #[.int .i64 a0, .int .i64 128, .int .i64 2047] rfl ?_; (with_reducible refine (spec_l1In.calls a0 128 2047 false _ A4.out).mono ?_); rintro e w' ⟨rfl, ⟨nd, rfl⟩⟩; refine ⟨_, rfl, ?_⟩) | ((with_reducible refine zj (f := 74) rfl ?_); refine zgo (some 11) Try.func74 #[.int .i64 a0, .int .i64 55296, .int .i64 57343] rfl ?_; (with_reducible refine (spec_l1In.calls a0 55296 57343 true _ A6.out).mono ?_); rintro e w' ⟨rfl, ⟨nd, rfl⟩⟩; refine ⟨_, rfl, ?_⟩))
    go_ret
    exact ⟨by first | rfl | (simp; done) | (simp [*]; done), by repeat (first | exact zm.refl _ | apply zm.step)⟩
   ·replace c7 := Bool.eq_false_iff.mpr c7
    subst c7
    have H1 : ((spec_l1In.f a0 2048 65535).bind fun t264 => (if t264 = true then (some 3) else ((spec_l1In.f a0 65536 1114111).bind fun t265 => (if t265 = true then (some 4) else (some 0))))) = some r := by rw [if_neg (show ¬ (false = true) by decide)] at H; exact H
    clear H
    have H := H1
    clear H1
    replace H := Option.bind_eq_some_iff.mp H
    obtain ⟨t264, A80, H⟩ := H
    replace H : (if t264 = true then (some 3) else ((spec_l1In.f a0 65536 1114111).bind fun t265 => (if t265 = true then (some 4) else (some 0)))) = some r := H
    have A8 := za.mk A80
    clear A80
    by_cases c9 : t264 = true
    ·subst c9
     have H1 : (some 3) = some r := by rw [if_pos rfl] at H; exact H
     clear H
     have H := H1
     clear H1
     obtain rfl := Option.some.inj H
     go_enter Try.func94, Try.ntmps94
     go_wp2_with (first | ((with_reducible refine zj (f := 74) rfl ?_); refine zgo (some 5) Try.func74 #[.int .i64 a0, .int .i64 0, .int .i64 127] rfl ?_; (with_reducible refine (spec_l1In.calls a0 0 127 false _ A2.out).mono ?_); rintro e w' ⟨rfl, ⟨nd, rfl⟩⟩; refine ⟨_, rfl, ?_⟩) | ((with_reducible refine zj (f := 74) rfl ?_); refine zgo (some 8) Try.func74 #[.int .i64 a0, .int .i64 128, .int .i64 2047] rfl ?_; (with_reducible refine (spec_l1In.calls a0 128 2047 false _ A4.out).mono ?_); rintro e w' ⟨rfl, ⟨nd, rfl⟩⟩; refine ⟨_, rfl, ?_⟩) | ((with_reducible refine zj (f := 74) rfl ?_); refine zgo (some 11) Try.func74 #[.int .i64 a0, .int .i64 55296, .int .i64 57343] rfl ?_; (with_reducible refine (spec_l1In.calls a0 55296 57343 false _ A6.out).mono ?_); rintro e w' ⟨rfl, ⟨nd, rfl⟩⟩; refine ⟨_, rfl, ?_⟩) | ((with_reducible refine zj (f := 74) rfl ?_); refine zgo (some 14) Try.func74 #[.int .i64 a0, .int .i64 2048, .int .i64 65535] rfl ?_; (with_reducible refine (spec_l1In.calls a0 2048 65535 true _ A8.out).mono ?_); rintro e w' ⟨rfl, ⟨nd, rfl⟩⟩; refine ⟨_, rfl, ?_⟩))
     go_ret
     exact ⟨by first | rfl | (simp; done) | (simp [*]; done), by repeat (first | exact zm.refl _ | apply zm.step)⟩
    ·replace c9 := Bool.eq_false_iff.mpr c9
     subst c9
     have H1 : ((spec_l1In.f a0 65536 1114111).bind fun t265 => (if t265 = true then (some 4) else (some 0))) = some r := by rw [if_neg (show ¬ (false = true) by decide)] at H; exact H
     clear H
     have H := H1
     clear H1
     replace H := Option.bind_eq_some_iff.mp H
     obtain ⟨t265, A100, H⟩ := H
     replace H : (if t265 = true then (some 4) else (some 0)) = some r := H
     have A10 := za.mk A100
     clear A100
     by_cases c11 : t265 = true
     ·subst c11
      have H1 : (some 4) = some r := by rw [if_pos rfl] at H; exact H
      clear H
      have H := H1
      clear H1
      obtain rfl := Option.some.inj H
      go_enter Try.func94, Try.ntmps94
      go_wp2_with (first | ((with_reducible refine zj (f := 74) rfl ?_); refine zgo (some 5) Try.func74 #[.int .i64 a0, .int .i64 0, .int .i64 127] rfl ?_; (with_reducible refine (spec_l1In.calls a0 0 127 false _ A2.out).mono ?_); rintro e w' ⟨rfl, ⟨nd, rfl⟩⟩; refine ⟨_, rfl, ?_⟩) | ((with_reducible refine zj (f := 74) rfl ?_); refine zgo (some 8) Try.func74 #[.int .i64 a0, .int .i64 128, .int .i64 2047] rfl ?_; (with_reducible refine (spec_l1In.calls a0 128 2047 false _ A4.out).mono ?_); rintro e w' ⟨rfl, ⟨nd, rfl⟩⟩; refine ⟨_, rfl, ?_⟩) | ((with_reducible refine zj (f := 74) rfl ?_); refine zgo (some 11) Try.func74 #[.int .i64 a0, .int .i64 55296, .int .i64 57343] rfl ?_; (with_reducible refine (spec_l1In.calls a0 55296 57343 false _ A6.out).mono ?_); rintro e w' ⟨rfl, ⟨nd, rfl⟩⟩; refine ⟨_, rfl, ?_⟩) | ((with_reducible refine zj (f := 74) rfl ?_); refine zgo (some 14) Try.func74 #[.int .i64 a0, .int .i64 2048, .int .i64 65535] rfl ?_; (with_reducible refine (spec_l1In.calls a0 2048 65535 false _ A8.out).mono ?_); rintro e w' ⟨rfl, ⟨nd, rfl⟩⟩; refine ⟨_, rfl, ?_⟩) | ((with_reducible refine zj (f := 74) rfl ?_); refine zgo (some 17) Try.func74 #[.int .i64 a0, .int .i64 65536, .int .i64 1114111] rfl ?_; (with_reducible refine (spec_l1In.calls a0 65536 1114111 true _ A10.out).mono ?_); rintro e w' ⟨rfl, ⟨nd, rfl⟩⟩; refine ⟨_, rfl, ?_⟩))
      go_ret
      exact ⟨by first | rfl | (simp; done) | (simp [*]; done), by repeat (first | exact zm.refl _ | apply zm.step)⟩
     ·replace c11 := Bool.eq_false_iff.mpr c11
      subst c11
      have H1 : (some 0) = some r := by rw [if_neg (show ¬ (false = true) by decide)] at H; exact H
      clear H
      have H := H1
      clear H1
      obtain rfl := Option.some.inj H
      go_enter Try.func94, Try.ntmps94
      go_wp2_with (first | ((with_reducible refine zj (f := 74) rfl ?_); refine zgo (some 5) Try.func74 #[.int .i64 a0, .int .i64 0, .int .i64 127] rfl ?_; (with_reducible refine (spec_l1In.calls a0 0 127 false _ A2.out).mono ?_); rintro e w' ⟨rfl, ⟨nd, rfl⟩⟩; refine ⟨_, rfl, ?_⟩) | ((with_reducible refine zj (f := 74) rfl ?_); refine zgo (some 8) Try.func74 #[.int .i64 a0, .int .i64 128, .int .i64 2047] rfl ?_; (with_reducible refine (spec_l1In.calls a0 128 2047 false _ A4.out).mono ?_); rintro e w' ⟨rfl, ⟨nd, rfl⟩⟩; refine ⟨_, rfl, ?_⟩) | ((with_reducible refine zj (f := 74) rfl ?_); refine zgo (some 11) Try.func74 #[.int .i64 a0, .int .i64 55296, .int .i64 57343] rfl ?_; (with_reducible refine (spec_l1In.calls a0 55296 57343 false _ A6.out).mono ?_); rintro e w' ⟨rfl, ⟨nd, rfl⟩⟩; refine ⟨_, rfl, ?_⟩) | ((with_reducible refine zj (f := 74) rfl ?_); refine zgo (some 14) Try.func74 #[.int .i64 a0, .int .i64 2048, .int .i64 65535] rfl ?_; (with_reducible refine (spec_l1In.calls a0 2048 65535 false _ A8.out).mono ?_); rintro e w' ⟨rfl, ⟨nd, rfl⟩⟩; refine ⟨_, rfl, ?_⟩) | ((with_reducible refine zj (f := 74) rfl ?_); refine zgo (some 17) Try.func74 #[.int .i64 a0, .int .i64 65536, .int .i64 1114111] rfl ?_; (with_reducible refine (spec_l1In.calls a0 65536 1114111 false _ A10.out).mono ?_); rintro e w' ⟨rfl, ⟨nd, rfl⟩⟩; refine ⟨_, rfl, ?_⟩))
      go_ret
      exact ⟨by first | rfl | (simp; done) | (simp [*]; done), by repeat (first | exact zm.refl _ | apply zm.step)⟩
def spec_l1Ok.l0 : Nat → List Int → Int → Option (Bool)
 | 0, _, _ => none
 | k + 1, x0, x3 => if x3 < (x0.length : Int) then (if 0 ≤ x3 then ((spec_l1Size.f (rd x0 x3)).bind fun t267 => (if t267 = 0 then (some false) else (spec_l1Ok.l0 k x0 (wrap64 (x3 + 1))))) else (none)) else (some (decide ((x0.length : Int) ≤ 80)))
def spec_l1Ok.f (k : Nat) (l0 : List Int) : Option (Bool) := spec_l1Ok.l0 k l0 0
theorem spec_l1Ok.calls (k : Nat) (A0 : Option Addr) (c0 : Nat) (l0 : List Int) (r : Bool) (w : World) (hr0 : Kd.C (Kd.int .i64) w A0 l0.length l0) (hc0 : l0.length ≤ c0) (h : spec_l1Ok.f k l0 = some r) :
  Calls Try.prog 49 #[.slice A0 l0.length c0] w fun e w' => e = .returned (.bool r) ∧ zm w w' := by
 have HR0 := za.mk hr0
 have HC0 := za.mk hc0
 clear hr0 hc0
 have H : (spec_l1Ok.l0 k l0 0) = some r := h
 clear h
 have H' := za.mk H
 clear H
 go_enter Try.func49, Try.ntmps49
 go_wp2
 go_loopg [3] k (fun kq v3 w' => ∃ (x3_1 : Int), v3 = .int .i64 x3_1 ∧ za (spec_l1Ok.l0 kq l0 x3_1 = some r) ∧ za (kq ≤ k) ∧ zm w w')
 case atStart => exact ⟨(0), (by first | rfl | (simp; done) | (simp [*]; done)), H', ⟨Nat.le_refl _⟩, by repeat (first | exact zm.refl _ | apply zm.step)⟩
 case round =>
  clear H'
  obtain ⟨x3_1, rfl, HA, HK1, ⟨m1, rfl⟩⟩ := hrel
  cases gk with
  | zero => exact absurd HA.out (by simp [spec_l1Ok.l0])
  | succ k1 =>
   have H := HA.out
   clear HA
   simp only [spec_l1Ok.l0] at H
   by_cases c2 : x3_1 < (l0.length : Int)
   ·rw [if_pos c2] at H
    have c2b0 : decide (x3_1 < (l0.length : Int)) = true := decide_eq_true c2
    clear c2
    by_cases c3 : 0 ≤ x3_1
    ·rw [if_pos c3] at H
     have c3b0 : decide (0 ≤ x3_1) = true := decide_eq_true c3
     clear c3
     replace H := Option.bind_eq_some_iff.mp H
     obtain ⟨t267, A40, H⟩ := H
     replace H : (if t267 = 0 then (some false) else (spec_l1Ok.l0 k1 l0 (wrap64 (x3_1 + 1)))) = some r := H
     have A4 := za.mk A40
     clear A40
     by_cases c5 : t267 = 0
     ·rw [if_pos c5] at H
      have c5b0 : (t267 == 0) = true := beq_iff_eq.mpr c5
      have c5b1 : (t267 != 0) = false := bne_eq_false_iff_eq.mpr c5
      clear c5
      obtain rfl := Option.some.inj H
      have p266 : 0 ≤ (x3_1 : Int) := of_decide_eq_true (by assumption)
      have q266 : x3_1 < (l0.length : Int) := of_decide_eq_true (by assumption)
      obtain ⟨ad266, e266, hx266_0⟩ := Kd.zfa HR0.out x3_1 p266 q266
      cases e266
      replace p266 := eq_true p266
      replace q266 := eq_true q266
      go_wp2_with (first | ((with_reducible refine zj (f := 94) rfl ?_); refine zgo (some 14) Try.func94 #[.int .i64 (rd l0 x3_1)] rfl ?_; (with_reducible refine (spec_l1Size.calls (rd l0 x3_1) t267 _ A4.out).mono ?_); rintro e w' ⟨rfl, ⟨nd, rfl⟩⟩; refine ⟨_, rfl, ?_⟩))
      go_ret
      exact ⟨by first | rfl | (simp; done) | (simp [*]; done), by repeat (first | exact zm.refl _ | apply zm.step)⟩
     ·rw [if_neg c5] at H
      have c5b0 : (t267 == 0) = false := beq_eq_false_iff_ne.mpr c5
      have c5b1 : (t267 != 0) = true := bne_iff_ne.mpr c5
      have H' := za.mk H
      clear H
      have p266 : 0 ≤ (x3_1 : Int) := of_decide_eq_true (by assumption)
      have q266 : x3_1 < (l0.length : Int) := of_decide_eq_true (by assumption)
      obtain ⟨ad266, e266, hx266_0⟩ := Kd.zfa HR0.out x3_1 p266 q266
      cases e266
      replace p266 := eq_true p266
      replace q266 := eq_true q266
      go_wp2_with (first | ((with_reducible refine zj (f := 94) rfl ?_); refine zgo (some 14) Try.func94 #[.int .i64 (rd l0 x3_1)] rfl ?_; (with_reducible refine (spec_l1Size.calls (rd l0 x3_1) t267 _ A4.out).mono ?_); rintro e w' ⟨rfl, ⟨nd, rfl⟩⟩; refine ⟨_, rfl, ?_⟩))
      go_roundg k1
      case measure => have := HK1.out; omega
      case rel => exact ⟨(wrap64 (x3_1 + 1)), (by first | rfl | (simp; done) | (simp [*]; done)), H', ⟨by have := HK1.out; omega⟩, by repeat (first | exact zm.refl _ | apply zm.step)⟩
    ·rw [if_neg c3] at H
     exact absurd H (by simp)
   ·rw [if_neg c2] at H
    have c2b0 : decide (x3_1 < (l0.length : Int)) = false := decide_eq_false c2
    clear c2
    obtain rfl := Option.some.inj H
    go_wp2
    go_ret
    exact ⟨by first | rfl | (simp; done) | (simp [*]; done), by repeat (first | exact zm.refl _ | apply zm.step)⟩
def spec_l6Ok.f (a0_0 : Int) (a0_1 : Int) (a0_2 : Int) (a0_3 : Int) (a1 : Int) : Option (Bool) := (spec_l1In.f a0_0 0 (wrap64 (a1 - 1))).bind fun t269 => (if t269 = true then ((spec_l1In.f a0_1 (wrap64 (a0_0 + 1)) a1).bind fun t270 => (if t270 = true then ((spec_l1In.f a0_2 1 40).bind fun t271 => (if t271 = true then ((spec_l1In.f a0_3 0 9).bind fun t272 => (some t272)) else (some false))) else (some false))) else (some false))
theorem spec_l6Ok.calls (a0_0 : Int) (a0_1 : Int) (a0_2 : Int) (a0_3 : Int) (a1 : Int) (r : Bool) (w : World) (h : spec_l6Ok.f a0_0 a0_1 a0_2 a0_3 a1 = some r) :
  Calls Try.prog 95 #[.agg #[.int .i64 a0_0, .int .i64 a0_1, .int .i64 a0_2, .int .i64 a0_3], .int .i64 a1] w fun e w' => e = .returned (.bool r) ∧ Below w.heap.size w w' := by
 have hu40 := Try.underlying40
 have HB := za.mk (Below.refl w.heap.size w)
 have H : ((spec_l1In.f a0_0 0 (wrap64 (a1 - 1))).bind fun t269 => (if t269 = true then ((spec_l1In.f a0_1 (wrap64 (a0_0 + 1)) a1).bind fun t270 => (if t270 = true then ((spec_l1In.f a0_2 1 40).bind fun t271 => (if t271 = true then ((spec_l1In.f a0_3 0 9).bind fun t272 => (some t272)) else (some false))) else (some false))) else (some false))) = some r := h
 clear h
 replace H := Option.bind_eq_some_iff.mp H
 obtain ⟨t269, A30, H⟩ := H
 replace H : (if t269 = true then ((spec_l1In.f a0_1 (wrap64 (a0_0 + 1)) a1).bind fun t270 => (if t270 = true then ((spec_l1In.f a0_2 1 40).bind fun t271 => (if t271 = true then ((spec_l1In.f a0_3 0 9).bind fun t272 => (some t272)) else (some false))) else (some false))) else (some false)) = some r := H
 have A3 := za.mk A30
 clear A30
 by_cases c4 : t269 = true
 ·subst c4
  have H1 : ((spec_l1In.f a0_1 (wrap64 (a0_0 + 1)) a1).bind fun t270 => (if t270 = true then ((spec_l1In.f a0_2 1 40).bind fun t271 => (if t271 = true then ((spec_l1In.f a0_3 0 9).bind fun t272 => (some t272)) else (some false))) else (some false))) = some r := by rw [if_pos rfl] at H; exact H
  clear H
  have H := H1
  clear H1
  replace H := Option.bind_eq_some_iff.mp H
  obtain ⟨t270, A50, H⟩ := H
  replace H : (if t270 = true then ((spec_l1In.f a0_2 1 40).bind fun t271 => (if t271 = true then ((spec_l1In.f a0_3 0 9).bind fun t272 => (some t272)) else (some false))) else (some false)) = some r := H
  have A5 := za.mk A50
  clear A50
  by_cases c6 : t270 = true
  ·subst c6
   have H1 : ((spec_l1In.f a0_2 1 40).bind fun t271 => (if t271 = true then ((spec_l1In.f a0_3 0 9).bind fun t272 => (some t272)) else (some false))) = some r := by rw [if_pos rfl] at H; exact H
   clear H
   have H := H1
   clear H1
   replace H := Option.bind_eq_some_iff.mp H
   obtain ⟨t271, A70, H⟩ := H
   replace H : (if t271 = true then ((spec_l1In.f a0_3 0 9).bind fun t272 => (some t272)) else (some false)) = some r := H
   have A7 := za.mk A70
   clear A70
   by_cases c8 : t271 = true
   ·subst c8
    have H1 : ((spec_l1In.f a0_3 0 9).bind fun t272 => (some t272)) = some r := by rw [if_pos rfl] at H; exact H
    clear H
    have H := H1
    clear H1
    replace H := Option.bind_eq_some_iff.mp H
    obtain ⟨t272, A90, H⟩ := H
    replace H : (some t272) = some r := H
    have A9 := za.mk A90
    clear A90
    obtain rfl := Option.some.inj H
    go_enter Try.func95, Try.ntmps95
    go_wp2_with (first | ((with_reducible refine zw (N := 2) rfl ?_); refine zca ?hg (N := 2) ?hd (cs := #[.int .i64 a0_0, .int .i64 a0_1, .int .i64 a0_2, .int .i64 a0_3]) (t := 40) ?hr ?_; (case hd => rfl); (case hg => rfl); (case hr => first | (go_simp; done) | (go_simp; rfl)); intro gb268 hg w10 hbox hb; have n0_ := za.mk (zg (by repeat (first | (with_reducible first | exact HB.out | apply zc | apply zb | apply zd) | exact HB.out)) hb); have n1_ := za.mk (hbox); have n2_ := za.mk ((by rw [hg]; exact (zp (by repeat (first | (with_reducible first | exact HB.out | apply zc | apply zb | apply zd) | exact HB.out))) : w.heap.size ≤ gb268)); have n3_ := za.mk ((by rw [hg]; exact (zp (by repeat (first | (with_reducible first | exact HB.out | apply zc | apply zb | apply zd) | exact HB.out))) : w.heap.size ≤ gb268)); clear HB; have HB := n0_; have BK268 := n1_; have GW268 := n2_; have GE268 := n3_; clear n0_ n1_ n2_ n3_; clear hb hbox hg; have hcz11_0 : w10.cell? ⟨gb268, 0, none⟩ = some (.int .i64 a0_0) := (zf BK268.out 0).trans rfl; have hcz11_1 : w10.cell? ⟨gb268, 1, none⟩ = some (.int .i64 a0_1) := (zf BK268.out 1).trans rfl; have hcz11_2 : w10.cell? ⟨gb268, 2, none⟩ = some (.int .i64 a0_2) := (zf BK268.out 2).trans rfl; have hcz11_3 : w10.cell? ⟨gb268, 3, none⟩ = some (.int .i64 a0_3) := (zf BK268.out 3).trans rfl; have hfz11_0 := zl BK268.out 0; have hfz11_1 := zl BK268.out 1; have hfz11_2 := zl BK268.out 2; have hfz11_3 := zl BK268.out 3) | ((with_reducible refine zj (f := 74) rfl ?_); refine zgo (some 9) Try.func74 #[.int .i64 a0_0, .int .i64 0, .int .i64 (wrap64 (a1 - 1))] rfl ?_; (with_reducible refine (spec_l1In.calls a0_0 0 (wrap64 (a1 - 1)) true _ A3.out).mono ?_); rintro e w' ⟨rfl, ⟨nd, rfl⟩⟩; refine ⟨_, rfl, ?_⟩) | (go_at_call 74; (with_reducible refine (spec_l1In.calls a0_1 (wrap64 (a0_0 + 1)) a1 true _ A5.out).mono ?_); rintro e w' ⟨rfl, ⟨nd, rfl⟩⟩) | (go_at_call 74; (with_reducible refine (spec_l1In.calls a0_2 1 40 true _ A7.out).mono ?_); rintro e w' ⟨rfl, ⟨nd, rfl⟩⟩) | (go_at_call 74; (with_reducible refine (spec_l1In.calls a0_3 0 9 t272 _ A9.out).mono ?_); rintro e w' ⟨rfl, ⟨nd, rfl⟩⟩))
    go_ret
    exact ⟨by first | rfl | (simp [zh, zi] <;> rfl) | (simp [*, zh, zi] <;> rfl), by repeat (first | (with_reducible first | exact HB.out | apply zc | apply zb | apply zd | refine zu ?_ GE268.out) | exact HB.out)⟩
   ·replace c8 := Bool.eq_false_iff.mpr c8
    subst c8
    have H1 : (some false) = some r := by rw [if_neg (show ¬ (false = true) by decide)] at H; exact H
    clear H
    have H := H1
    clear H1
    obtain rfl := Option.some.inj H
    go_enter Try.func95, Try.ntmps95
    go_wp2_with (first | ((with_reducible refine zw (N := 2) rfl ?_); refine zca ?hg (N := 2) ?hd (cs := #[.int .i64 a0_0, .int .i64 a0_1, .int .i64 a0_2, .int .i64 a0_3]) (t := 40) ?hr ?_; (case hd => rfl); (case hg => rfl); (case hr => first | (go_simp; done) | (go_simp; rfl)); intro gb268 hg w12 hbox hb; have n0_ := za.mk (zg (by repeat (first | (with_reducible first | exact HB.out | apply zc | apply zb | apply zd) | exact HB.out)) hb); have n1_ := za.mk (hbox); have n2_ := za.mk ((by rw [hg]; exact (zp (by repeat (first | (with_reducible first | exact HB.out | apply zc | apply zb | apply zd) | exact HB.out))) : w.heap.size ≤ gb268)); have n3_ := za.mk ((by rw [hg]; exact (zp (by repeat (first | (with_reducible first | exact HB.out | apply zc | apply zb | apply zd) | exact HB.out))) : w.heap.size ≤ gb268)); clear HB; have HB := n0_; have BK268 := n1_; have GW268 := n2_; have GE268 := n3_; clear n0_ n1_ n2_ n3_; clear hb hbox hg; have hcz13_0 : w12.cell? ⟨gb268, 0, none⟩ = some (.int .i64 a0_0) := (zf BK268.out 0).trans rfl; have hcz13_1 : w12.cell? ⟨gb268, 1, none⟩ = some (.int .i64 a0_1) := (zf BK268.out 1).trans rfl; have hcz13_2 : w12.cell? ⟨gb268, 2, none⟩ = some (.int .i64 a0_2) := (zf BK268.out 2).trans rfl; have hcz13_3 : w12.cell? ⟨gb268, 3, none⟩ = some (.int .i64 a0_3) := (zf BK268.out 3).trans rfl; have hfz13_0 := zl BK268.out 0; have hfz13_1 := zl BK268.out 1; have hfz13_2 := zl BK268.out 2; have hfz13_3 := zl BK268.out 3) | ((with_reducible refine zj (f := 74) rfl ?_); refine zgo (some 9) Try.func74 #[.int .i64 a0_0, .int .i64 0, .int .i64 (wrap64 (a1 - 1))] rfl ?_; (with_reducible refine (spec_l1In.calls a0_0 0 (wrap64 (a1 - 1)) true _ A3.out).mono ?_); rintro e w' ⟨rfl, ⟨nd, rfl⟩⟩; refine ⟨_, rfl, ?_⟩) | (go_at_call 74; (with_reducible refine (spec_l1In.calls a0_1 (wrap64 (a0_0 + 1)) a1 true _ A5.out).mono ?_); rintro e w' ⟨rfl, ⟨nd, rfl⟩⟩) | (go_at_call 74; (with_reducible refine (spec_l1In.calls a0_2 1 40 false _ A7.out).mono ?_); rintro e w' ⟨rfl, ⟨nd, rfl⟩⟩))
    go_ret
    exact ⟨by first | rfl | (simp [zh, zi] <;> rfl) | (simp [*, zh, zi] <;> rfl), by repeat (first | (with_reducible first | exact HB.out | apply zc | apply zb | apply zd | refine zu ?_ GE268.out) | exact HB.out)⟩
  ·replace c6 := Bool.eq_false_iff.mpr c6
   subst c6
   have H1 : (some false) = some r := by rw [if_neg (show ¬ (false = true) by decide)] at H; exact H
   clear H
   have H := H1
   clear H1
   obtain rfl := Option.some.inj H
   go_enter Try.func95, Try.ntmps95
   go_wp2_with (first | ((with_reducible refine zw (N := 2) rfl ?_); refine zca ?hg (N := 2) ?hd (cs := #[.int .i64 a0_0, .int .i64 a0_1, .int .i64 a0_2, .int .i64 a0_3]) (t := 40) ?hr ?_; (case hd => rfl); (case hg => rfl); (case hr => first | (go_simp; done) | (go_simp; rfl)); intro gb268 hg w14 hbox hb; have n0_ := za.mk (zg (by repeat (first | (with_reducible first | exact HB.out | apply zc | apply zb | apply zd) | exact HB.out)) hb); have n1_ := za.mk (hbox); have n2_ := za.mk ((by rw [hg]; exact (zp (by repeat (first | (with_reducible first | exact HB.out | apply zc | apply zb | apply zd) | exact HB.out))) : w.heap.size ≤ gb268)); have n3_ := za.mk ((by rw [hg]; exact (zp (by repeat (first | (with_reducible first | exact HB.out | apply zc | apply zb | apply zd) | exact HB.out))) : w.heap.size ≤ gb268)); clear HB; have HB := n0_; have BK268 := n1_; have GW268 := n2_; have GE268 := n3_; clear n0_ n1_ n2_ n3_; clear hb hbox hg; have hcz15_0 : w14.cell? ⟨gb268, 0, none⟩ = some (.int .i64 a0_0) := (zf BK268.out 0).trans rfl; have hcz15_1 : w14.cell? ⟨gb268, 1, none⟩ = some (.int .i64 a0_1) := (zf BK268.out 1).trans rfl; have hcz15_2 : w14.cell? ⟨gb268, 2, none⟩ = some (.int .i64 a0_2) := (zf BK268.out 2).trans rfl; have hcz15_3 : w14.cell? ⟨gb268, 3, none⟩ = some (.int .i64 a0_3) := (zf BK268.out 3).trans rfl; have hfz15_0 := zl BK268.out 0; have hfz15_1 := zl BK268.out 1; have hfz15_2 := zl BK268.out 2; have hfz15_3 := zl BK268.out 3) | ((with_reducible refine zj (f := 74) rfl ?_); refine zgo (some 9) Try.func74 #[.int .i64 a0_0, .int .i64 0, .int .i64 (wrap64 (a1 - 1))] rfl ?_; (with_reducible refine (spec_l1In.calls a0_0 0 (wrap64 (a1 - 1)) true _ A3.out).mono ?_); rintro e w' ⟨rfl, ⟨nd, rfl⟩⟩; refine ⟨_, rfl, ?_⟩) | (go_at_call 74; (with_reducible refine (spec_l1In.calls a0_1 (wrap64 (a0_0 + 1)) a1 false _ A5.out).mono ?_); rintro e w' ⟨rfl, ⟨nd, rfl⟩⟩))
   go_ret
   exact ⟨by first | rfl | (simp [zh, zi] <;> rfl) | (simp [*, zh, zi] <;> rfl), by repeat (first | (with_reducible first | exact HB.out | apply zc | apply zb | apply zd | refine zu ?_ GE268.out) | exact HB.out)⟩
 ·replace c4 := Bool.eq_false_iff.mpr c4
  subst c4
  have H1 : (some false) = some r := by rw [if_neg (show ¬ (false = true) by decide)] at H; exact H
  clear H
  have H := H1
  clear H1
  obtain rfl := Option.some.inj H
  go_enter Try.func95, Try.ntmps95
  go_wp2_with (first | ((with_reducible refine zw (N := 2) rfl ?_); refine zca ?hg (N := 2) ?hd (cs := #[.int .i64 a0_0, .int .i64 a0_1, .int .i64 a0_2, .int .i64 a0_3]) (t := 40) ?hr ?_; (case hd => rfl); (case hg => rfl); (case hr => first | (go_simp; done) | (go_simp; rfl)); intro gb268 hg w16 hbox hb; have n0_ := za.mk (zg (by repeat (first | (with_reducible first | exact HB.out | apply zc | apply zb | apply zd) | exact HB.out)) hb); have n1_ := za.mk (hbox); have n2_ := za.mk ((by rw [hg]; exact (zp (by repeat (first | (with_reducible first | exact HB.out | apply zc | apply zb | apply zd) | exact HB.out))) : w.heap.size ≤ gb268)); have n3_ := za.mk ((by rw [hg]; exact (zp (by repeat (first | (with_reducible first | exact HB.out | apply zc | apply zb | apply zd) | exact HB.out))) : w.heap.size ≤ gb268)); clear HB; have HB := n0_; have BK268 := n1_; have GW268 := n2_; have GE268 := n3_; clear n0_ n1_ n2_ n3_; clear hb hbox hg; have hcz17_0 : w16.cell? ⟨gb268, 0, none⟩ = some (.int .i64 a0_0) := (zf BK268.out 0).trans rfl; have hcz17_1 : w16.cell? ⟨gb268, 1, none⟩ = some (.int .i64 a0_1) := (zf BK268.out 1).trans rfl; have hcz17_2 : w16.cell? ⟨gb268, 2, none⟩ = some (.int .i64 a0_2) := (zf BK268.out 2).trans rfl; have hcz17_3 : w16.cell? ⟨gb268, 3, none⟩ = some (.int .i64 a0_3) := (zf BK268.out 3).trans rfl; have hfz17_0 := zl BK268.out 0; have hfz17_1 := zl BK268.out 1; have hfz17_2 := zl BK268.out 2; have hfz17_3 := zl BK268.out 3) | ((with_reducible refine zj (f := 74) rfl ?_); refine zgo (some 9) Try.func74 #[.int .i64 a0_0, .int .i64 0, .int .i64 (wrap64 (a1 - 1))] rfl ?_; (with_reducible refine (spec_l1In.calls a0_0 0 (wrap64 (a1 - 1)) false _ A3.out).mono ?_); rintro e w' ⟨rfl, ⟨nd, rfl⟩⟩; refine ⟨_, rfl, ?_⟩))
  go_ret
  exact ⟨by first | rfl | (simp [zh, zi] <;> rfl) | (simp [*, zh, zi] <;> rfl), by repeat (first | (with_reducible first | exact HB.out | apply zc | apply zb | apply zd | refine zu ?_ GE268.out) | exact HB.out)⟩
end Go.Proofs.Ytmjhdgofepdgkaa.PFnExactFillCost
