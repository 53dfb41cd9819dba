-- Written by a program of this session (wip/tools) out of the translation; its shape is that of the kit print.
import Derived.Test.YtmjhdgofepdgkaaPFnWidesx0
import Derived.Test.YtmjhdgofepdgkaaPFnWidesx6
import Derived.Test.YtmjhdgofepdgkaaPFnWidesx11
import Derived.Test.YtmjhdgofepdgkaaPFnWidesx15
import Derived.Test.YtmjhdgofepdgkaaPFnWidesx16
namespace Go.Proofs.Ytmjhdgofepdgkaa.PFnWides
open Go.RowKit Go.Proofs.YtmjhdgofepdgkaaW.PrintWords Go.Proofs.YtmjhdgofepdgkaaW.PrintLast Go.Proofs.YtmjhdgofepdgkaaW.PrintMore
attribute [local go_sem] zlb znb zvb zwb zbb zcb zob zqb
set_option linter.unusedVariables false
set_option maxHeartbeats 8000000
set_option maxRecDepth 100000
set_option linter.unusedSimpArgs false
mutual
def laws_FnWides.j0 : Nat → List Int → List (S40) → List Int → Bool → Option (Bool)
 | 0, _, _, _, _ => none
 | k + 1, x3, x4, x5, x33 => if x33 = true then ((spec_WidesOf.f k x3 x4).bind fun t475 => ((laws_wcInts.f k x5 t475).bind fun t478 => (some t478))) else (laws_FnWides.l0 k x3 x4 x5 0)
def laws_FnWides.l0 : Nat → List Int → List (S40) → List Int → Int → Option (Bool)
 | 0, _, _, _, _ => none
 | k + 1, x3, x4, x5, x6 => if x6 < (x5.length : Int) then ((impl_SpanAt.f k x4 x6).bind fun bt479 => ((impl_ClusterAt.f k x3 x6).bind fun t481 => (if t481 = x6 then (if 0 ≤ x6 then ((impl_ClusterWide.f k x3 x6).bind fun t483 => (if (rd x5 x6) = (wrap64 (t483 * bt479.1)) then ((impl_ClusterAt.f k x3 x6).bind fun t484 => (if t484 = x6 then (laws_FnWides.l0 k x3 x4 x5 (wrap64 (x6 + 1))) else (if (rd x5 x6) = 0 then (laws_FnWides.l0 k x3 x4 x5 (wrap64 (x6 + 1))) else (some false)))) else (some false))) else (none)) else ((impl_ClusterAt.f k x3 x6).bind fun t486 => (if t486 = x6 then (laws_FnWides.l0 k x3 x4 x5 (wrap64 (x6 + 1))) else (if 0 ≤ x6 then (if (rd x5 x6) = 0 then (laws_FnWides.l0 k x3 x4 x5 (wrap64 (x6 + 1))) else (some false)) else (none))))))) else ((impl_WidesOf.f k x3 (([(⟨0, (x3.length : Int), 7, 0⟩ : S40)] : List (S40)))).bind fun t491 => ((impl_WidesOf.f k x3 (([(⟨0, (x3.length : Int), 14, 0⟩ : S40)] : List (S40)))).bind fun t497 => (laws_FnWides.l1 k x3 x5 t491 t497 0)))
def laws_FnWides.l1 : Nat → List Int → List Int → List Int → List Int → Int → Option (Bool)
 | 0, _, _, _, _, _ => none
 | k + 1, x3, x5, x9, x10, x11 => if x11 < (x9.length : Int) then (if 0 ≤ x11 then (if x11 < (x10.length : Int) then (if (rd x10 x11) = (wrap64 (2 * (rd x9 x11))) then (laws_FnWides.l1 k x3 x5 x9 x10 (wrap64 (x11 + 1))) else (some false)) else (none)) else (none)) else (some ((x5.length : Int) == (x3.length : Int)))
end
def laws_FnWides.f (k : Nat) (l0 : List Int) : Option (Bool) := if (l0.length : Int) > 1048576 then (some true) else ((spec_DrawWidesOf.f k l0).bind fun bt462 => ((impl_WidesOf.f k bt462.1 bt462.2).bind fun t468 => ((spec_WidesOf.f k bt462.1 bt462.2).bind fun t471 => ((laws_wcInts.f k t468 t471).bind fun t474 => (if t474 = true then (laws_FnWides.j0 k bt462.1 bt462.2 t468 ((t468.length : Int) == 0)) else (laws_FnWides.j0 k bt462.1 bt462.2 t468 true))))))
def laws_FnWides.T11 : Bool × List (List Nat × List Nat) := (true, [([], []), ([], []), ([0, 1], [0, 1]), ([], []), ([2, 3], [2, 3]), ([4, 2], [4]), ([5], [5]), ([5], [5]), ([6, 7, 5], [5, 6, 7]), ([8, 5], [5, 8]), ([5], [5]), ([5], [5]), ([10, 11, 5, 5], [5, 10, 11]), ([5], [5]), ([12, 13, 5], [5, 12, 13]), ([9, 14, 5], [5, 9, 14]), ([5, 15], [5, 15]), ([16, 12], [16]), ([17], [17]), ([17], [17]), ([18, 19, 17, 17], [17, 18, 19]), ([17], [17]), ([20, 21, 17], [17, 20, 21]), ([22, 20, 17], [17, 22]), ([23], [23]), ([23], [23]), ([24, 25, 23], [23, 24, 25]), ([26, 23], [23, 26]), ([27, 23], [23, 27]), ([23, 28, 17], [17, 23, 28]), ([17, 29], [17, 29])])
def laws_FnWides.B11 : List Nat := [0, 0, 3, 0, 15, 31, 63, 63, 255, 511, 63, 63, 3135, 63, 15423, 32767, 65535, 131071, 262143, 262143, 1048575, 262143, 4194303, 8388607, 16777215, 16777215, 67108863, 134217727, 268435455, 536870911, 1073741823]
theorem laws_FnWides.tab11 : rtab .any (opsOf Try.f4 11) = laws_FnWides.T11 := by kernel_rfl
theorem laws_FnWides.bits11 : waitsOk laws_FnWides.T11.2 laws_FnWides.B11 = true := by kernel_rfl
def laws_FnWides.T18 : Bool × List (List Nat × List Nat) := (true, [([], []), ([], []), ([0, 1], [0, 1]), ([2], [2]), ([], []), ([], []), ([4, 5], [4, 5]), ([6], [6]), ([7], [7]), ([3, 8], [3, 8])])
def laws_FnWides.B18 : List Nat := [0, 0, 3, 7, 0, 0, 48, 112, 240, 511]
theorem laws_FnWides.tab18 : rtab .any (opsOf Try.f4 18) = laws_FnWides.T18 := by kernel_rfl
theorem laws_FnWides.bits18 : waitsOk laws_FnWides.T18.2 laws_FnWides.B18 = true := by kernel_rfl
theorem laws_FnWides.calls (k : Nat) (A0 : Option Addr) (c0 : Nat) (l0 : List Int) (r : Bool) (w : World) (hr0 : Kd.C (Kd.int .u8) w A0 l0.length l0) (hc0 : l0.length ≤ c0) (h : laws_FnWides.f k l0 = some r) :
  Calls Try.prog 4 #[.slice A0 l0.length c0] w fun e w' => e = .returned (.bool r) ∧ Below w.heap.size w w' := by
 have hu40 := Try.underlying40
 have HR0 := za.mk hr0
 have HC0 := za.mk hc0
 clear hr0 hc0
 have HB := za.mk (Below.refl w.heap.size w)
 have H : (if (l0.length : Int) > 1048576 then (some true) else ((spec_DrawWidesOf.f k l0).bind fun bt462 => ((impl_WidesOf.f k bt462.1 bt462.2).bind fun t468 => ((spec_WidesOf.f k bt462.1 bt462.2).bind fun t471 => ((laws_wcInts.f k t468 t471).bind fun t474 => (if t474 = true then (laws_FnWides.j0 k bt462.1 bt462.2 t468 ((t468.length : Int) == 0)) else (laws_FnWides.j0 k bt462.1 bt462.2 t468 true))))))) = some r := h
 clear h
 by_cases c2 : (l0.length : Int) > 1048576
 ·rw [if_pos c2] at H
  have c2b0 : decide (1048576 < (l0.length : Int)) = true := decide_eq_true c2
  have c2b1 : decide (1048576 < l0.length) = true := decide_eq_true (by omega)
  clear c2
  obtain rfl := Option.some.inj H
  go_enter Try.func4, Try.ntmps4
  go_wp2
  go_ret
  exact ⟨by first | rfl | (simp [zi, zj] <;> rfl) | (simp [*, zi, zj] <;> rfl), by repeat (first | (with_reducible first | exact HB.out | apply ze | apply zb | apply zd) | exact HB.out)⟩
 ·rw [if_neg c2] at H
  have c2b0 : decide (1048576 < (l0.length : Int)) = false := decide_eq_false c2
  have c2b1 : decide (1048576 < l0.length) = false := decide_eq_false (by omega)
  clear c2
  replace H := Option.bind_eq_some_iff.mp H
  obtain ⟨⟨t462, t463⟩, A30, H⟩ := H
  replace H : ((impl_WidesOf.f k t462 t463).bind fun t468 => ((spec_WidesOf.f k t462 t463).bind fun t471 => ((laws_wcInts.f k t468 t471).bind fun t474 => (if t474 = true then (laws_FnWides.j0 k t462 t463 t468 ((t468.length : Int) == 0)) else (laws_FnWides.j0 k t462 t463 t468 true))))) = some r := H
  have A3 := za.mk A30
  clear A30
  replace H := Option.bind_eq_some_iff.mp H
  obtain ⟨t468, A40, H⟩ := H
  replace H : ((spec_WidesOf.f k t462 t463).bind fun t471 => ((laws_wcInts.f k t468 t471).bind fun t474 => (if t474 = true then (laws_FnWides.j0 k t462 t463 t468 ((t468.length : Int) == 0)) else (laws_FnWides.j0 k t462 t463 t468 true)))) = some r := H
  have A4 := za.mk A40
  clear A40
  have HC5 := za.mk H
  clear H
  go_enter Try.func4, Try.ntmps4
  go_upto_region 5 with (first | ((with_reducible refine zt (f := 24) rfl ?_); refine zgo (some 17) Try.func24 #[.slice A0 l0.length c0] rfl ?_; (with_reducible refine (spec_DrawWidesOf.calls k _ _ l0 t462 t463 _ ?side1 ?side2 A3.out).mono ?_); (case side1 => repeat (first | exact HR0.out | (with_reducible refine Kd.zca ?_ _) | (with_reducible refine Kd.zda ?_ _) | (with_reducible refine Kd.zfa ?_))); (case side2 => exact HC0.out); rintro e w6 ⟨v464, v466, rfl, ho0, ho1, hb⟩; refine ⟨_, rfl, ?_⟩; have n0_ := za.mk (Kd.zqa ho0 (zaa (by repeat (first | (with_reducible first | exact HB.out | apply ze | apply zb | apply zd) | exact HB.out)))); have n1_ := za.mk (Kd.zqa ho1 (zaa (by repeat (first | (with_reducible first | exact HB.out | apply ze | apply zb | apply zd) | exact HB.out)))); have n2_ := za.mk (zv (by repeat (first | (with_reducible first | exact HB.out | apply ze | apply zb | apply zd) | exact HB.out)) hb); clear HB; have HO465 := n0_; have HO467 := n1_; have HB := n2_; clear n0_ n1_ n2_; (try clear hb); (try clear hb2); (try clear hk); (try clear hi); (try clear ho0); (try clear ho1); obtain ⟨Ao7, co7, eo7⟩ := Kd.zka HO465.out; subst eo7; obtain ⟨Ao8, co8, eo8⟩ := Kd.zka HO467.out; subst eo8) | ((with_reducible refine zt (f := 18) rfl ?_); refine zgo (some 22) Try.func18 #[.slice Ao7 t462.length co7, .slice Ao8 t463.length co8] rfl ?_; (with_reducible refine (impl_WidesOf.calls k _ _ t462 _ _ t463 t468 _ ?side1 ?side2 ?side3 ?side4 A4.out).mono ?_); (case side1 => repeat (first | exact (Kd.zw HO465.out).2.2 | (with_reducible refine Kd.zca ?_ _) | (with_reducible refine Kd.zda ?_ _) | (with_reducible refine Kd.zfa ?_))); (case side2 => exact (Kd.zw HO465.out).2.1); (case side3 => repeat (first | exact (Kd.zw HO467.out).2.2 | (with_reducible refine Kd.zca ?_ _) | (with_reducible refine Kd.zda ?_ _) | (with_reducible refine Kd.zfa ?_))); (case side4 => exact (Kd.zw HO467.out).2.1); rintro e w9 ⟨v469, rfl, ho0, hb⟩; refine ⟨_, rfl, ?_⟩; have n0_ := za.mk (Kd.zsb (by (with_reducible repeat (first | apply Kd.zg | apply Kd.zh | apply Kd.zm)); exact HO465.out) (Kd.zac ho0) hb); have n1_ := za.mk (Kd.zea (by (with_reducible repeat (first | apply Kd.zg | apply Kd.zh | apply Kd.zm)); exact HO467.out) hb); have n2_ := za.mk (Kd.zqa (Kd.zbc ho0 (Kd.R_lt (by (with_reducible repeat (first | apply Kd.zg | apply Kd.zh | apply Kd.zm)); exact HO465.out))) (zaa (by repeat (first | (with_reducible first | exact HB.out | apply ze | apply zb | apply zd) | exact HB.out)))); have n3_ := za.mk (zv (by repeat (first | (with_reducible first | exact HB.out | apply ze | apply zb | apply zd) | exact HB.out)) hb); clear HO465; clear HO467; clear HB; have HO465 := n0_; have HO467 := n1_; have HO470 := n2_; have HB := n3_; clear n0_ n1_ n2_ n3_; (try clear hb); (try clear hb2); (try clear hk); (try clear hi); (try clear ho0)))
  (try simp only [Act.put, List.setIfInBounds_toArray, List.set_cons_zero, List.set_cons_succ])
  go_cut [33] (fun v33 wc => ∃ (kq : Nat) (x33_4 : Bool), v33 = .bool x33_4 ∧ za (laws_FnWides.j0 kq t462 t463 t468 x33_4 = some r) ∧ za (kq ≤ k) ∧ za (Kd.R (Kd.int .i64) 3 wc w.heap.size (fun k_ => some k_ ≠ (v469 : Value).ownBlock) (.slice Ao7 t462.length co7) t462) ∧ za (Kd.R k40 40 wc w.heap.size (fun _ => True) (.slice Ao8 t463.length co8) t463) ∧ za (Kd.R (Kd.int .i64) 3 wc w.heap.size (fun k_ => some k_ ≠ ((.slice Ao7 t462.length co7) : Value).ownBlock) v469 t468) ∧ za (Below w.heap.size w wc))
  case first =>
   have H := HC5.out
   clear HC5
   replace H := Option.bind_eq_some_iff.mp H
   obtain ⟨t471, A100, H⟩ := H
   replace H : ((laws_wcInts.f k t468 t471).bind fun t474 => (if t474 = true then (laws_FnWides.j0 k t462 t463 t468 ((t468.length : Int) == 0)) else (laws_FnWides.j0 k t462 t463 t468 true))) = some r := H
   have A10 := za.mk A100
   clear A100
   replace H := Option.bind_eq_some_iff.mp H
   obtain ⟨t474, A110, H⟩ := H
   replace H : (if t474 = true then (laws_FnWides.j0 k t462 t463 t468 ((t468.length : Int) == 0)) else (laws_FnWides.j0 k t462 t463 t468 true)) = some r := H
   have A11 := za.mk A110
   clear A110
   by_cases c12 : t474 = true
   ·subst c12
    have H1 : (laws_FnWides.j0 k t462 t463 t468 ((t468.length : Int) == 0)) = some r := by rw [if_pos rfl] at H; exact H
    clear H
    have H := H1
    clear H1
    have H' := za.mk H
    clear H
    go_wp2_with (first | ((with_reducible refine zt (f := 15) rfl ?_); refine zgo (some 26) Try.func15 #[.slice Ao7 t462.length co7, .slice Ao8 t463.length co8] rfl ?_; (with_reducible refine (spec_WidesOf.calls k _ _ t462 _ _ t463 t471 _ ?side1 ?side2 ?side3 ?side4 A10.out).mono ?_); (case side1 => repeat (first | exact (Kd.zw HO465.out).2.2 | (with_reducible refine Kd.zca ?_ _) | (with_reducible refine Kd.zda ?_ _) | (with_reducible refine Kd.zfa ?_))); (case side2 => exact (Kd.zw HO465.out).2.1); (case side3 => repeat (first | exact (Kd.zw HO467.out).2.2 | (with_reducible refine Kd.zca ?_ _) | (with_reducible refine Kd.zda ?_ _) | (with_reducible refine Kd.zfa ?_))); (case side4 => exact (Kd.zw HO467.out).2.1); rintro e w13 ⟨v472, rfl, ho0, hb⟩; refine ⟨_, rfl, ?_⟩; have n0_ := za.mk (Kd.zsb (by (with_reducible repeat (first | apply Kd.zg | apply Kd.zh | apply Kd.zm)); exact HO465.out) (Kd.zac ho0) hb); have n1_ := za.mk (Kd.zea (by (with_reducible repeat (first | apply Kd.zg | apply Kd.zh | apply Kd.zm)); exact HO467.out) hb); have n2_ := za.mk (Kd.zsb (by (with_reducible repeat (first | apply Kd.zg | apply Kd.zh | apply Kd.zm)); exact HO470.out) (Kd.zac ho0) hb); have n3_ := za.mk (Kd.zqa (Kd.zbc (Kd.zbc ho0 (Kd.R_lt (by (with_reducible repeat (first | apply Kd.zg | apply Kd.zh | apply Kd.zm)); exact HO465.out))) (Kd.R_lt (by (with_reducible repeat (first | apply Kd.zg | apply Kd.zh | apply Kd.zm)); exact HO470.out))) (zaa (by repeat (first | (with_reducible first | exact HB.out | apply ze | apply zb | apply zd) | exact HB.out)))); have n4_ := za.mk (zv (by repeat (first | (with_reducible first | exact HB.out | apply ze | apply zb | apply zd) | exact HB.out)) hb); clear HO465; clear HO467; clear HO470; clear HB; have HO465 := n0_; have HO467 := n1_; have HO470 := n2_; have HO473 := n3_; have HB := n4_; clear n0_ n1_ n2_ n3_ n4_; (try clear hb); (try clear hb2); (try clear hk); (try clear hi); (try clear ho0); obtain ⟨Ao14, co14, eo14⟩ := Kd.zka HO470.out; subst eo14; obtain ⟨Ao15, co15, eo15⟩ := Kd.zka HO473.out; subst eo15) | ((with_reducible refine zt (f := 25) rfl ?_); refine zgo (some 27) Try.func25 #[.slice Ao14 t468.length co14, .slice Ao15 t471.length co15] rfl ?_; (with_reducible refine (laws_wcInts.calls k _ _ t468 _ _ t471 true _ ?side1 ?side2 ?side3 ?side4 A11.out).mono ?_); (case side1 => repeat (first | exact (Kd.zw HO470.out).2.2 | (with_reducible refine Kd.zca ?_ _) | (with_reducible refine Kd.zda ?_ _) | (with_reducible refine Kd.zfa ?_))); (case side2 => exact (Kd.zw HO470.out).2.1); (case side3 => repeat (first | exact (Kd.zw HO473.out).2.2 | (with_reducible refine Kd.zca ?_ _) | (with_reducible refine Kd.zda ?_ _) | (with_reducible refine Kd.zfa ?_))); (case side4 => exact (Kd.zw HO473.out).2.1); rintro e w' ⟨rfl, ⟨nd, rfl⟩⟩; refine ⟨_, rfl, ?_⟩))
    go_meet
    case rel => exact ⟨_, (((t468.length : Int) == 0)), (by first | rfl | (simp; done) | (simp [*]; done)), H', ⟨by first | omega | exact Nat.le_refl _⟩, ⟨by (with_reducible repeat (first | apply Kd.zg | apply Kd.zh | apply Kd.zm)); exact Kd.zga HO465.out (fun _ hk => hk.1.2)⟩, ⟨by (with_reducible repeat (first | apply Kd.zg | apply Kd.zh | apply Kd.zm)); exact HO467.out⟩, ⟨by (with_reducible repeat (first | apply Kd.zg | apply Kd.zh | apply Kd.zm)); exact Kd.zga HO470.out (fun _ hk => hk.1.2)⟩, ⟨by repeat (first | (with_reducible first | exact HB.out | apply ze | apply zb | apply zd) | exact HB.out)⟩⟩
   ·replace c12 := Bool.eq_false_iff.mpr c12
    subst c12
    have H1 : (laws_FnWides.j0 k t462 t463 t468 true) = some r := by rw [if_neg (show ¬ (false = true) by decide)] at H; exact H
    clear H
    have H := H1
    clear H1
    have H' := za.mk H
    clear H
    go_wp2_with (first | ((with_reducible refine zt (f := 15) rfl ?_); refine zgo (some 26) Try.func15 #[.slice Ao7 t462.length co7, .slice Ao8 t463.length co8] rfl ?_; (with_reducible refine (spec_WidesOf.calls k _ _ t462 _ _ t463 t471 _ ?side1 ?side2 ?side3 ?side4 A10.out).mono ?_); (case side1 => repeat (first | exact (Kd.zw HO465.out).2.2 | (with_reducible refine Kd.zca ?_ _) | (with_reducible refine Kd.zda ?_ _) | (with_reducible refine Kd.zfa ?_))); (case side2 => exact (Kd.zw HO465.out).2.1); (case side3 => repeat (first | exact (Kd.zw HO467.out).2.2 | (with_reducible refine Kd.zca ?_ _) | (with_reducible refine Kd.zda ?_ _) | (with_reducible refine Kd.zfa ?_))); (case side4 => exact (Kd.zw HO467.out).2.1); rintro e w16 ⟨v472, rfl, ho0, hb⟩; refine ⟨_, rfl, ?_⟩; have n0_ := za.mk (Kd.zsb (by (with_reducible repeat (first | apply Kd.zg | apply Kd.zh | apply Kd.zm)); exact HO465.out) (Kd.zac ho0) hb); have n1_ := za.mk (Kd.zea (by (with_reducible repeat (first | apply Kd.zg | apply Kd.zh | apply Kd.zm)); exact HO467.out) hb); have n2_ := za.mk (Kd.zsb (by (with_reducible repeat (first | apply Kd.zg | apply Kd.zh | apply Kd.zm)); exact HO470.out) (Kd.zac ho0) hb); have n3_ := za.mk (Kd.zqa (Kd.zbc (Kd.zbc ho0 (Kd.R_lt (by (with_reducible repeat (first | apply Kd.zg | apply Kd.zh | apply Kd.zm)); exact HO465.out))) (Kd.R_lt (by (with_reducible repeat (first | apply Kd.zg | apply Kd.zh | apply Kd.zm)); exact HO470.out))) (zaa (by repeat (first | (with_reducible first | exact HB.out | apply ze | apply zb | apply zd) | exact HB.out)))); have n4_ := za.mk (zv (by repeat (first | (with_reducible first | exact HB.out | apply ze | apply zb | apply zd) | exact HB.out)) hb); clear HO465; clear HO467; clear HO470; clear HB; have HO465 := n0_; have HO467 := n1_; have HO470 := n2_; have HO473 := n3_; have HB := n4_; clear n0_ n1_ n2_ n3_ n4_; (try clear hb); (try clear hb2); (try clear hk); (try clear hi); (try clear ho0); obtain ⟨Ao17, co17, eo17⟩ := Kd.zka HO470.out; subst eo17; obtain ⟨Ao18, co18, eo18⟩ := Kd.zka HO473.out; subst eo18) | ((with_reducible refine zt (f := 25) rfl ?_); refine zgo (some 27) Try.func25 #[.slice Ao17 t468.length co17, .slice Ao18 t471.length co18] rfl ?_; (with_reducible refine (laws_wcInts.calls k _ _ t468 _ _ t471 false _ ?side1 ?side2 ?side3 ?side4 A11.out).mono ?_); (case side1 => repeat (first | exact (Kd.zw HO470.out).2.2 | (with_reducible refine Kd.zca ?_ _) | (with_reducible refine Kd.zda ?_ _) | (with_reducible refine Kd.zfa ?_))); (case side2 => exact (Kd.zw HO470.out).2.1); (case side3 => repeat (first | exact (Kd.zw HO473.out).2.2 | (with_reducible refine Kd.zca ?_ _) | (with_reducible refine Kd.zda ?_ _) | (with_reducible refine Kd.zfa ?_))); (case side4 => exact (Kd.zw HO473.out).2.1); rintro e w' ⟨rfl, ⟨nd, rfl⟩⟩; refine ⟨_, rfl, ?_⟩))
    go_meet
    case rel => exact ⟨_, (true), (by first | rfl | (simp; done) | (simp [*]; done)), H', ⟨by first | omega | exact Nat.le_refl _⟩, ⟨by (with_reducible repeat (first | apply Kd.zg | apply Kd.zh | apply Kd.zm)); exact Kd.zga HO465.out (fun _ hk => hk.1.2)⟩, ⟨by (with_reducible repeat (first | apply Kd.zg | apply Kd.zh | apply Kd.zm)); exact HO467.out⟩, ⟨by (with_reducible repeat (first | apply Kd.zg | apply Kd.zh | apply Kd.zm)); exact Kd.zga HO470.out (fun _ hk => hk.1.2)⟩, ⟨by repeat (first | (with_reducible first | exact HB.out | apply ze | apply zb | apply zd) | exact HB.out)⟩⟩
  case rest =>
   clear HC5
   try clear c1
   try clear c2
   try clear c2b0
   try clear c2b1
   try clear p2
   try clear c4
   try clear c12
   try clear c15
   try clear c18
   obtain ⟨kq, x33_4, rfl, HA, HJ4, HO_3, HO_4, HO_5, HB⟩ := hcut
   cases kq with
   | zero => exact absurd HA.out (by simp [laws_FnWides.j0])
   | succ kj4 =>
    have H := HA.out
    clear HA
    simp only [laws_FnWides.j0] at H
    by_cases c19 : x33_4 = true
    ·subst c19
     have H1 : ((spec_WidesOf.f kj4 t462 t463).bind fun t475 => ((laws_wcInts.f kj4 t468 t475).bind fun t478 => (some t478))) = some r := by rw [if_pos rfl] at H; exact H
     clear H
     have H := H1
     clear H1
     replace H := Option.bind_eq_some_iff.mp H
     obtain ⟨t475, A200, H⟩ := H
     replace H : ((laws_wcInts.f kj4 t468 t475).bind fun t478 => (some t478)) = some r := H
     have A20 := za.mk A200
     clear A200
     replace H := Option.bind_eq_some_iff.mp H
     obtain ⟨t478, A210, H⟩ := H
     replace H : (some t478) = some r := H
     have A21 := za.mk A210
     clear A210
     obtain rfl := Option.some.inj H
     go_wp2_with (first | ((with_reducible refine zt (f := 15) rfl ?_); refine zgo (some 37) Try.func15 #[.slice Ao7 t462.length co7, .slice Ao8 t463.length co8] rfl ?_; (with_reducible refine (spec_WidesOf.calls kj4 _ _ t462 _ _ t463 t475 _ ?side1 ?side2 ?side3 ?side4 A20.out).mono ?_); (case side1 => repeat (first | exact (Kd.zw HO_3.out).2.2 | (with_reducible refine Kd.zca ?_ _) | (with_reducible refine Kd.zda ?_ _) | (with_reducible refine Kd.zfa ?_))); (case side2 => exact (Kd.zw HO_3.out).2.1); (case side3 => repeat (first | exact (Kd.zw HO_4.out).2.2 | (with_reducible refine Kd.zca ?_ _) | (with_reducible refine Kd.zda ?_ _) | (with_reducible refine Kd.zfa ?_))); (case side4 => exact (Kd.zw HO_4.out).2.1); rintro e w22 ⟨v476, rfl, ho0, hb⟩; refine ⟨_, rfl, ?_⟩; have n0_ := za.mk (Kd.zsb (by (with_reducible repeat (first | apply Kd.zg | apply Kd.zh | apply Kd.zm)); exact HO_3.out) (Kd.zac ho0) hb); have n1_ := za.mk (Kd.zea (by (with_reducible repeat (first | apply Kd.zg | apply Kd.zh | apply Kd.zm)); exact HO_4.out) hb); have n2_ := za.mk (Kd.zsb (by (with_reducible repeat (first | apply Kd.zg | apply Kd.zh | apply Kd.zm)); exact HO_5.out) (Kd.zac ho0) hb); have n3_ := za.mk (Kd.zqa (Kd.zbc (Kd.zbc ho0 (Kd.R_lt (by (with_reducible repeat (first | apply Kd.zg | apply Kd.zh | apply Kd.zm)); exact HO_3.out))) (Kd.R_lt (by (with_reducible repeat (first | apply Kd.zg | apply Kd.zh | apply Kd.zm)); exact HO_5.out))) (zaa (by repeat (first | (with_reducible first | exact HB.out | apply ze | apply zb | apply zd) | exact HB.out)))); have n4_ := za.mk (zv (by repeat (first | (with_reducible first | exact HB.out | apply ze | apply zb | apply zd) | exact HB.out)) hb); clear HO_3; clear HO_4; clear HO_5; clear HB; have HO_3 := n0_; have HO_4 := n1_; have HO_5 := n2_; have HO477 := n3_; have HB := n4_; clear n0_ n1_ n2_ n3_ n4_; (try clear hb); (try clear hb2); (try clear hk); (try clear hi); (try clear ho0); obtain ⟨Ao23, co23, eo23⟩ := Kd.zka HO_5.out; subst eo23; obtain ⟨Ao24, co24, eo24⟩ := Kd.zka HO477.out; subst eo24) | ((with_reducible refine zt (f := 25) rfl ?_); refine zgo (some 38) Try.func25 #[.slice Ao23 t468.length co23, .slice Ao24 t475.length co24] rfl ?_; (with_reducible refine (laws_wcInts.calls kj4 _ _ t468 _ _ t475 t478 _ ?side1 ?side2 ?side3 ?side4 A21.out).mono ?_); (case side1 => repeat (first | exact (Kd.zw HO_5.out).2.2 | (with_reducible refine Kd.zca ?_ _) | (with_reducible refine Kd.zda ?_ _) | (with_reducible refine Kd.zfa ?_))); (case side2 => exact (Kd.zw HO_5.out).2.1); (case side3 => repeat (first | exact (Kd.zw HO477.out).2.2 | (with_reducible refine Kd.zca ?_ _) | (with_reducible refine Kd.zda ?_ _) | (with_reducible refine Kd.zfa ?_))); (case side4 => exact (Kd.zw HO477.out).2.1); rintro e w' ⟨rfl, ⟨nd, rfl⟩⟩; refine ⟨_, rfl, ?_⟩))
     go_ret
     exact ⟨by first | rfl | (simp [zi, zj] <;> rfl) | (simp [*, zi, zj] <;> rfl), by repeat (first | (with_reducible first | exact HB.out | apply ze | apply zb | apply zd) | exact HB.out)⟩
    ·replace c19 := Bool.eq_false_iff.mpr c19
     subst c19
     have H1 : (laws_FnWides.l0 kj4 t462 t463 t468 0) = some r := by rw [if_neg (show ¬ (false = true) by decide)] at H; exact H
     clear H
     have H := H1
     clear H1
     have H' := za.mk H
     clear H
     go_wp2
     go_loopg [6] kj4 (fun kq v6 w' => ∃ (x6_2 : Int), v6 = .int .i64 x6_2 ∧ za (laws_FnWides.l0 kq t462 t463 t468 x6_2 = some r) ∧ za (kq ≤ kj4) ∧ za (Kd.R (Kd.int .i64) 3 w' w.heap.size (fun k_ => some k_ ≠ (v469 : Value).ownBlock) (.slice Ao7 t462.length co7) t462) ∧ za (Kd.R k40 40 w' w.heap.size (fun _ => True) (.slice Ao8 t463.length co8) t463) ∧ za (Kd.R (Kd.int .i64) 3 w' w.heap.size (fun k_ => some k_ ≠ ((.slice Ao7 t462.length co7) : Value).ownBlock) v469 t468) ∧ za (Below w.heap.size w w'))
     case atStart => exact ⟨(0), (by first | rfl | (simp; done) | (simp [*]; done)), H', ⟨Nat.le_refl _⟩, ⟨by (with_reducible repeat (first | apply Kd.zg | apply Kd.zh | apply Kd.zm)); exact HO_3.out⟩, ⟨by (with_reducible repeat (first | apply Kd.zg | apply Kd.zh | apply Kd.zm)); exact HO_4.out⟩, ⟨by (with_reducible repeat (first | apply Kd.zg | apply Kd.zh | apply Kd.zm)); exact HO_5.out⟩, ⟨by repeat (first | (with_reducible first | exact HB.out | apply ze | apply zb | apply zd) | exact HB.out)⟩⟩
     case round =>
      clear H'
      try clear c1
      try clear c2
      try clear c2b0
      try clear c2b1
      try clear p2
      try clear c4
      try clear c12
      try clear c15
      try clear c18
      try clear c19
      try clear c24
      try clear p2
      obtain ⟨x6_2, rfl, HA, HK2, HO_3, HO_4, HO_5, HB⟩ := hrel
      cases gk with
      | zero => exact absurd HA.out (by simp [laws_FnWides.l0])
      | succ k2 =>
       have H := HA.out
       clear HA
       simp only [laws_FnWides.l0] at H
       by_cases c25 : x6_2 < (t468.length : Int)
       ·rw [if_pos c25] at H
        have c25b0 : decide (x6_2 < (t468.length : Int)) = true := decide_eq_true c25
        clear c25
        replace H := Option.bind_eq_some_iff.mp H
        obtain ⟨⟨t479, t480⟩, A260, H⟩ := H
        replace H : ((impl_ClusterAt.f k2 t462 x6_2).bind fun t481 => (if t481 = x6_2 then (if 0 ≤ x6_2 then ((impl_ClusterWide.f k2 t462 x6_2).bind fun t483 => (if (rd t468 x6_2) = (wrap64 (t483 * t479)) then ((impl_ClusterAt.f k2 t462 x6_2).bind fun t484 => (if t484 = x6_2 then (laws_FnWides.l0 k2 t462 t463 t468 (wrap64 (x6_2 + 1))) else (if (rd t468 x6_2) = 0 then (laws_FnWides.l0 k2 t462 t463 t468 (wrap64 (x6_2 + 1))) else (some false)))) else (some false))) else (none)) else ((impl_ClusterAt.f k2 t462 x6_2).bind fun t486 => (if t486 = x6_2 then (laws_FnWides.l0 k2 t462 t463 t468 (wrap64 (x6_2 + 1))) else (if 0 ≤ x6_2 then (if (rd t468 x6_2) = 0 then (laws_FnWides.l0 k2 t462 t463 t468 (wrap64 (x6_2 + 1))) else (some false)) else (none)))))) = some r := H
        have A26 := za.mk A260
        clear A260
        replace H := Option.bind_eq_some_iff.mp H
        obtain ⟨t481, A270, H⟩ := H
        replace H : (if t481 = x6_2 then (if 0 ≤ x6_2 then ((impl_ClusterWide.f k2 t462 x6_2).bind fun t483 => (if (rd t468 x6_2) = (wrap64 (t483 * t479)) then ((impl_ClusterAt.f k2 t462 x6_2).bind fun t484 => (if t484 = x6_2 then (laws_FnWides.l0 k2 t462 t463 t468 (wrap64 (x6_2 + 1))) else (if (rd t468 x6_2) = 0 then (laws_FnWides.l0 k2 t462 t463 t468 (wrap64 (x6_2 + 1))) else (some false)))) else (some false))) else (none)) else ((impl_ClusterAt.f k2 t462 x6_2).bind fun t486 => (if t486 = x6_2 then (laws_FnWides.l0 k2 t462 t463 t468 (wrap64 (x6_2 + 1))) else (if 0 ≤ x6_2 then (if (rd t468 x6_2) = 0 then (laws_FnWides.l0 k2 t462 t463 t468 (wrap64 (x6_2 + 1))) else (some false)) else (none))))) = some r := H
        have A27 := za.mk A270
        clear A270
        by_cases c28 : t481 = x6_2
        ·rw [if_pos c28] at H
         have c28b0 : (t481 == x6_2) = true := beq_iff_eq.mpr c28
         have c28b1 : (t481 != x6_2) = false := bne_eq_false_iff_eq.mpr c28
         clear c28
         by_cases c29 : 0 ≤ x6_2
         ·rw [if_pos c29] at H
          have c29b0 : decide (0 ≤ x6_2) = true := decide_eq_true c29
          clear c29
          replace H := Option.bind_eq_some_iff.mp H
          obtain ⟨t483, A300, H⟩ := H
          replace H : (if (rd t468 x6_2) = (wrap64 (t483 * t479)) then ((impl_ClusterAt.f k2 t462 x6_2).bind fun t484 => (if t484 = x6_2 then (laws_FnWides.l0 k2 t462 t463 t468 (wrap64 (x6_2 + 1))) else (if (rd t468 x6_2) = 0 then (laws_FnWides.l0 k2 t462 t463 t468 (wrap64 (x6_2 + 1))) else (some false)))) else (some false)) = some r := H
          have A30 := za.mk A300
          clear A300
          by_cases c31 : (rd t468 x6_2) = (wrap64 (t483 * t479))
          ·rw [if_pos c31] at H
           have c31b0 : ((rd t468 x6_2) == (wrap64 (t483 * t479))) = true := beq_iff_eq.mpr c31
           have c31b1 : ((rd t468 x6_2) != (wrap64 (t483 * t479))) = false := bne_eq_false_iff_eq.mpr c31
           clear c31
           replace H := Option.bind_eq_some_iff.mp H
           obtain ⟨t484, A320, H⟩ := H
           replace H : (if t484 = x6_2 then (laws_FnWides.l0 k2 t462 t463 t468 (wrap64 (x6_2 + 1))) else (if (rd t468 x6_2) = 0 then (laws_FnWides.l0 k2 t462 t463 t468 (wrap64 (x6_2 + 1))) else (some false))) = some r := H
           have A32 := za.mk A320
           clear A320
           by_cases c33 : t484 = x6_2
           ·rw [if_pos c33] at H
            have c33b0 : (t484 == x6_2) = true := beq_iff_eq.mpr c33
            have c33b1 : (t484 != x6_2) = false := bne_eq_false_iff_eq.mpr c33
            clear c33
            have H' := za.mk H
            clear H
            obtain ⟨Ao34, co34, eo34⟩ := Kd.zka HO_5.out
            subst eo34
            try go_wp2_with (first | ((with_reducible refine zt (f := 26) rfl ?_); refine zgo (some 48) Try.func26 #[.slice Ao8 t463.length co8, .int .i64 x6_2] rfl ?_; (with_reducible refine (impl_SpanAt.calls k2 _ _ t463 x6_2 t479 t480 _ ?side1 ?side2 A26.out).mono ?_); (case side1 => repeat (first | exact (Kd.zw HO_4.out).2.2 | (with_reducible refine Kd.zca ?_ _) | (with_reducible refine Kd.zda ?_ _) | (with_reducible refine Kd.zfa ?_))); (case side2 => exact (Kd.zw HO_4.out).2.1); rintro e w35 ⟨rfl, hb⟩; refine ⟨_, rfl, ?_⟩; have n0_ := za.mk (Kd.zea (by (with_reducible repeat (first | apply Kd.zg | apply Kd.zh | apply Kd.zm)); exact HO_3.out) hb); have n1_ := za.mk (Kd.zea (by (with_reducible repeat (first | apply Kd.zg | apply Kd.zh | apply Kd.zm)); exact HO_4.out) hb); have n2_ := za.mk (Kd.zea (by (with_reducible repeat (first | apply Kd.zg | apply Kd.zh | apply Kd.zm)); exact HO_5.out) hb); have n3_ := za.mk (zv (by repeat (first | (with_reducible first | exact HB.out | apply ze | apply zb | apply zd) | exact HB.out)) hb); clear HO_3; clear HO_4; clear HO_5; clear HB; have HO_3 := n0_; have HO_4 := n1_; have HO_5 := n2_; have HB := n3_; clear n0_ n1_ n2_ n3_; (try clear hb); (try clear hb2); (try clear hk); (try clear hi)))
            have n0_ := za.mk (Kd.zm HO_3.out)
            have n1_ := za.mk (Kd.zm HO_4.out)
            have n2_ := za.mk (Kd.zm HO_5.out)
            have n3_ := za.mk (zd HB.out)
            clear HO_3
            clear HO_4
            clear HO_5
            clear HB
            have HO_3 := n0_
            have HO_4 := n1_
            have HO_5 := n2_
            have HB := n3_
            clear n0_ n1_ n2_ n3_
            have p482 : 0 ≤ (x6_2 : Int) := of_decide_eq_true (by assumption)
            have q482 : x6_2 < (t468.length : Int) := of_decide_eq_true (by assumption)
            obtain ⟨ad482, e482, hx482_0⟩ := Kd.zta (Kd.zw HO_5.out).2.2 x6_2 p482 q482
            cases e482
            replace p482 := eq_true p482
            replace q482 := eq_true q482
            refine zcc (n := 31) (S := fun w' => w'.cell? (ad482.add (x6_2).toNat) = some (.int .i64 (rd t468 x6_2))) (ds := []) #[F_,F_,F_,F_,F_,F_,F_,F_,F_,F_,F_,F_,F_,F_,F_,F_,F_,F_,F_,F_,F_,F_,F_,F_,F_,F_,F_,F_,F_,F_,F_] (by kernel_rfl) rfl rfl (hx482_0) (fun hHeld => ?_); refine zdb laws_FnWides.tab11 laws_FnWides.bits11 (fun HT_ HW_ => ?_)
            generalize w35.drew = w36 at HO_3 HO_4 HO_5 HB hx482_0 hHeld ⊢
            refine zu (i := 0) (N := some 51) (v := ?_) (a' := ?_) #[T_,F_,F_,F_,F_,F_,F_,F_,F_,F_,F_,F_,F_,F_,F_,F_,F_,F_,F_,F_,F_,F_,F_,F_,F_,F_,F_,F_,F_,F_,F_] rfl rfl (zp HT_.out (by kernel_rfl)) (fun _ _ _ h => h) (Or.inl ⟨by rfl, ?_⟩) ?_ ?_
            rotate_left
            ·intro w'
             go_simp
             with_reducible rfl
            rotate_left
            ·simp only [zpa,zpb,zpc,zpd,zpe,zk,zl]
             rfl
            refine zu (i := 1) (N := some 52) (v := ?_) (a' := ?_) #[T_,T_,F_,F_,F_,F_,F_,F_,F_,F_,F_,F_,F_,F_,F_,F_,F_,F_,F_,F_,F_,F_,F_,F_,F_,F_,F_,F_,F_,F_,F_] rfl rfl (zp HT_.out (by kernel_rfl)) (fun _ _ _ h => h) (Or.inl ⟨by rfl, ?_⟩) ?_ ?_
            rotate_left
            ·intro w'
             go_simp
             with_reducible rfl
            rotate_left
            ·simp only [zpa,zpb,zpc,zpd,zpe,zk,zl]
             rfl
            refine zu (i := 3) (N := some 54) (v := ?_) (a' := ?_) #[T_,T_,F_,T_,F_,F_,F_,F_,F_,F_,F_,F_,F_,F_,F_,F_,F_,F_,F_,F_,F_,F_,F_,F_,F_,F_,F_,F_,F_,F_,F_] rfl rfl (zp HT_.out (by kernel_rfl)) (fun _ _ _ h => h) (Or.inl ⟨by rfl, ?_⟩) ?_ ?_
            rotate_left
            ·intro w'
             go_simp
             with_reducible rfl
            rotate_left
            ·simp only [zpa,zpb,zpc,zpd,zpe,zk,zl]
             rfl
            refine one_ (i := 2) (N := some 53) #[T_,T_,T_,T_,F_,F_,F_,F_,F_,F_,F_,F_,F_,F_,F_,F_,F_,F_,F_,F_,F_,F_,F_,F_,F_,F_,F_,F_,F_,F_,F_] rfl rfl (zxa HT_.out (by kernel_rfl)) (by decide) (fun K hK => ?_)
            refine zeb Try.func27 (by kernel_rfl) rfl #[.slice Ao7 t462.length co7, .int .i64 x6_2] (by rfl) rfl rfl (by (try simp only [zma,zmb,zmc]); first | done | rfl) ?_
            with_reducible refine (impl_ClusterAt.calls k2 _ _ t462 x6_2 t481 _ ?side1 ?side2 A27.out).mono ?_
            (case side1 => repeat (first | exact (Kd.zw HO_3.out).2.2 | (with_reducible refine Kd.zca ?_ _) | (with_reducible refine Kd.zda ?_ _) | (with_reducible refine Kd.zfa ?_)))
            (case side2 => exact (Kd.zw HO_3.out).2.1)
            rintro e w37 ⟨rfl, hb⟩
            have HS0_ := (hb.cell (World.block_lt_of_cell? _ _ (hHeld))).trans (hHeld)
            refine ⟨_, rfl, ?_⟩
            have n0_ := za.mk (Kd.zea (by (with_reducible repeat (first | apply Kd.zg | apply Kd.zh | apply Kd.zm)); exact HO_3.out) hb)
            have n1_ := za.mk (Kd.zea (by (with_reducible repeat (first | apply Kd.zg | apply Kd.zh | apply Kd.zm)); exact HO_4.out) hb)
            have n2_ := za.mk (Kd.zea (by (with_reducible repeat (first | apply Kd.zg | apply Kd.zh | apply Kd.zm)); exact HO_5.out) hb)
            have n3_ := za.mk (zv (by repeat (first | (with_reducible first | exact HB.out | apply ze | apply zb | apply zd) | exact HB.out)) hb)
            clear HO_3
            clear HO_4
            clear HO_5
            clear HB
            have HO_3 := n0_
            have HO_4 := n1_
            have HO_5 := n2_
            have HB := n3_
            clear n0_ n1_ n2_ n3_
            (try clear hb)
            (try clear hb2)
            (try clear hk)
            (try clear hi)
            refine hK.out _ _ (HS0_) (fun hHeld => ?_)
            clear hK K
            refine zra (a' := ?_) ?_ ?_
            rotate_left
            ·show Act.put _ (some 53) _ = _
             simp only [zpa,zpb,zpc,zpd,zpe,zk,zl]
             rfl
            refine zu (i := 4) (N := some 55) (v := ?_) (a' := ?_) #[T_,T_,T_,T_,T_,F_,F_,F_,F_,F_,F_,F_,F_,F_,F_,F_,F_,F_,F_,F_,F_,F_,F_,F_,F_,F_,F_,F_,F_,F_,F_] rfl rfl (zp HT_.out (by kernel_rfl)) (fun _ _ _ h => h) (Or.inl ⟨by rfl, ?_⟩) ?_ ?_
            rotate_left
            ·intro w'
             go_simp
             with_reducible rfl
            rotate_left
            ·simp only [zpa,zpb,zpc,zpd,zpe,zk,zl]
             rfl
            refine zu (i := 5) (N := some 56) (v := ?_) (a' := ?_) #[T_,T_,T_,T_,T_,T_,F_,F_,F_,F_,F_,F_,F_,F_,F_,F_,F_,F_,F_,F_,F_,F_,F_,F_,F_,F_,F_,F_,F_,F_,F_] rfl rfl (zp HT_.out (by kernel_rfl)) (fun _ _ _ h => h) (Or.inl ⟨by rfl, ?_⟩) ?_ ?_
            rotate_left
            ·intro w'
             go_simp
             with_reducible rfl
            rotate_left
            ·simp only [zpa,zpb,zpc,zpd,zpe,zk,zl]
             rfl
            refine zu (i := 6) (N := some 57) (v := ?_) (a' := ?_) #[T_,T_,T_,T_,T_,T_,T_,F_,F_,F_,F_,F_,F_,F_,F_,F_,F_,F_,F_,F_,F_,F_,F_,F_,F_,F_,F_,F_,F_,F_,F_] rfl rfl (zp HT_.out (by kernel_rfl)) (fun _ _ _ h => h) (Or.inl ⟨by rfl, ?_⟩) ?_ ?_
            rotate_left
            ·intro w'
             go_simp
             with_reducible rfl
            rotate_left
            ·simp only [zpa,zpb,zpc,zpd,zpe,zk,zl]
             rfl
            refine zu (i := 7) (N := some 58) (v := ?_) (a' := ?_) #[T_,T_,T_,T_,T_,T_,T_,T_,F_,F_,F_,F_,F_,F_,F_,F_,F_,F_,F_,F_,F_,F_,F_,F_,F_,F_,F_,F_,F_,F_,F_] rfl rfl (zp HT_.out (by kernel_rfl)) (fun _ _ _ h => h) (Or.inl ⟨by rfl, ?_⟩) ?_ ?_
            rotate_left
            ·intro w'
             go_simp
             with_reducible rfl
            rotate_left
            ·simp only [zpa,zpb,zpc,zpd,zpe,zk,zl]
             rfl
            refine zu (i := 8) (N := some 59) (v := ?_) (a' := ?_) #[T_,T_,T_,T_,T_,T_,T_,T_,T_,F_,F_,F_,F_,F_,F_,F_,F_,F_,F_,F_,F_,F_,F_,F_,F_,F_,F_,F_,F_,F_,F_] rfl rfl (zp HT_.out (by kernel_rfl)) (fun _ _ _ h => h) (Or.inl ⟨by rfl, ?_⟩) ?_ ?_
            rotate_left
            ·intro w'
             go_simp
             with_reducible rfl
            rotate_left
            ·simp only [zpa,zpb,zpc,zpd,zpe,zk,zl]
             rfl
            refine zu (i := 10) (N := some 61) (v := ?_) (a' := ?_) #[T_,T_,T_,T_,T_,T_,T_,T_,T_,F_,T_,F_,F_,F_,F_,F_,F_,F_,F_,F_,F_,F_,F_,F_,F_,F_,F_,F_,F_,F_,F_] rfl rfl (zp HT_.out (by kernel_rfl)) (fun _ _ _ h => h) (Or.inl ⟨by rfl, ?_⟩) ?_ ?_
            rotate_left
            ·intro w'
             go_simp
             with_reducible rfl
            rotate_left
            ·simp only [zpa,zpb,zpc,zpd,zpe,zk,zl]
             rfl
            refine zu (i := 11) (N := some 62) (v := ?_) (a' := ?_) #[T_,T_,T_,T_,T_,T_,T_,T_,T_,F_,T_,T_,F_,F_,F_,F_,F_,F_,F_,F_,F_,F_,F_,F_,F_,F_,F_,F_,F_,F_,F_] rfl rfl (zp HT_.out (by kernel_rfl)) (fun _ _ _ h => h) (Or.inl ⟨by rfl, ?_⟩) ?_ ?_
            rotate_left
            ·intro w'
             go_simp
             with_reducible rfl
            rotate_left
            ·simp only [zpa,zpb,zpc,zpd,zpe,zk,zl]
             rfl
            refine zu (i := 13) (N := some 64) (v := ?_) (a' := ?_) #[T_,T_,T_,T_,T_,T_,T_,T_,T_,F_,T_,T_,F_,T_,F_,F_,F_,F_,F_,F_,F_,F_,F_,F_,F_,F_,F_,F_,F_,F_,F_] rfl rfl (zp HT_.out (by kernel_rfl)) (fun _ _ _ h => h) (Or.inl ⟨by rfl, ?_⟩) ?_ ?_
            rotate_left
            ·intro w'
             go_simp
             with_reducible rfl
            rotate_left
            ·simp only [zpa,zpb,zpc,zpd,zpe,zk,zl]
             rfl
            refine zrb (i := 9) (N := some 60) (v := ?_) (a' := ?_) #[T_,T_,T_,T_,T_,T_,T_,T_,T_,T_,T_,T_,F_,T_,F_,F_,F_,F_,F_,F_,F_,F_,F_,F_,F_,F_,F_,F_,F_,F_,F_] rfl rfl (zwa HT_.out HW_.out (by kernel_rfl)) (fun _ _ _ h => h) (Or.inl ⟨by rfl, ?_⟩) hHeld ?_ ?_
            rotate_left
            ·intro w' s0
             go_simp
             with_reducible rfl
            rotate_left
            ·simp only [zpa,zpb,zpc,zpd,zpe,zk,zl]
             rfl
            refine one_ (i := 12) (N := some 63) #[T_,T_,T_,T_,T_,T_,T_,T_,T_,T_,T_,T_,T_,T_,F_,F_,F_,F_,F_,F_,F_,F_,F_,F_,F_,F_,F_,F_,F_,F_,F_] rfl rfl (zxa HT_.out (by kernel_rfl)) (by decide) (fun K hK => ?_)
            refine zeb Try.func28 (by kernel_rfl) rfl #[.slice Ao7 t462.length co7, .int .i64 x6_2] (by rfl) rfl rfl (by (try simp only [zma,zmb,zmc]); first | done | rfl) ?_
            with_reducible refine (impl_ClusterWide.calls k2 _ _ t462 x6_2 t483 _ ?side1 ?side2 A30.out).mono ?_
            (case side1 => repeat (first | exact (Kd.zw HO_3.out).2.2 | (with_reducible refine Kd.zca ?_ _) | (with_reducible refine Kd.zda ?_ _) | (with_reducible refine Kd.zfa ?_)))
            (case side2 => exact (Kd.zw HO_3.out).2.1)
            rintro e w38 ⟨rfl, hb⟩
            have HS0_ := (hb.cell (World.block_lt_of_cell? _ _ (hHeld))).trans (hHeld)
            refine ⟨_, rfl, ?_⟩
            have n0_ := za.mk (Kd.zea (by (with_reducible repeat (first | apply Kd.zg | apply Kd.zh | apply Kd.zm)); exact HO_3.out) hb)
            have n1_ := za.mk (Kd.zea (by (with_reducible repeat (first | apply Kd.zg | apply Kd.zh | apply Kd.zm)); exact HO_4.out) hb)
            have n2_ := za.mk (Kd.zea (by (with_reducible repeat (first | apply Kd.zg | apply Kd.zh | apply Kd.zm)); exact HO_5.out) hb)
            have n3_ := za.mk (zv (by repeat (first | (with_reducible first | exact HB.out | apply ze | apply zb | apply zd) | exact HB.out)) hb)
            clear HO_3
            clear HO_4
            clear HO_5
            clear HB
            have HO_3 := n0_
            have HO_4 := n1_
            have HO_5 := n2_
            have HB := n3_
            clear n0_ n1_ n2_ n3_
            (try clear hb)
            (try clear hb2)
            (try clear hk)
            (try clear hi)
            refine hK.out _ _ (HS0_) (fun hHeld => ?_)
            clear hK K
            refine zra (a' := ?_) ?_ ?_
            rotate_left
            ·show Act.put _ (some 63) _ = _
             simp only [zpa,zpb,zpc,zpd,zpe,zk,zl]
             rfl
            refine zu (i := 14) (N := some 65) (v := ?_) (a' := ?_) #[T_,T_,T_,T_,T_,T_,T_,T_,T_,T_,T_,T_,T_,T_,T_,F_,F_,F_,F_,F_,F_,F_,F_,F_,F_,F_,F_,F_,F_,F_,F_] rfl rfl (zp HT_.out (by kernel_rfl)) (fun _ _ _ h => h) (Or.inl ⟨by rfl, ?_⟩) ?_ ?_
            rotate_left
            ·intro w'
             go_simp
             with_reducible rfl
            rotate_left
            ·simp only [zpa,zpb,zpc,zpd,zpe,zk,zl]
             rfl
            refine zu (i := 15) (N := some 66) (v := ?_) (a' := ?_) #[T_,T_,T_,T_,T_,T_,T_,T_,T_,T_,T_,T_,T_,T_,T_,T_,F_,F_,F_,F_,F_,F_,F_,F_,F_,F_,F_,F_,F_,F_,F_] rfl rfl (zp HT_.out (by kernel_rfl)) (fun _ _ _ h => h) (Or.inl ⟨by rfl, ?_⟩) ?_ ?_
            rotate_left
            ·intro w'
             go_simp
             with_reducible rfl
            rotate_left
            ·simp only [zpa,zpb,zpc,zpd,zpe,zk,zl]
             rfl
            refine zu (i := 16) (N := some 67) (v := ?_) (a' := ?_) #[T_,T_,T_,T_,T_,T_,T_,T_,T_,T_,T_,T_,T_,T_,T_,T_,T_,F_,F_,F_,F_,F_,F_,F_,F_,F_,F_,F_,F_,F_,F_] rfl rfl (zp HT_.out (by kernel_rfl)) (fun _ _ _ h => h) (Or.inl ⟨by rfl, ?_⟩) ?_ ?_
            rotate_left
            ·intro w'
             go_simp
             with_reducible rfl
            rotate_left
            ·simp only [zpa,zpb,zpc,zpd,zpe,zk,zl]
             rfl
            refine zu (i := 17) (N := some 68) (v := ?_) (a' := ?_) #[T_,T_,T_,T_,T_,T_,T_,T_,T_,T_,T_,T_,T_,T_,T_,T_,T_,T_,F_,F_,F_,F_,F_,F_,F_,F_,F_,F_,F_,F_,F_] rfl rfl (zp HT_.out (by kernel_rfl)) (fun _ _ _ h => h) (Or.inl ⟨by rfl, ?_⟩) ?_ ?_
            rotate_left
            ·intro w'
             go_simp
             with_reducible rfl
            rotate_left
            ·simp only [zpa,zpb,zpc,zpd,zpe,zk,zl]
             rfl
            refine zu (i := 18) (N := some 69) (v := ?_) (a' := ?_) #[T_,T_,T_,T_,T_,T_,T_,T_,T_,T_,T_,T_,T_,T_,T_,T_,T_,T_,T_,F_,F_,F_,F_,F_,F_,F_,F_,F_,F_,F_,F_] rfl rfl (zp HT_.out (by kernel_rfl)) (fun _ _ _ h => h) (Or.inl ⟨by rfl, ?_⟩) ?_ ?_
            rotate_left
            ·intro w'
             go_simp
             with_reducible rfl
            rotate_left
            ·simp only [zpa,zpb,zpc,zpd,zpe,zk,zl]
             rfl
            refine zu (i := 19) (N := some 70) (v := ?_) (a' := ?_) #[T_,T_,T_,T_,T_,T_,T_,T_,T_,T_,T_,T_,T_,T_,T_,T_,T_,T_,T_,T_,F_,F_,F_,F_,F_,F_,F_,F_,F_,F_,F_] rfl rfl (zp HT_.out (by kernel_rfl)) (fun _ _ _ h => h) (Or.inl ⟨by rfl, ?_⟩) ?_ ?_
            rotate_left
            ·intro w'
             go_simp
             with_reducible rfl
            rotate_left
            ·simp only [zpa,zpb,zpc,zpd,zpe,zk,zl]
             rfl
            refine zu (i := 21) (N := some 72) (v := ?_) (a' := ?_) #[T_,T_,T_,T_,T_,T_,T_,T_,T_,T_,T_,T_,T_,T_,T_,T_,T_,T_,T_,T_,F_,T_,F_,F_,F_,F_,F_,F_,F_,F_,F_] rfl rfl (zp HT_.out (by kernel_rfl)) (fun _ _ _ h => h) (Or.inl ⟨by rfl, ?_⟩) ?_ ?_
            rotate_left
            ·intro w'
             go_simp
             with_reducible rfl
            rotate_left
            ·simp only [zpa,zpb,zpc,zpd,zpe,zk,zl]
             rfl
            refine one_ (i := 20) (N := some 71) #[T_,T_,T_,T_,T_,T_,T_,T_,T_,T_,T_,T_,T_,T_,T_,T_,T_,T_,T_,T_,T_,T_,F_,F_,F_,F_,F_,F_,F_,F_,F_] rfl rfl (zxa HT_.out (by kernel_rfl)) (by decide) (fun K hK => ?_)
            refine zeb Try.func27 (by kernel_rfl) rfl #[.slice Ao7 t462.length co7, .int .i64 x6_2] (by rfl) rfl rfl (by (try simp only [zma,zmb,zmc]); first | done | rfl) ?_
            with_reducible refine (impl_ClusterAt.calls k2 _ _ t462 x6_2 t484 _ ?side1 ?side2 A32.out).mono ?_
            (case side1 => repeat (first | exact (Kd.zw HO_3.out).2.2 | (with_reducible refine Kd.zca ?_ _) | (with_reducible refine Kd.zda ?_ _) | (with_reducible refine Kd.zfa ?_)))
            (case side2 => exact (Kd.zw HO_3.out).2.1)
            rintro e w39 ⟨rfl, hb⟩
            have HS0_ := (hb.cell (World.block_lt_of_cell? _ _ (hHeld))).trans (hHeld)
            refine ⟨_, rfl, ?_⟩
            have n0_ := za.mk (Kd.zea (by (with_reducible repeat (first | apply Kd.zg | apply Kd.zh | apply Kd.zm)); exact HO_3.out) hb)
            have n1_ := za.mk (Kd.zea (by (with_reducible repeat (first | apply Kd.zg | apply Kd.zh | apply Kd.zm)); exact HO_4.out) hb)
            have n2_ := za.mk (Kd.zea (by (with_reducible repeat (first | apply Kd.zg | apply Kd.zh | apply Kd.zm)); exact HO_5.out) hb)
            have n3_ := za.mk (zv (by repeat (first | (with_reducible first | exact HB.out | apply ze | apply zb | apply zd) | exact HB.out)) hb)
            clear HO_3
            clear HO_4
            clear HO_5
            clear HB
            have HO_3 := n0_
            have HO_4 := n1_
            have HO_5 := n2_
            have HB := n3_
            clear n0_ n1_ n2_ n3_
            (try clear hb)
            (try clear hb2)
            (try clear hk)
            (try clear hi)
            refine hK.out _ _ (HS0_) (fun hHeld => ?_)
            clear hK K
            refine zra (a' := ?_) ?_ ?_
            rotate_left
            ·show Act.put _ (some 71) _ = _
             simp only [zpa,zpb,zpc,zpd,zpe,zk,zl]
             rfl
            refine zu (i := 22) (N := some 73) (v := ?_) (a' := ?_) #[T_,T_,T_,T_,T_,T_,T_,T_,T_,T_,T_,T_,T_,T_,T_,T_,T_,T_,T_,T_,T_,T_,T_,F_,F_,F_,F_,F_,F_,F_,F_] rfl rfl (zp HT_.out (by kernel_rfl)) (fun _ _ _ h => h) (Or.inl ⟨by rfl, ?_⟩) ?_ ?_
            rotate_left
            ·intro w'
             go_simp
             with_reducible rfl
            rotate_left
            ·simp only [zpa,zpb,zpc,zpd,zpe,zk,zl]
             rfl
            refine zu (i := 23) (N := some 74) (v := ?_) (a' := ?_) #[T_,T_,T_,T_,T_,T_,T_,T_,T_,T_,T_,T_,T_,T_,T_,T_,T_,T_,T_,T_,T_,T_,T_,T_,F_,F_,F_,F_,F_,F_,F_] rfl rfl (zp HT_.out (by kernel_rfl)) (fun _ _ _ h => h) (Or.inl ⟨by rfl, ?_⟩) ?_ ?_
            rotate_left
            ·intro w'
             go_simp
             with_reducible rfl
            rotate_left
            ·simp only [zpa,zpb,zpc,zpd,zpe,zk,zl]
             rfl
            refine zu (i := 24) (N := some 75) (v := undef) (a' := ?_) #[T_,T_,T_,T_,T_,T_,T_,T_,T_,T_,T_,T_,T_,T_,T_,T_,T_,T_,T_,T_,T_,T_,T_,T_,T_,F_,F_,F_,F_,F_,F_] rfl rfl (zp HT_.out (by kernel_rfl)) (fun _ _ _ h => h) (Or.inr ⟨by rfl, rfl⟩) ?_ ?_
            rotate_left
            ·simp only [zpa,zpb,zpc,zpd,zpe,zk,zl]
             rfl
            refine zu (i := 25) (N := some 76) (v := undef) (a' := ?_) #[T_,T_,T_,T_,T_,T_,T_,T_,T_,T_,T_,T_,T_,T_,T_,T_,T_,T_,T_,T_,T_,T_,T_,T_,T_,T_,F_,F_,F_,F_,F_] rfl rfl (zp HT_.out (by kernel_rfl)) (fun _ _ _ h => h) (Or.inr ⟨by rfl, rfl⟩) ?_ ?_
            rotate_left
            ·simp only [zpa,zpb,zpc,zpd,zpe,zk,zl]
             rfl
            refine zu (i := 26) (N := some 77) (v := undef) (a' := ?_) #[T_,T_,T_,T_,T_,T_,T_,T_,T_,T_,T_,T_,T_,T_,T_,T_,T_,T_,T_,T_,T_,T_,T_,T_,T_,T_,T_,F_,F_,F_,F_] rfl rfl (zp HT_.out (by kernel_rfl)) (fun _ _ _ h => h) (Or.inr ⟨by rfl, rfl⟩) ?_ ?_
            rotate_left
            ·simp only [zpa,zpb,zpc,zpd,zpe,zk,zl]
             rfl
            refine zu (i := 27) (N := some 78) (v := undef) (a' := ?_) #[T_,T_,T_,T_,T_,T_,T_,T_,T_,T_,T_,T_,T_,T_,T_,T_,T_,T_,T_,T_,T_,T_,T_,T_,T_,T_,T_,T_,F_,F_,F_] rfl rfl (zp HT_.out (by kernel_rfl)) (fun _ _ _ h => h) (Or.inr ⟨by rfl, rfl⟩) ?_ ?_
            rotate_left
            ·simp only [zpa,zpb,zpc,zpd,zpe,zk,zl]
             rfl
            refine zu (i := 28) (N := some 79) (v := undef) (a' := ?_) #[T_,T_,T_,T_,T_,T_,T_,T_,T_,T_,T_,T_,T_,T_,T_,T_,T_,T_,T_,T_,T_,T_,T_,T_,T_,T_,T_,T_,T_,F_,F_] rfl rfl (zp HT_.out (by kernel_rfl)) (fun _ _ _ h => h) (Or.inr ⟨by rfl, rfl⟩) ?_ ?_
            rotate_left
            ·simp only [zpa,zpb,zpc,zpd,zpe,zk,zl]
             rfl
            refine zu (i := 29) (N := some 80) (v := ?_) (a' := ?_) #[T_,T_,T_,T_,T_,T_,T_,T_,T_,T_,T_,T_,T_,T_,T_,T_,T_,T_,T_,T_,T_,T_,T_,T_,T_,T_,T_,T_,T_,T_,F_] rfl rfl (zp HT_.out (by kernel_rfl)) (fun _ _ _ h => h) (Or.inl ⟨by rfl, ?_⟩) ?_ ?_
            rotate_left
            ·intro w'
             go_simp
             with_reducible rfl
            rotate_left
            ·simp only [zpa,zpb,zpc,zpd,zpe,zk,zl]
             rfl
            refine zu (i := 30) (N := some 81) (v := ?_) (a' := ?_) #[T_,T_,T_,T_,T_,T_,T_,T_,T_,T_,T_,T_,T_,T_,T_,T_,T_,T_,T_,T_,T_,T_,T_,T_,T_,T_,T_,T_,T_,T_,T_] rfl rfl (zp HT_.out (by kernel_rfl)) (fun _ _ _ h => h) (Or.inl ⟨by rfl, ?_⟩) ?_ ?_
            rotate_left
            ·intro w'
             go_simp
             with_reducible rfl
            rotate_left
            ·simp only [zpa,zpb,zpc,zpd,zpe,zk,zl]
             rfl
            refine done_ (zxb HT_.out (by kernel_rfl)) ?_
            try go_wp2
            go_roundg k2
            case measure => have := HJ4.out; have := HK2.out; omega
            case rel => exact ⟨(wrap64 (x6_2 + 1)), (by first | rfl | (simp; done) | (simp [*]; done)), H', ⟨by have := HJ4.out; have := HK2.out; omega⟩, ⟨by (with_reducible repeat (first | apply Kd.zg | apply Kd.zh | apply Kd.zm)); exact HO_3.out⟩, ⟨by (with_reducible repeat (first | apply Kd.zg | apply Kd.zh | apply Kd.zm)); exact HO_4.out⟩, ⟨by (with_reducible repeat (first | apply Kd.zg | apply Kd.zh | apply Kd.zm)); exact HO_5.out⟩, ⟨by repeat (first | (with_reducible first | exact HB.out | apply ze | apply zb | apply zd) | exact HB.out)⟩⟩
           ·rw [if_neg c33] at H
            have c33b0 : (t484 == x6_2) = false := beq_eq_false_iff_ne.mpr c33
            have c33b1 : (t484 != x6_2) = true := bne_iff_ne.mpr c33
            by_cases c40 : (rd t468 x6_2) = 0
            ·rw [if_pos c40] at H
             have c40b0 : ((rd t468 x6_2) == 0) = true := beq_iff_eq.mpr c40
             have c40b1 : ((rd t468 x6_2) != 0) = false := bne_eq_false_iff_eq.mpr c40
             clear c40
             have H' := za.mk H
             clear H
             obtain ⟨Ao41, co41, eo41⟩ := Kd.zka HO_5.out
             subst eo41
             try go_wp2_with (first | ((with_reducible refine zt (f := 26) rfl ?_); refine zgo (some 48) Try.func26 #[.slice Ao8 t463.length co8, .int .i64 x6_2] rfl ?_; (with_reducible refine (impl_SpanAt.calls k2 _ _ t463 x6_2 t479 t480 _ ?side1 ?side2 A26.out).mono ?_); (case side1 => repeat (first | exact (Kd.zw HO_4.out).2.2 | (with_reducible refine Kd.zca ?_ _) | (with_reducible refine Kd.zda ?_ _) | (with_reducible refine Kd.zfa ?_))); (case side2 => exact (Kd.zw HO_4.out).2.1); rintro e w42 ⟨rfl, hb⟩; refine ⟨_, rfl, ?_⟩; have n0_ := za.mk (Kd.zea (by (with_reducible repeat (first | apply Kd.zg | apply Kd.zh | apply Kd.zm)); exact HO_3.out) hb); have n1_ := za.mk (Kd.zea (by (with_reducible repeat (first | apply Kd.zg | apply Kd.zh | apply Kd.zm)); exact HO_4.out) hb); have n2_ := za.mk (Kd.zea (by (with_reducible repeat (first | apply Kd.zg | apply Kd.zh | apply Kd.zm)); exact HO_5.out) hb); have n3_ := za.mk (zv (by repeat (first | (with_reducible first | exact HB.out | apply ze | apply zb | apply zd) | exact HB.out)) hb); clear HO_3; clear HO_4; clear HO_5; clear HB; have HO_3 := n0_; have HO_4 := n1_; have HO_5 := n2_; have HB := n3_; clear n0_ n1_ n2_ n3_; (try clear hb); (try clear hb2); (try clear hk); (try clear hi)))
             have n0_ := za.mk (Kd.zm HO_3.out)
             have n1_ := za.mk (Kd.zm HO_4.out)
             have n2_ := za.mk (Kd.zm HO_5.out)
             have n3_ := za.mk (zd HB.out)
             clear HO_3
             clear HO_4
             clear HO_5
             clear HB
             have HO_3 := n0_
             have HO_4 := n1_
             have HO_5 := n2_
             have HB := n3_
             clear n0_ n1_ n2_ n3_
             have p482 : 0 ≤ (x6_2 : Int) := of_decide_eq_true (by assumption)
             have q482 : x6_2 < (t468.length : Int) := of_decide_eq_true (by assumption)
             obtain ⟨ad482, e482, hx482_0⟩ := Kd.zta (Kd.zw HO_5.out).2.2 x6_2 p482 q482
             cases e482
             replace p482 := eq_true p482
             replace q482 := eq_true q482
             have p485 : 0 ≤ (x6_2 : Int) := of_decide_eq_true (by assumption)
             have q485 : x6_2 < (t468.length : Int) := of_decide_eq_true (by assumption)
             obtain ⟨ad485, e485, hx485_0⟩ := Kd.zta (Kd.zw HO_5.out).2.2 x6_2 p485 q485
             obtain rfl : ad482 = ad485 := (by injection e485)
             replace p485 := eq_true p485
             replace q485 := eq_true q485
             refine zcc (n := 31) (S := fun w' => w'.cell? (ad482.add (x6_2).toNat) = some (.int .i64 (rd t468 x6_2)) ∧ w'.cell? (ad482.add (x6_2).toNat) = some (.int .i64 (rd t468 x6_2))) (ds := []) #[F_,F_,F_,F_,F_,F_,F_,F_,F_,F_,F_,F_,F_,F_,F_,F_,F_,F_,F_,F_,F_,F_,F_,F_,F_,F_,F_,F_,F_,F_,F_] (by kernel_rfl) rfl rfl ⟨hx482_0, hx485_0⟩ (fun hHeld => ?_); refine zdb laws_FnWides.tab11 laws_FnWides.bits11 (fun HT_ HW_ => ?_)
             generalize w42.drew = w43 at HO_3 HO_4 HO_5 HB hx482_0 hx485_0 hHeld ⊢
             refine zu (i := 0) (N := some 51) (v := ?_) (a' := ?_) #[T_,F_,F_,F_,F_,F_,F_,F_,F_,F_,F_,F_,F_,F_,F_,F_,F_,F_,F_,F_,F_,F_,F_,F_,F_,F_,F_,F_,F_,F_,F_] rfl rfl (zp HT_.out (by kernel_rfl)) (fun _ _ _ h => h) (Or.inl ⟨by rfl, ?_⟩) ?_ ?_
             rotate_left
             ·intro w'
              go_simp
              with_reducible rfl
             rotate_left
             ·simp only [zpa,zpb,zpc,zpd,zpe,zk,zl]
              rfl
             refine zu (i := 1) (N := some 52) (v := ?_) (a' := ?_) #[T_,T_,F_,F_,F_,F_,F_,F_,F_,F_,F_,F_,F_,F_,F_,F_,F_,F_,F_,F_,F_,F_,F_,F_,F_,F_,F_,F_,F_,F_,F_] rfl rfl (zp HT_.out (by kernel_rfl)) (fun _ _ _ h => h) (Or.inl ⟨by rfl, ?_⟩) ?_ ?_
             rotate_left
             ·intro w'
              go_simp
              with_reducible rfl
             rotate_left
             ·simp only [zpa,zpb,zpc,zpd,zpe,zk,zl]
              rfl
             refine zu (i := 3) (N := some 54) (v := ?_) (a' := ?_) #[T_,T_,F_,T_,F_,F_,F_,F_,F_,F_,F_,F_,F_,F_,F_,F_,F_,F_,F_,F_,F_,F_,F_,F_,F_,F_,F_,F_,F_,F_,F_] rfl rfl (zp HT_.out (by kernel_rfl)) (fun _ _ _ h => h) (Or.inl ⟨by rfl, ?_⟩) ?_ ?_
             rotate_left
             ·intro w'
              go_simp
              with_reducible rfl
             rotate_left
             ·simp only [zpa,zpb,zpc,zpd,zpe,zk,zl]
              rfl
             refine one_ (i := 2) (N := some 53) #[T_,T_,T_,T_,F_,F_,F_,F_,F_,F_,F_,F_,F_,F_,F_,F_,F_,F_,F_,F_,F_,F_,F_,F_,F_,F_,F_,F_,F_,F_,F_] rfl rfl (zxa HT_.out (by kernel_rfl)) (by decide) (fun K hK => ?_)
             refine zeb Try.func27 (by kernel_rfl) rfl #[.slice Ao7 t462.length co7, .int .i64 x6_2] (by rfl) rfl rfl (by (try simp only [zma,zmb,zmc]); first | done | rfl) ?_
             with_reducible refine (impl_ClusterAt.calls k2 _ _ t462 x6_2 t481 _ ?side1 ?side2 A27.out).mono ?_
             (case side1 => repeat (first | exact (Kd.zw HO_3.out).2.2 | (with_reducible refine Kd.zca ?_ _) | (with_reducible refine Kd.zda ?_ _) | (with_reducible refine Kd.zfa ?_)))
             (case side2 => exact (Kd.zw HO_3.out).2.1)
             rintro e w44 ⟨rfl, hb⟩
             have HS0_ := (hb.cell (World.block_lt_of_cell? _ _ (hHeld.1))).trans (hHeld.1)
             have HS1_ := (hb.cell (World.block_lt_of_cell? _ _ (hHeld.2))).trans (hHeld.2)
             refine ⟨_, rfl, ?_⟩
             have n0_ := za.mk (Kd.zea (by (with_reducible repeat (first | apply Kd.zg | apply Kd.zh | apply Kd.zm)); exact HO_3.out) hb)
             have n1_ := za.mk (Kd.zea (by (with_reducible repeat (first | apply Kd.zg | apply Kd.zh | apply Kd.zm)); exact HO_4.out) hb)
             have n2_ := za.mk (Kd.zea (by (with_reducible repeat (first | apply Kd.zg | apply Kd.zh | apply Kd.zm)); exact HO_5.out) hb)
             have n3_ := za.mk (zv (by repeat (first | (with_reducible first | exact HB.out | apply ze | apply zb | apply zd) | exact HB.out)) hb)
             clear HO_3
             clear HO_4
             clear HO_5
             clear HB
             have HO_3 := n0_
             have HO_4 := n1_
             have HO_5 := n2_
             have HB := n3_
             clear n0_ n1_ n2_ n3_
             (try clear hb)
             (try clear hb2)
             (try clear hk)
             (try clear hi)
             refine hK.out _ _ ⟨HS0_, HS1_⟩ (fun hHeld => ?_)
             clear hK K
             refine zra (a' := ?_) ?_ ?_
             rotate_left
             ·show Act.put _ (some 53) _ = _
              simp only [zpa,zpb,zpc,zpd,zpe,zk,zl]
              rfl
             refine zu (i := 4) (N := some 55) (v := ?_) (a' := ?_) #[T_,T_,T_,T_,T_,F_,F_,F_,F_,F_,F_,F_,F_,F_,F_,F_,F_,F_,F_,F_,F_,F_,F_,F_,F_,F_,F_,F_,F_,F_,F_] rfl rfl (zp HT_.out (by kernel_rfl)) (fun _ _ _ h => h) (Or.inl ⟨by rfl, ?_⟩) ?_ ?_
             rotate_left
             ·intro w'
              go_simp
              with_reducible rfl
             rotate_left
             ·simp only [zpa,zpb,zpc,zpd,zpe,zk,zl]
              rfl
             refine zu (i := 5) (N := some 56) (v := ?_) (a' := ?_) #[T_,T_,T_,T_,T_,T_,F_,F_,F_,F_,F_,F_,F_,F_,F_,F_,F_,F_,F_,F_,F_,F_,F_,F_,F_,F_,F_,F_,F_,F_,F_] rfl rfl (zp HT_.out (by kernel_rfl)) (fun _ _ _ h => h) (Or.inl ⟨by rfl, ?_⟩) ?_ ?_
             rotate_left
             ·intro w'
              go_simp
              with_reducible rfl
             rotate_left
             ·simp only [zpa,zpb,zpc,zpd,zpe,zk,zl]
              rfl
             refine zu (i := 6) (N := some 57) (v := ?_) (a' := ?_) #[T_,T_,T_,T_,T_,T_,T_,F_,F_,F_,F_,F_,F_,F_,F_,F_,F_,F_,F_,F_,F_,F_,F_,F_,F_,F_,F_,F_,F_,F_,F_] rfl rfl (zp HT_.out (by kernel_rfl)) (fun _ _ _ h => h) (Or.inl ⟨by rfl, ?_⟩) ?_ ?_
             rotate_left
             ·intro w'
              go_simp
              with_reducible rfl
             rotate_left
             ·simp only [zpa,zpb,zpc,zpd,zpe,zk,zl]
              rfl
             refine zu (i := 7) (N := some 58) (v := ?_) (a' := ?_) #[T_,T_,T_,T_,T_,T_,T_,T_,F_,F_,F_,F_,F_,F_,F_,F_,F_,F_,F_,F_,F_,F_,F_,F_,F_,F_,F_,F_,F_,F_,F_] rfl rfl (zp HT_.out (by kernel_rfl)) (fun _ _ _ h => h) (Or.inl ⟨by rfl, ?_⟩) ?_ ?_
             rotate_left
             ·intro w'
              go_simp
              with_reducible rfl
             rotate_left
             ·simp only [zpa,zpb,zpc,zpd,zpe,zk,zl]
              rfl
             refine zu (i := 8) (N := some 59) (v := ?_) (a' := ?_) #[T_,T_,T_,T_,T_,T_,T_,T_,T_,F_,F_,F_,F_,F_,F_,F_,F_,F_,F_,F_,F_,F_,F_,F_,F_,F_,F_,F_,F_,F_,F_] rfl rfl (zp HT_.out (by kernel_rfl)) (fun _ _ _ h => h) (Or.inl ⟨by rfl, ?_⟩) ?_ ?_
             rotate_left
             ·intro w'
              go_simp
              with_reducible rfl
             rotate_left
             ·simp only [zpa,zpb,zpc,zpd,zpe,zk,zl]
              rfl
             refine zu (i := 10) (N := some 61) (v := ?_) (a' := ?_) #[T_,T_,T_,T_,T_,T_,T_,T_,T_,F_,T_,F_,F_,F_,F_,F_,F_,F_,F_,F_,F_,F_,F_,F_,F_,F_,F_,F_,F_,F_,F_] rfl rfl (zp HT_.out (by kernel_rfl)) (fun _ _ _ h => h) (Or.inl ⟨by rfl, ?_⟩) ?_ ?_
             rotate_left
             ·intro w'
              go_simp
              with_reducible rfl
             rotate_left
             ·simp only [zpa,zpb,zpc,zpd,zpe,zk,zl]
              rfl
             refine zu (i := 11) (N := some 62) (v := ?_) (a' := ?_) #[T_,T_,T_,T_,T_,T_,T_,T_,T_,F_,T_,T_,F_,F_,F_,F_,F_,F_,F_,F_,F_,F_,F_,F_,F_,F_,F_,F_,F_,F_,F_] rfl rfl (zp HT_.out (by kernel_rfl)) (fun _ _ _ h => h) (Or.inl ⟨by rfl, ?_⟩) ?_ ?_
             rotate_left
             ·intro w'
              go_simp
              with_reducible rfl
             rotate_left
             ·simp only [zpa,zpb,zpc,zpd,zpe,zk,zl]
              rfl
             refine zu (i := 13) (N := some 64) (v := ?_) (a' := ?_) #[T_,T_,T_,T_,T_,T_,T_,T_,T_,F_,T_,T_,F_,T_,F_,F_,F_,F_,F_,F_,F_,F_,F_,F_,F_,F_,F_,F_,F_,F_,F_] rfl rfl (zp HT_.out (by kernel_rfl)) (fun _ _ _ h => h) (Or.inl ⟨by rfl, ?_⟩) ?_ ?_
             rotate_left
             ·intro w'
              go_simp
              with_reducible rfl
             rotate_left
             ·simp only [zpa,zpb,zpc,zpd,zpe,zk,zl]
              rfl
             refine zrb (i := 9) (N := some 60) (v := ?_) (a' := ?_) #[T_,T_,T_,T_,T_,T_,T_,T_,T_,T_,T_,T_,F_,T_,F_,F_,F_,F_,F_,F_,F_,F_,F_,F_,F_,F_,F_,F_,F_,F_,F_] rfl rfl (zwa HT_.out HW_.out (by kernel_rfl)) (fun _ _ _ h => h) (Or.inl ⟨by rfl, ?_⟩) hHeld ?_ ?_
             rotate_left
             ·rintro w' ⟨s0, s1⟩
              go_simp
              with_reducible rfl
             rotate_left
             ·simp only [zpa,zpb,zpc,zpd,zpe,zk,zl]
              rfl
             refine one_ (i := 12) (N := some 63) #[T_,T_,T_,T_,T_,T_,T_,T_,T_,T_,T_,T_,T_,T_,F_,F_,F_,F_,F_,F_,F_,F_,F_,F_,F_,F_,F_,F_,F_,F_,F_] rfl rfl (zxa HT_.out (by kernel_rfl)) (by decide) (fun K hK => ?_)
             refine zeb Try.func28 (by kernel_rfl) rfl #[.slice Ao7 t462.length co7, .int .i64 x6_2] (by rfl) rfl rfl (by (try simp only [zma,zmb,zmc]); first | done | rfl) ?_
             with_reducible refine (impl_ClusterWide.calls k2 _ _ t462 x6_2 t483 _ ?side1 ?side2 A30.out).mono ?_
             (case side1 => repeat (first | exact (Kd.zw HO_3.out).2.2 | (with_reducible refine Kd.zca ?_ _) | (with_reducible refine Kd.zda ?_ _) | (with_reducible refine Kd.zfa ?_)))
             (case side2 => exact (Kd.zw HO_3.out).2.1)
             rintro e w45 ⟨rfl, hb⟩
             have HS0_ := (hb.cell (World.block_lt_of_cell? _ _ (hHeld.1))).trans (hHeld.1)
             have HS1_ := (hb.cell (World.block_lt_of_cell? _ _ (hHeld.2))).trans (hHeld.2)
             refine ⟨_, rfl, ?_⟩
             have n0_ := za.mk (Kd.zea (by (with_reducible repeat (first | apply Kd.zg | apply Kd.zh | apply Kd.zm)); exact HO_3.out) hb)
             have n1_ := za.mk (Kd.zea (by (with_reducible repeat (first | apply Kd.zg | apply Kd.zh | apply Kd.zm)); exact HO_4.out) hb)
             have n2_ := za.mk (Kd.zea (by (with_reducible repeat (first | apply Kd.zg | apply Kd.zh | apply Kd.zm)); exact HO_5.out) hb)
             have n3_ := za.mk (zv (by repeat (first | (with_reducible first | exact HB.out | apply ze | apply zb | apply zd) | exact HB.out)) hb)
             clear HO_3
             clear HO_4
             clear HO_5
             clear HB
             have HO_3 := n0_
             have HO_4 := n1_
             have HO_5 := n2_
             have HB := n3_
             clear n0_ n1_ n2_ n3_
             (try clear hb)
             (try clear hb2)
             (try clear hk)
             (try clear hi)
             refine hK.out _ _ ⟨HS0_, HS1_⟩ (fun hHeld => ?_)
             clear hK K
             refine zra (a' := ?_) ?_ ?_
             rotate_left
             ·show Act.put _ (some 63) _ = _
              simp only [zpa,zpb,zpc,zpd,zpe,zk,zl]
              rfl
             refine zu (i := 14) (N := some 65) (v := ?_) (a' := ?_) #[T_,T_,T_,T_,T_,T_,T_,T_,T_,T_,T_,T_,T_,T_,T_,F_,F_,F_,F_,F_,F_,F_,F_,F_,F_,F_,F_,F_,F_,F_,F_] rfl rfl (zp HT_.out (by kernel_rfl)) (fun _ _ _ h => h) (Or.inl ⟨by rfl, ?_⟩) ?_ ?_
             rotate_left
             ·intro w'
              go_simp
              with_reducible rfl
             rotate_left
             ·simp only [zpa,zpb,zpc,zpd,zpe,zk,zl]
              rfl
             refine zu (i := 15) (N := some 66) (v := ?_) (a' := ?_) #[T_,T_,T_,T_,T_,T_,T_,T_,T_,T_,T_,T_,T_,T_,T_,T_,F_,F_,F_,F_,F_,F_,F_,F_,F_,F_,F_,F_,F_,F_,F_] rfl rfl (zp HT_.out (by kernel_rfl)) (fun _ _ _ h => h) (Or.inl ⟨by rfl, ?_⟩) ?_ ?_
             rotate_left
             ·intro w'
              go_simp
              with_reducible rfl
             rotate_left
             ·simp only [zpa,zpb,zpc,zpd,zpe,zk,zl]
              rfl
             refine zu (i := 16) (N := some 67) (v := ?_) (a' := ?_) #[T_,T_,T_,T_,T_,T_,T_,T_,T_,T_,T_,T_,T_,T_,T_,T_,T_,F_,F_,F_,F_,F_,F_,F_,F_,F_,F_,F_,F_,F_,F_] rfl rfl (zp HT_.out (by kernel_rfl)) (fun _ _ _ h => h) (Or.inl ⟨by rfl, ?_⟩) ?_ ?_
             rotate_left
             ·intro w'
              go_simp
              with_reducible rfl
             rotate_left
             ·simp only [zpa,zpb,zpc,zpd,zpe,zk,zl]
              rfl
             refine zu (i := 17) (N := some 68) (v := ?_) (a' := ?_) #[T_,T_,T_,T_,T_,T_,T_,T_,T_,T_,T_,T_,T_,T_,T_,T_,T_,T_,F_,F_,F_,F_,F_,F_,F_,F_,F_,F_,F_,F_,F_] rfl rfl (zp HT_.out (by kernel_rfl)) (fun _ _ _ h => h) (Or.inl ⟨by rfl, ?_⟩) ?_ ?_
             rotate_left
             ·intro w'
              go_simp
              with_reducible rfl
             rotate_left
             ·simp only [zpa,zpb,zpc,zpd,zpe,zk,zl]
              rfl
             refine zu (i := 18) (N := some 69) (v := ?_) (a' := ?_) #[T_,T_,T_,T_,T_,T_,T_,T_,T_,T_,T_,T_,T_,T_,T_,T_,T_,T_,T_,F_,F_,F_,F_,F_,F_,F_,F_,F_,F_,F_,F_] rfl rfl (zp HT_.out (by kernel_rfl)) (fun _ _ _ h => h) (Or.inl ⟨by rfl, ?_⟩) ?_ ?_
             rotate_left
             ·intro w'
              go_simp
              with_reducible rfl
             rotate_left
             ·simp only [zpa,zpb,zpc,zpd,zpe,zk,zl]
              rfl
             refine zu (i := 19) (N := some 70) (v := ?_) (a' := ?_) #[T_,T_,T_,T_,T_,T_,T_,T_,T_,T_,T_,T_,T_,T_,T_,T_,T_,T_,T_,T_,F_,F_,F_,F_,F_,F_,F_,F_,F_,F_,F_] rfl rfl (zp HT_.out (by kernel_rfl)) (fun _ _ _ h => h) (Or.inl ⟨by rfl, ?_⟩) ?_ ?_
             rotate_left
             ·intro w'
              go_simp
              with_reducible rfl
             rotate_left
             ·simp only [zpa,zpb,zpc,zpd,zpe,zk,zl]
              rfl
             refine zu (i := 21) (N := some 72) (v := ?_) (a' := ?_) #[T_,T_,T_,T_,T_,T_,T_,T_,T_,T_,T_,T_,T_,T_,T_,T_,T_,T_,T_,T_,F_,T_,F_,F_,F_,F_,F_,F_,F_,F_,F_] rfl rfl (zp HT_.out (by kernel_rfl)) (fun _ _ _ h => h) (Or.inl ⟨by rfl, ?_⟩) ?_ ?_
             rotate_left
             ·intro w'
              go_simp
              with_reducible rfl
             rotate_left
             ·simp only [zpa,zpb,zpc,zpd,zpe,zk,zl]
              rfl
             refine one_ (i := 20) (N := some 71) #[T_,T_,T_,T_,T_,T_,T_,T_,T_,T_,T_,T_,T_,T_,T_,T_,T_,T_,T_,T_,T_,T_,F_,F_,F_,F_,F_,F_,F_,F_,F_] rfl rfl (zxa HT_.out (by kernel_rfl)) (by decide) (fun K hK => ?_)
             refine zeb Try.func27 (by kernel_rfl) rfl #[.slice Ao7 t462.length co7, .int .i64 x6_2] (by rfl) rfl rfl (by (try simp only [zma,zmb,zmc]); first | done | rfl) ?_
             with_reducible refine (impl_ClusterAt.calls k2 _ _ t462 x6_2 t484 _ ?side1 ?side2 A32.out).mono ?_
             (case side1 => repeat (first | exact (Kd.zw HO_3.out).2.2 | (with_reducible refine Kd.zca ?_ _) | (with_reducible refine Kd.zda ?_ _) | (with_reducible refine Kd.zfa ?_)))
             (case side2 => exact (Kd.zw HO_3.out).2.1)
             rintro e w46 ⟨rfl, hb⟩
             have HS0_ := (hb.cell (World.block_lt_of_cell? _ _ (hHeld.1))).trans (hHeld.1)
             have HS1_ := (hb.cell (World.block_lt_of_cell? _ _ (hHeld.2))).trans (hHeld.2)
             refine ⟨_, rfl, ?_⟩
             have n0_ := za.mk (Kd.zea (by (with_reducible repeat (first | apply Kd.zg | apply Kd.zh | apply Kd.zm)); exact HO_3.out) hb)
             have n1_ := za.mk (Kd.zea (by (with_reducible repeat (first | apply Kd.zg | apply Kd.zh | apply Kd.zm)); exact HO_4.out) hb)
             have n2_ := za.mk (Kd.zea (by (with_reducible repeat (first | apply Kd.zg | apply Kd.zh | apply Kd.zm)); exact HO_5.out) hb)
             have n3_ := za.mk (zv (by repeat (first | (with_reducible first | exact HB.out | apply ze | apply zb | apply zd) | exact HB.out)) hb)
             clear HO_3
             clear HO_4
             clear HO_5
             clear HB
             have HO_3 := n0_
             have HO_4 := n1_
             have HO_5 := n2_
             have HB := n3_
             clear n0_ n1_ n2_ n3_
             (try clear hb)
             (try clear hb2)
             (try clear hk)
             (try clear hi)
             refine hK.out _ _ ⟨HS0_, HS1_⟩ (fun hHeld => ?_)
             clear hK K
             refine zra (a' := ?_) ?_ ?_
             rotate_left
             ·show Act.put _ (some 71) _ = _
              simp only [zpa,zpb,zpc,zpd,zpe,zk,zl]
              rfl
             refine zu (i := 22) (N := some 73) (v := ?_) (a' := ?_) #[T_,T_,T_,T_,T_,T_,T_,T_,T_,T_,T_,T_,T_,T_,T_,T_,T_,T_,T_,T_,T_,T_,T_,F_,F_,F_,F_,F_,F_,F_,F_] rfl rfl (zp HT_.out (by kernel_rfl)) (fun _ _ _ h => h) (Or.inl ⟨by rfl, ?_⟩) ?_ ?_
             rotate_left
             ·intro w'
              go_simp
              with_reducible rfl
             rotate_left
             ·simp only [zpa,zpb,zpc,zpd,zpe,zk,zl]
              rfl
             refine zu (i := 23) (N := some 74) (v := ?_) (a' := ?_) #[T_,T_,T_,T_,T_,T_,T_,T_,T_,T_,T_,T_,T_,T_,T_,T_,T_,T_,T_,T_,T_,T_,T_,T_,F_,F_,F_,F_,F_,F_,F_] rfl rfl (zp HT_.out (by kernel_rfl)) (fun _ _ _ h => h) (Or.inl ⟨by rfl, ?_⟩) ?_ ?_
             rotate_left
             ·intro w'
              go_simp
              with_reducible rfl
             rotate_left
             ·simp only [zpa,zpb,zpc,zpd,zpe,zk,zl]
              rfl
             refine zu (i := 24) (N := some 75) (v := ?_) (a' := ?_) #[T_,T_,T_,T_,T_,T_,T_,T_,T_,T_,T_,T_,T_,T_,T_,T_,T_,T_,T_,T_,T_,T_,T_,T_,T_,F_,F_,F_,F_,F_,F_] rfl rfl (zp HT_.out (by kernel_rfl)) (fun _ _ _ h => h) (Or.inl ⟨by rfl, ?_⟩) ?_ ?_
             rotate_left
             ·intro w'
              go_simp
              with_reducible rfl
             rotate_left
             ·simp only [zpa,zpb,zpc,zpd,zpe,zk,zl]
              rfl
             refine zu (i := 25) (N := some 76) (v := ?_) (a' := ?_) #[T_,T_,T_,T_,T_,T_,T_,T_,T_,T_,T_,T_,T_,T_,T_,T_,T_,T_,T_,T_,T_,T_,T_,T_,T_,T_,F_,F_,F_,F_,F_] rfl rfl (zp HT_.out (by kernel_rfl)) (fun _ _ _ h => h) (Or.inl ⟨by rfl, ?_⟩) ?_ ?_
             rotate_left
             ·intro w'
              go_simp
              with_reducible rfl
             rotate_left
             ·simp only [zpa,zpb,zpc,zpd,zpe,zk,zl]
              rfl
             refine zu (i := 26) (N := some 77) (v := ?_) (a' := ?_) #[T_,T_,T_,T_,T_,T_,T_,T_,T_,T_,T_,T_,T_,T_,T_,T_,T_,T_,T_,T_,T_,T_,T_,T_,T_,T_,T_,F_,F_,F_,F_] rfl rfl (zp HT_.out (by kernel_rfl)) (fun _ _ _ h => h) (Or.inl ⟨by rfl, ?_⟩) ?_ ?_
             rotate_left
             ·intro w'
              go_simp
              with_reducible rfl
             rotate_left
             ·simp only [zpa,zpb,zpc,zpd,zpe,zk,zl]
              rfl
             refine zrb (i := 27) (N := some 78) (v := ?_) (a' := ?_) #[T_,T_,T_,T_,T_,T_,T_,T_,T_,T_,T_,T_,T_,T_,T_,T_,T_,T_,T_,T_,T_,T_,T_,T_,T_,T_,T_,T_,F_,F_,F_] rfl rfl (zwa HT_.out HW_.out (by kernel_rfl)) (fun _ _ _ h => h) (Or.inl ⟨by rfl, ?_⟩) hHeld ?_ ?_
             rotate_left
             ·rintro w' ⟨s0, s1⟩
              go_simp
              with_reducible rfl
             rotate_left
             ·simp only [zpa,zpb,zpc,zpd,zpe,zk,zl]
              rfl
             refine zu (i := 28) (N := some 79) (v := ?_) (a' := ?_) #[T_,T_,T_,T_,T_,T_,T_,T_,T_,T_,T_,T_,T_,T_,T_,T_,T_,T_,T_,T_,T_,T_,T_,T_,T_,T_,T_,T_,T_,F_,F_] rfl rfl (zp HT_.out (by kernel_rfl)) (fun _ _ _ h => h) (Or.inl ⟨by rfl, ?_⟩) ?_ ?_
             rotate_left
             ·intro w'
              go_simp
              with_reducible rfl
             rotate_left
             ·simp only [zpa,zpb,zpc,zpd,zpe,zk,zl]
              rfl
             refine zu (i := 29) (N := some 80) (v := ?_) (a' := ?_) #[T_,T_,T_,T_,T_,T_,T_,T_,T_,T_,T_,T_,T_,T_,T_,T_,T_,T_,T_,T_,T_,T_,T_,T_,T_,T_,T_,T_,T_,T_,F_] rfl rfl (zp HT_.out (by kernel_rfl)) (fun _ _ _ h => h) (Or.inl ⟨by rfl, ?_⟩) ?_ ?_
             rotate_left
             ·intro w'
              go_simp
              with_reducible rfl
             rotate_left
             ·simp only [zpa,zpb,zpc,zpd,zpe,zk,zl]
              rfl
             refine zu (i := 30) (N := some 81) (v := ?_) (a' := ?_) #[T_,T_,T_,T_,T_,T_,T_,T_,T_,T_,T_,T_,T_,T_,T_,T_,T_,T_,T_,T_,T_,T_,T_,T_,T_,T_,T_,T_,T_,T_,T_] rfl rfl (zp HT_.out (by kernel_rfl)) (fun _ _ _ h => h) (Or.inl ⟨by rfl, ?_⟩) ?_ ?_
             rotate_left
             ·intro w'
              go_simp
              with_reducible rfl
             rotate_left
             ·simp only [zpa,zpb,zpc,zpd,zpe,zk,zl]
              rfl
             refine done_ (zxb HT_.out (by kernel_rfl)) ?_
             try go_wp2
             go_roundg k2
             case measure => have := HJ4.out; have := HK2.out; omega
             case rel => exact ⟨(wrap64 (x6_2 + 1)), (by first | rfl | (simp; done) | (simp [*]; done)), H', ⟨by have := HJ4.out; have := HK2.out; omega⟩, ⟨by (with_reducible repeat (first | apply Kd.zg | apply Kd.zh | apply Kd.zm)); exact HO_3.out⟩, ⟨by (with_reducible repeat (first | apply Kd.zg | apply Kd.zh | apply Kd.zm)); exact HO_4.out⟩, ⟨by (with_reducible repeat (first | apply Kd.zg | apply Kd.zh | apply Kd.zm)); exact HO_5.out⟩, ⟨by repeat (first | (with_reducible first | exact HB.out | apply ze | apply zb | apply zd) | exact HB.out)⟩⟩
            ·rw [if_neg c40] at H
             have c40b0 : ((rd t468 x6_2) == 0) = false := beq_eq_false_iff_ne.mpr c40
             have c40b1 : ((rd t468 x6_2) != 0) = true := bne_iff_ne.mpr c40
             obtain rfl := Option.some.inj H
             obtain ⟨Ao47, co47, eo47⟩ := Kd.zka HO_5.out
             subst eo47
             try go_wp2_with (first | ((with_reducible refine zt (f := 26) rfl ?_); refine zgo (some 48) Try.func26 #[.slice Ao8 t463.length co8, .int .i64 x6_2] rfl ?_; (with_reducible refine (impl_SpanAt.calls k2 _ _ t463 x6_2 t479 t480 _ ?side1 ?side2 A26.out).mono ?_); (case side1 => repeat (first | exact (Kd.zw HO_4.out).2.2 | (with_reducible refine Kd.zca ?_ _) | (with_reducible refine Kd.zda ?_ _) | (with_reducible refine Kd.zfa ?_))); (case side2 => exact (Kd.zw HO_4.out).2.1); rintro e w48 ⟨rfl, hb⟩; refine ⟨_, rfl, ?_⟩; have n0_ := za.mk (Kd.zea (by (with_reducible repeat (first | apply Kd.zg | apply Kd.zh | apply Kd.zm)); exact HO_3.out) hb); have n1_ := za.mk (Kd.zea (by (with_reducible repeat (first | apply Kd.zg | apply Kd.zh | apply Kd.zm)); exact HO_4.out) hb); have n2_ := za.mk (Kd.zea (by (with_reducible repeat (first | apply Kd.zg | apply Kd.zh | apply Kd.zm)); exact HO_5.out) hb); have n3_ := za.mk (zv (by repeat (first | (with_reducible first | exact HB.out | apply ze | apply zb | apply zd) | exact HB.out)) hb); clear HO_3; clear HO_4; clear HO_5; clear HB; have HO_3 := n0_; have HO_4 := n1_; have HO_5 := n2_; have HB := n3_; clear n0_ n1_ n2_ n3_; (try clear hb); (try clear hb2); (try clear hk); (try clear hi)))
             have n0_ := za.mk (Kd.zm HO_3.out)
             have n1_ := za.mk (Kd.zm HO_4.out)
             have n2_ := za.mk (Kd.zm HO_5.out)
             have n3_ := za.mk (zd HB.out)
             clear HO_3
             clear HO_4
             clear HO_5
             clear HB
             have HO_3 := n0_
             have HO_4 := n1_
             have HO_5 := n2_
             have HB := n3_
             clear n0_ n1_ n2_ n3_
             have p482 : 0 ≤ (x6_2 : Int) := of_decide_eq_true (by assumption)
             have q482 : x6_2 < (t468.length : Int) := of_decide_eq_true (by assumption)
             obtain ⟨ad482, e482, hx482_0⟩ := Kd.zta (Kd.zw HO_5.out).2.2 x6_2 p482 q482
             cases e482
             replace p482 := eq_true p482
             replace q482 := eq_true q482
             have p485 : 0 ≤ (x6_2 : Int) := of_decide_eq_true (by assumption)
             have q485 : x6_2 < (t468.length : Int) := of_decide_eq_true (by assumption)
             obtain ⟨ad485, e485, hx485_0⟩ := Kd.zta (Kd.zw HO_5.out).2.2 x6_2 p485 q485
             obtain rfl : ad482 = ad485 := (by injection e485)
             replace p485 := eq_true p485
             replace q485 := eq_true q485
             refine zcc (n := 31) (S := fun w' => w'.cell? (ad482.add (x6_2).toNat) = some (.int .i64 (rd t468 x6_2)) ∧ w'.cell? (ad482.add (x6_2).toNat) = some (.int .i64 (rd t468 x6_2))) (ds := []) #[F_,F_,F_,F_,F_,F_,F_,F_,F_,F_,F_,F_,F_,F_,F_,F_,F_,F_,F_,F_,F_,F_,F_,F_,F_,F_,F_,F_,F_,F_,F_] (by kernel_rfl) rfl rfl ⟨hx482_0, hx485_0⟩ (fun hHeld => ?_); refine zdb laws_FnWides.tab11 laws_FnWides.bits11 (fun HT_ HW_ => ?_)
             generalize w48.drew = w49 at HO_3 HO_4 HO_5 HB hx482_0 hx485_0 hHeld ⊢
             refine zu (i := 0) (N := some 51) (v := ?_) (a' := ?_) #[T_,F_,F_,F_,F_,F_,F_,F_,F_,F_,F_,F_,F_,F_,F_,F_,F_,F_,F_,F_,F_,F_,F_,F_,F_,F_,F_,F_,F_,F_,F_] rfl rfl (zp HT_.out (by kernel_rfl)) (fun _ _ _ h => h) (Or.inl ⟨by rfl, ?_⟩) ?_ ?_
             rotate_left
             ·intro w'
              go_simp
              with_reducible rfl
             rotate_left
             ·simp only [zpa,zpb,zpc,zpd,zpe,zk,zl]
              rfl
             refine zu (i := 1) (N := some 52) (v := ?_) (a' := ?_) #[T_,T_,F_,F_,F_,F_,F_,F_,F_,F_,F_,F_,F_,F_,F_,F_,F_,F_,F_,F_,F_,F_,F_,F_,F_,F_,F_,F_,F_,F_,F_] rfl rfl (zp HT_.out (by kernel_rfl)) (fun _ _ _ h => h) (Or.inl ⟨by rfl, ?_⟩) ?_ ?_
             rotate_left
             ·intro w'
              go_simp
              with_reducible rfl
             rotate_left
             ·simp only [zpa,zpb,zpc,zpd,zpe,zk,zl]
              rfl
             refine zu (i := 3) (N := some 54) (v := ?_) (a' := ?_) #[T_,T_,F_,T_,F_,F_,F_,F_,F_,F_,F_,F_,F_,F_,F_,F_,F_,F_,F_,F_,F_,F_,F_,F_,F_,F_,F_,F_,F_,F_,F_] rfl rfl (zp HT_.out (by kernel_rfl)) (fun _ _ _ h => h) (Or.inl ⟨by rfl, ?_⟩) ?_ ?_
             rotate_left
             ·intro w'
              go_simp
              with_reducible rfl
             rotate_left
             ·simp only [zpa,zpb,zpc,zpd,zpe,zk,zl]
              rfl
             refine one_ (i := 2) (N := some 53) #[T_,T_,T_,T_,F_,F_,F_,F_,F_,F_,F_,F_,F_,F_,F_,F_,F_,F_,F_,F_,F_,F_,F_,F_,F_,F_,F_,F_,F_,F_,F_] rfl rfl (zxa HT_.out (by kernel_rfl)) (by decide) (fun K hK => ?_)
             refine zeb Try.func27 (by kernel_rfl) rfl #[.slice Ao7 t462.length co7, .int .i64 x6_2] (by rfl) rfl rfl (by (try simp only [zma,zmb,zmc]); first | done | rfl) ?_
             with_reducible refine (impl_ClusterAt.calls k2 _ _ t462 x6_2 t481 _ ?side1 ?side2 A27.out).mono ?_
             (case side1 => repeat (first | exact (Kd.zw HO_3.out).2.2 | (with_reducible refine Kd.zca ?_ _) | (with_reducible refine Kd.zda ?_ _) | (with_reducible refine Kd.zfa ?_)))
             (case side2 => exact (Kd.zw HO_3.out).2.1)
             rintro e w50 ⟨rfl, hb⟩
             have HS0_ := (hb.cell (World.block_lt_of_cell? _ _ (hHeld.1))).trans (hHeld.1)
             have HS1_ := (hb.cell (World.block_lt_of_cell? _ _ (hHeld.2))).trans (hHeld.2)
             refine ⟨_, rfl, ?_⟩
             have n0_ := za.mk (Kd.zea (by (with_reducible repeat (first | apply Kd.zg | apply Kd.zh | apply Kd.zm)); exact HO_3.out) hb)
             have n1_ := za.mk (Kd.zea (by (with_reducible repeat (first | apply Kd.zg | apply Kd.zh | apply Kd.zm)); exact HO_4.out) hb)
             have n2_ := za.mk (Kd.zea (by (with_reducible repeat (first | apply Kd.zg | apply Kd.zh | apply Kd.zm)); exact HO_5.out) hb)
             have n3_ := za.mk (zv (by repeat (first | (with_reducible first | exact HB.out | apply ze | apply zb | apply zd) | exact HB.out)) hb)
             clear HO_3
             clear HO_4
             clear HO_5
             clear HB
             have HO_3 := n0_
             have HO_4 := n1_
             have HO_5 := n2_
             have HB := n3_
             clear n0_ n1_ n2_ n3_
             (try clear hb)
             (try clear hb2)
             (try clear hk)
             (try clear hi)
             refine hK.out _ _ ⟨HS0_, HS1_⟩ (fun hHeld => ?_)
             clear hK K
             refine zra (a' := ?_) ?_ ?_
             rotate_left
             ·show Act.put _ (some 53) _ = _
              simp only [zpa,zpb,zpc,zpd,zpe,zk,zl]
              rfl
             refine zu (i := 4) (N := some 55) (v := ?_) (a' := ?_) #[T_,T_,T_,T_,T_,F_,F_,F_,F_,F_,F_,F_,F_,F_,F_,F_,F_,F_,F_,F_,F_,F_,F_,F_,F_,F_,F_,F_,F_,F_,F_] rfl rfl (zp HT_.out (by kernel_rfl)) (fun _ _ _ h => h) (Or.inl ⟨by rfl, ?_⟩) ?_ ?_
             rotate_left
             ·intro w'
              go_simp
              with_reducible rfl
             rotate_left
             ·simp only [zpa,zpb,zpc,zpd,zpe,zk,zl]
              rfl
             refine zu (i := 5) (N := some 56) (v := ?_) (a' := ?_) #[T_,T_,T_,T_,T_,T_,F_,F_,F_,F_,F_,F_,F_,F_,F_,F_,F_,F_,F_,F_,F_,F_,F_,F_,F_,F_,F_,F_,F_,F_,F_] rfl rfl (zp HT_.out (by kernel_rfl)) (fun _ _ _ h => h) (Or.inl ⟨by rfl, ?_⟩) ?_ ?_
             rotate_left
             ·intro w'
              go_simp
              with_reducible rfl
             rotate_left
             ·simp only [zpa,zpb,zpc,zpd,zpe,zk,zl]
              rfl
             refine zu (i := 6) (N := some 57) (v := ?_) (a' := ?_) #[T_,T_,T_,T_,T_,T_,T_,F_,F_,F_,F_,F_,F_,F_,F_,F_,F_,F_,F_,F_,F_,F_,F_,F_,F_,F_,F_,F_,F_,F_,F_] rfl rfl (zp HT_.out (by kernel_rfl)) (fun _ _ _ h => h) (Or.inl ⟨by rfl, ?_⟩) ?_ ?_
             rotate_left
             ·intro w'
              go_simp
              with_reducible rfl
             rotate_left
             ·simp only [zpa,zpb,zpc,zpd,zpe,zk,zl]
              rfl
             refine zu (i := 7) (N := some 58) (v := ?_) (a' := ?_) #[T_,T_,T_,T_,T_,T_,T_,T_,F_,F_,F_,F_,F_,F_,F_,F_,F_,F_,F_,F_,F_,F_,F_,F_,F_,F_,F_,F_,F_,F_,F_] rfl rfl (zp HT_.out (by kernel_rfl)) (fun _ _ _ h => h) (Or.inl ⟨by rfl, ?_⟩) ?_ ?_
             rotate_left
             ·intro w'
              go_simp
              with_reducible rfl
             rotate_left
             ·simp only [zpa,zpb,zpc,zpd,zpe,zk,zl]
              rfl
             refine zu (i := 8) (N := some 59) (v := ?_) (a' := ?_) #[T_,T_,T_,T_,T_,T_,T_,T_,T_,F_,F_,F_,F_,F_,F_,F_,F_,F_,F_,F_,F_,F_,F_,F_,F_,F_,F_,F_,F_,F_,F_] rfl rfl (zp HT_.out (by kernel_rfl)) (fun _ _ _ h => h) (Or.inl ⟨by rfl, ?_⟩) ?_ ?_
             rotate_left
             ·intro w'
              go_simp
              with_reducible rfl
             rotate_left
             ·simp only [zpa,zpb,zpc,zpd,zpe,zk,zl]
              rfl
             refine zu (i := 10) (N := some 61) (v := ?_) (a' := ?_) #[T_,T_,T_,T_,T_,T_,T_,T_,T_,F_,T_,F_,F_,F_,F_,F_,F_,F_,F_,F_,F_,F_,F_,F_,F_,F_,F_,F_,F_,F_,F_] rfl rfl (zp HT_.out (by kernel_rfl)) (fun _ _ _ h => h) (Or.inl ⟨by rfl, ?_⟩) ?_ ?_
             rotate_left
             ·intro w'
              go_simp
              with_reducible rfl
             rotate_left
             ·simp only [zpa,zpb,zpc,zpd,zpe,zk,zl]
              rfl
             refine zu (i := 11) (N := some 62) (v := ?_) (a' := ?_) #[T_,T_,T_,T_,T_,T_,T_,T_,T_,F_,T_,T_,F_,F_,F_,F_,F_,F_,F_,F_,F_,F_,F_,F_,F_,F_,F_,F_,F_,F_,F_] rfl rfl (zp HT_.out (by kernel_rfl)) (fun _ _ _ h => h) (Or.inl ⟨by rfl, ?_⟩) ?_ ?_
             rotate_left
             ·intro w'
              go_simp
              with_reducible rfl
             rotate_left
             ·simp only [zpa,zpb,zpc,zpd,zpe,zk,zl]
              rfl
             refine zu (i := 13) (N := some 64) (v := ?_) (a' := ?_) #[T_,T_,T_,T_,T_,T_,T_,T_,T_,F_,T_,T_,F_,T_,F_,F_,F_,F_,F_,F_,F_,F_,F_,F_,F_,F_,F_,F_,F_,F_,F_] rfl rfl (zp HT_.out (by kernel_rfl)) (fun _ _ _ h => h) (Or.inl ⟨by rfl, ?_⟩) ?_ ?_
             rotate_left
             ·intro w'
              go_simp
              with_reducible rfl
             rotate_left
             ·simp only [zpa,zpb,zpc,zpd,zpe,zk,zl]
              rfl
             refine zrb (i := 9) (N := some 60) (v := ?_) (a' := ?_) #[T_,T_,T_,T_,T_,T_,T_,T_,T_,T_,T_,T_,F_,T_,F_,F_,F_,F_,F_,F_,F_,F_,F_,F_,F_,F_,F_,F_,F_,F_,F_] rfl rfl (zwa HT_.out HW_.out (by kernel_rfl)) (fun _ _ _ h => h) (Or.inl ⟨by rfl, ?_⟩) hHeld ?_ ?_
             rotate_left
             ·rintro w' ⟨s0, s1⟩
              go_simp
              with_reducible rfl
             rotate_left
             ·simp only [zpa,zpb,zpc,zpd,zpe,zk,zl]
              rfl
             refine one_ (i := 12) (N := some 63) #[T_,T_,T_,T_,T_,T_,T_,T_,T_,T_,T_,T_,T_,T_,F_,F_,F_,F_,F_,F_,F_,F_,F_,F_,F_,F_,F_,F_,F_,F_,F_] rfl rfl (zxa HT_.out (by kernel_rfl)) (by decide) (fun K hK => ?_)
             refine zeb Try.func28 (by kernel_rfl) rfl #[.slice Ao7 t462.length co7, .int .i64 x6_2] (by rfl) rfl rfl (by (try simp only [zma,zmb,zmc]); first | done | rfl) ?_
             with_reducible refine (impl_ClusterWide.calls k2 _ _ t462 x6_2 t483 _ ?side1 ?side2 A30.out).mono ?_
             (case side1 => repeat (first | exact (Kd.zw HO_3.out).2.2 | (with_reducible refine Kd.zca ?_ _) | (with_reducible refine Kd.zda ?_ _) | (with_reducible refine Kd.zfa ?_)))
             (case side2 => exact (Kd.zw HO_3.out).2.1)
             rintro e w51 ⟨rfl, hb⟩
             have HS0_ := (hb.cell (World.block_lt_of_cell? _ _ (hHeld.1))).trans (hHeld.1)
             have HS1_ := (hb.cell (World.block_lt_of_cell? _ _ (hHeld.2))).trans (hHeld.2)
             refine ⟨_, rfl, ?_⟩
             have n0_ := za.mk (Kd.zea (by (with_reducible repeat (first | apply Kd.zg | apply Kd.zh | apply Kd.zm)); exact HO_3.out) hb)
             have n1_ := za.mk (Kd.zea (by (with_reducible repeat (first | apply Kd.zg | apply Kd.zh | apply Kd.zm)); exact HO_4.out) hb)
             have n2_ := za.mk (Kd.zea (by (with_reducible repeat (first | apply Kd.zg | apply Kd.zh | apply Kd.zm)); exact HO_5.out) hb)
             have n3_ := za.mk (zv (by repeat (first | (with_reducible first | exact HB.out | apply ze | apply zb | apply zd) | exact HB.out)) hb)
             clear HO_3
             clear HO_4
             clear HO_5
             clear HB
             have HO_3 := n0_
             have HO_4 := n1_
             have HO_5 := n2_
             have HB := n3_
             clear n0_ n1_ n2_ n3_
             (try clear hb)
             (try clear hb2)
             (try clear hk)
             (try clear hi)
             refine hK.out _ _ ⟨HS0_, HS1_⟩ (fun hHeld => ?_)
             clear hK K
             refine zra (a' := ?_) ?_ ?_
             rotate_left
             ·show Act.put _ (some 63) _ = _
              simp only [zpa,zpb,zpc,zpd,zpe,zk,zl]
              rfl
             refine zu (i := 14) (N := some 65) (v := ?_) (a' := ?_) #[T_,T_,T_,T_,T_,T_,T_,T_,T_,T_,T_,T_,T_,T_,T_,F_,F_,F_,F_,F_,F_,F_,F_,F_,F_,F_,F_,F_,F_,F_,F_] rfl rfl (zp HT_.out (by kernel_rfl)) (fun _ _ _ h => h) (Or.inl ⟨by rfl, ?_⟩) ?_ ?_
             rotate_left
             ·intro w'
              go_simp
              with_reducible rfl
             rotate_left
             ·simp only [zpa,zpb,zpc,zpd,zpe,zk,zl]
              rfl
             refine zu (i := 15) (N := some 66) (v := ?_) (a' := ?_) #[T_,T_,T_,T_,T_,T_,T_,T_,T_,T_,T_,T_,T_,T_,T_,T_,F_,F_,F_,F_,F_,F_,F_,F_,F_,F_,F_,F_,F_,F_,F_] rfl rfl (zp HT_.out (by kernel_rfl)) (fun _ _ _ h => h) (Or.inl ⟨by rfl, ?_⟩) ?_ ?_
             rotate_left
             ·intro w'
              go_simp
              with_reducible rfl
             rotate_left
             ·simp only [zpa,zpb,zpc,zpd,zpe,zk,zl]
              rfl
             refine zu (i := 16) (N := some 67) (v := ?_) (a' := ?_) #[T_,T_,T_,T_,T_,T_,T_,T_,T_,T_,T_,T_,T_,T_,T_,T_,T_,F_,F_,F_,F_,F_,F_,F_,F_,F_,F_,F_,F_,F_,F_] rfl rfl (zp HT_.out (by kernel_rfl)) (fun _ _ _ h => h) (Or.inl ⟨by rfl, ?_⟩) ?_ ?_
             rotate_left
             ·intro w'
              go_simp
              with_reducible rfl
             rotate_left
             ·simp only [zpa,zpb,zpc,zpd,zpe,zk,zl]
              rfl
             refine zu (i := 17) (N := some 68) (v := ?_) (a' := ?_) #[T_,T_,T_,T_,T_,T_,T_,T_,T_,T_,T_,T_,T_,T_,T_,T_,T_,T_,F_,F_,F_,F_,F_,F_,F_,F_,F_,F_,F_,F_,F_] rfl rfl (zp HT_.out (by kernel_rfl)) (fun _ _ _ h => h) (Or.inl ⟨by rfl, ?_⟩) ?_ ?_
             rotate_left
             ·intro w'
              go_simp
              with_reducible rfl
             rotate_left
             ·simp only [zpa,zpb,zpc,zpd,zpe,zk,zl]
              rfl
             refine zu (i := 18) (N := some 69) (v := ?_) (a' := ?_) #[T_,T_,T_,T_,T_,T_,T_,T_,T_,T_,T_,T_,T_,T_,T_,T_,T_,T_,T_,F_,F_,F_,F_,F_,F_,F_,F_,F_,F_,F_,F_] rfl rfl (zp HT_.out (by kernel_rfl)) (fun _ _ _ h => h) (Or.inl ⟨by rfl, ?_⟩) ?_ ?_
             rotate_left
             ·intro w'
              go_simp
              with_reducible rfl
             rotate_left
             ·simp only [zpa,zpb,zpc,zpd,zpe,zk,zl]
              rfl
             refine zu (i := 19) (N := some 70) (v := ?_) (a' := ?_) #[T_,T_,T_,T_,T_,T_,T_,T_,T_,T_,T_,T_,T_,T_,T_,T_,T_,T_,T_,T_,F_,F_,F_,F_,F_,F_,F_,F_,F_,F_,F_] rfl rfl (zp HT_.out (by kernel_rfl)) (fun _ _ _ h => h) (Or.inl ⟨by rfl, ?_⟩) ?_ ?_
             rotate_left
             ·intro w'
              go_simp
              with_reducible rfl
             rotate_left
             ·simp only [zpa,zpb,zpc,zpd,zpe,zk,zl]
              rfl
             refine zu (i := 21) (N := some 72) (v := ?_) (a' := ?_) #[T_,T_,T_,T_,T_,T_,T_,T_,T_,T_,T_,T_,T_,T_,T_,T_,T_,T_,T_,T_,F_,T_,F_,F_,F_,F_,F_,F_,F_,F_,F_] rfl rfl (zp HT_.out (by kernel_rfl)) (fun _ _ _ h => h) (Or.inl ⟨by rfl, ?_⟩) ?_ ?_
             rotate_left
             ·intro w'
              go_simp
              with_reducible rfl
             rotate_left
             ·simp only [zpa,zpb,zpc,zpd,zpe,zk,zl]
              rfl
             refine one_ (i := 20) (N := some 71) #[T_,T_,T_,T_,T_,T_,T_,T_,T_,T_,T_,T_,T_,T_,T_,T_,T_,T_,T_,T_,T_,T_,F_,F_,F_,F_,F_,F_,F_,F_,F_] rfl rfl (zxa HT_.out (by kernel_rfl)) (by decide) (fun K hK => ?_)
             refine zeb Try.func27 (by kernel_rfl) rfl #[.slice Ao7 t462.length co7, .int .i64 x6_2] (by rfl) rfl rfl (by (try simp only [zma,zmb,zmc]); first | done | rfl) ?_
             with_reducible refine (impl_ClusterAt.calls k2 _ _ t462 x6_2 t484 _ ?side1 ?side2 A32.out).mono ?_
             (case side1 => repeat (first | exact (Kd.zw HO_3.out).2.2 | (with_reducible refine Kd.zca ?_ _) | (with_reducible refine Kd.zda ?_ _) | (with_reducible refine Kd.zfa ?_)))
             (case side2 => exact (Kd.zw HO_3.out).2.1)
             rintro e w52 ⟨rfl, hb⟩
             have HS0_ := (hb.cell (World.block_lt_of_cell? _ _ (hHeld.1))).trans (hHeld.1)
             have HS1_ := (hb.cell (World.block_lt_of_cell? _ _ (hHeld.2))).trans (hHeld.2)
             refine ⟨_, rfl, ?_⟩
             have n0_ := za.mk (Kd.zea (by (with_reducible repeat (first | apply Kd.zg | apply Kd.zh | apply Kd.zm)); exact HO_3.out) hb)
             have n1_ := za.mk (Kd.zea (by (with_reducible repeat (first | apply Kd.zg | apply Kd.zh | apply Kd.zm)); exact HO_4.out) hb)
             have n2_ := za.mk (Kd.zea (by (with_reducible repeat (first | apply Kd.zg | apply Kd.zh | apply Kd.zm)); exact HO_5.out) hb)
             have n3_ := za.mk (zv (by repeat (first | (with_reducible first | exact HB.out | apply ze | apply zb | apply zd) | exact HB.out)) hb)
             clear HO_3
             clear HO_4
             clear HO_5
             clear HB
             have HO_3 := n0_
             have HO_4 := n1_
             have HO_5 := n2_
             have HB := n3_
             clear n0_ n1_ n2_ n3_
             (try clear hb)
             (try clear hb2)
             (try clear hk)
             (try clear hi)
             refine hK.out _ _ ⟨HS0_, HS1_⟩ (fun hHeld => ?_)
             clear hK K
             refine zra (a' := ?_) ?_ ?_
             rotate_left
             ·show Act.put _ (some 71) _ = _
              simp only [zpa,zpb,zpc,zpd,zpe,zk,zl]
              rfl
             refine zu (i := 22) (N := some 73) (v := ?_) (a' := ?_) #[T_,T_,T_,T_,T_,T_,T_,T_,T_,T_,T_,T_,T_,T_,T_,T_,T_,T_,T_,T_,T_,T_,T_,F_,F_,F_,F_,F_,F_,F_,F_] rfl rfl (zp HT_.out (by kernel_rfl)) (fun _ _ _ h => h) (Or.inl ⟨by rfl, ?_⟩) ?_ ?_
             rotate_left
             ·intro w'
              go_simp
              with_reducible rfl
             rotate_left
             ·simp only [zpa,zpb,zpc,zpd,zpe,zk,zl]
              rfl
             refine zu (i := 23) (N := some 74) (v := ?_) (a' := ?_) #[T_,T_,T_,T_,T_,T_,T_,T_,T_,T_,T_,T_,T_,T_,T_,T_,T_,T_,T_,T_,T_,T_,T_,T_,F_,F_,F_,F_,F_,F_,F_] rfl rfl (zp HT_.out (by kernel_rfl)) (fun _ _ _ h => h) (Or.inl ⟨by rfl, ?_⟩) ?_ ?_
             rotate_left
             ·intro w'
              go_simp
              with_reducible rfl
             rotate_left
             ·simp only [zpa,zpb,zpc,zpd,zpe,zk,zl]
              rfl
             refine zu (i := 24) (N := some 75) (v := ?_) (a' := ?_) #[T_,T_,T_,T_,T_,T_,T_,T_,T_,T_,T_,T_,T_,T_,T_,T_,T_,T_,T_,T_,T_,T_,T_,T_,T_,F_,F_,F_,F_,F_,F_] rfl rfl (zp HT_.out (by kernel_rfl)) (fun _ _ _ h => h) (Or.inl ⟨by rfl, ?_⟩) ?_ ?_
             rotate_left
             ·intro w'
              go_simp
              with_reducible rfl
             rotate_left
             ·simp only [zpa,zpb,zpc,zpd,zpe,zk,zl]
              rfl
             refine zu (i := 25) (N := some 76) (v := ?_) (a' := ?_) #[T_,T_,T_,T_,T_,T_,T_,T_,T_,T_,T_,T_,T_,T_,T_,T_,T_,T_,T_,T_,T_,T_,T_,T_,T_,T_,F_,F_,F_,F_,F_] rfl rfl (zp HT_.out (by kernel_rfl)) (fun _ _ _ h => h) (Or.inl ⟨by rfl, ?_⟩) ?_ ?_
             rotate_left
             ·intro w'
              go_simp
              with_reducible rfl
             rotate_left
             ·simp only [zpa,zpb,zpc,zpd,zpe,zk,zl]
              rfl
             refine zu (i := 26) (N := some 77) (v := ?_) (a' := ?_) #[T_,T_,T_,T_,T_,T_,T_,T_,T_,T_,T_,T_,T_,T_,T_,T_,T_,T_,T_,T_,T_,T_,T_,T_,T_,T_,T_,F_,F_,F_,F_] rfl rfl (zp HT_.out (by kernel_rfl)) (fun _ _ _ h => h) (Or.inl ⟨by rfl, ?_⟩) ?_ ?_
             rotate_left
             ·intro w'
              go_simp
              with_reducible rfl
             rotate_left
             ·simp only [zpa,zpb,zpc,zpd,zpe,zk,zl]
              rfl
             refine zrb (i := 27) (N := some 78) (v := ?_) (a' := ?_) #[T_,T_,T_,T_,T_,T_,T_,T_,T_,T_,T_,T_,T_,T_,T_,T_,T_,T_,T_,T_,T_,T_,T_,T_,T_,T_,T_,T_,F_,F_,F_] rfl rfl (zwa HT_.out HW_.out (by kernel_rfl)) (fun _ _ _ h => h) (Or.inl ⟨by rfl, ?_⟩) hHeld ?_ ?_
             rotate_left
             ·rintro w' ⟨s0, s1⟩
              go_simp
              with_reducible rfl
             rotate_left
             ·simp only [zpa,zpb,zpc,zpd,zpe,zk,zl]
              rfl
             refine zu (i := 28) (N := some 79) (v := ?_) (a' := ?_) #[T_,T_,T_,T_,T_,T_,T_,T_,T_,T_,T_,T_,T_,T_,T_,T_,T_,T_,T_,T_,T_,T_,T_,T_,T_,T_,T_,T_,T_,F_,F_] rfl rfl (zp HT_.out (by kernel_rfl)) (fun _ _ _ h => h) (Or.inl ⟨by rfl, ?_⟩) ?_ ?_
             rotate_left
             ·intro w'
              go_simp
              with_reducible rfl
             rotate_left
             ·simp only [zpa,zpb,zpc,zpd,zpe,zk,zl]
              rfl
             refine zu (i := 29) (N := some 80) (v := ?_) (a' := ?_) #[T_,T_,T_,T_,T_,T_,T_,T_,T_,T_,T_,T_,T_,T_,T_,T_,T_,T_,T_,T_,T_,T_,T_,T_,T_,T_,T_,T_,T_,T_,F_] rfl rfl (zp HT_.out (by kernel_rfl)) (fun _ _ _ h => h) (Or.inl ⟨by rfl, ?_⟩) ?_ ?_
             rotate_left
             ·intro w'
              go_simp
              with_reducible rfl
             rotate_left
             ·simp only [zpa,zpb,zpc,zpd,zpe,zk,zl]
              rfl
             refine zu (i := 30) (N := some 81) (v := ?_) (a' := ?_) #[T_,T_,T_,T_,T_,T_,T_,T_,T_,T_,T_,T_,T_,T_,T_,T_,T_,T_,T_,T_,T_,T_,T_,T_,T_,T_,T_,T_,T_,T_,T_] rfl rfl (zp HT_.out (by kernel_rfl)) (fun _ _ _ h => h) (Or.inl ⟨by rfl, ?_⟩) ?_ ?_
             rotate_left
             ·intro w'
              go_simp
              with_reducible rfl
             rotate_left
             ·simp only [zpa,zpb,zpc,zpd,zpe,zk,zl]
              rfl
             refine done_ (zxb HT_.out (by kernel_rfl)) ?_
             try go_wp2
             go_ret
             exact ⟨by first | rfl | (simp [zi, zj] <;> rfl) | (simp [*, zi, zj] <;> rfl), by repeat (first | (with_reducible first | exact HB.out | apply ze | apply zb | apply zd) | exact HB.out)⟩
          ·rw [if_neg c31] at H
           have c31b0 : ((rd t468 x6_2) == (wrap64 (t483 * t479))) = false := beq_eq_false_iff_ne.mpr c31
           have c31b1 : ((rd t468 x6_2) != (wrap64 (t483 * t479))) = true := bne_iff_ne.mpr c31
           obtain rfl := Option.some.inj H
           obtain ⟨Ao53, co53, eo53⟩ := Kd.zka HO_5.out
           subst eo53
           try go_wp2_with (first | ((with_reducible refine zt (f := 26) rfl ?_); refine zgo (some 48) Try.func26 #[.slice Ao8 t463.length co8, .int .i64 x6_2] rfl ?_; (with_reducible refine (impl_SpanAt.calls k2 _ _ t463 x6_2 t479 t480 _ ?side1 ?side2 A26.out).mono ?_); (case side1 => repeat (first | exact (Kd.zw HO_4.out).2.2 | (with_reducible refine Kd.zca ?_ _) | (with_reducible refine Kd.zda ?_ _) | (with_reducible refine Kd.zfa ?_))); (case side2 => exact (Kd.zw HO_4.out).2.1); rintro e w54 ⟨rfl, hb⟩; refine ⟨_, rfl, ?_⟩; have n0_ := za.mk (Kd.zea (by (with_reducible repeat (first | apply Kd.zg | apply Kd.zh | apply Kd.zm)); exact HO_3.out) hb); have n1_ := za.mk (Kd.zea (by (with_reducible repeat (first | apply Kd.zg | apply Kd.zh | apply Kd.zm)); exact HO_4.out) hb); have n2_ := za.mk (Kd.zea (by (with_reducible repeat (first | apply Kd.zg | apply Kd.zh | apply Kd.zm)); exact HO_5.out) hb); have n3_ := za.mk (zv (by repeat (first | (with_reducible first | exact HB.out | apply ze | apply zb | apply zd) | exact HB.out)) hb); clear HO_3; clear HO_4; clear HO_5; clear HB; have HO_3 := n0_; have HO_4 := n1_; have HO_5 := n2_; have HB := n3_; clear n0_ n1_ n2_ n3_; (try clear hb); (try clear hb2); (try clear hk); (try clear hi)))
           have n0_ := za.mk (Kd.zm HO_3.out)
           have n1_ := za.mk (Kd.zm HO_4.out)
           have n2_ := za.mk (Kd.zm HO_5.out)
           have n3_ := za.mk (zd HB.out)
           clear HO_3
           clear HO_4
           clear HO_5
           clear HB
           have HO_3 := n0_
           have HO_4 := n1_
           have HO_5 := n2_
           have HB := n3_
           clear n0_ n1_ n2_ n3_
           have p482 : 0 ≤ (x6_2 : Int) := of_decide_eq_true (by assumption)
           have q482 : x6_2 < (t468.length : Int) := of_decide_eq_true (by assumption)
           obtain ⟨ad482, e482, hx482_0⟩ := Kd.zta (Kd.zw HO_5.out).2.2 x6_2 p482 q482
           cases e482
           replace p482 := eq_true p482
           replace q482 := eq_true q482
           refine zcc (n := 31) (S := fun w' => w'.cell? (ad482.add (x6_2).toNat) = some (.int .i64 (rd t468 x6_2))) (ds := []) #[F_,F_,F_,F_,F_,F_,F_,F_,F_,F_,F_,F_,F_,F_,F_,F_,F_,F_,F_,F_,F_,F_,F_,F_,F_,F_,F_,F_,F_,F_,F_] (by kernel_rfl) rfl rfl (hx482_0) (fun hHeld => ?_); refine zdb laws_FnWides.tab11 laws_FnWides.bits11 (fun HT_ HW_ => ?_)
           generalize w54.drew = w55 at HO_3 HO_4 HO_5 HB hx482_0 hHeld ⊢
           refine zu (i := 0) (N := some 51) (v := ?_) (a' := ?_) #[T_,F_,F_,F_,F_,F_,F_,F_,F_,F_,F_,F_,F_,F_,F_,F_,F_,F_,F_,F_,F_,F_,F_,F_,F_,F_,F_,F_,F_,F_,F_] rfl rfl (zp HT_.out (by kernel_rfl)) (fun _ _ _ h => h) (Or.inl ⟨by rfl, ?_⟩) ?_ ?_
           rotate_left
           ·intro w'
            go_simp
            with_reducible rfl
           rotate_left
           ·simp only [zpa,zpb,zpc,zpd,zpe,zk,zl]
            rfl
           refine zu (i := 1) (N := some 52) (v := ?_) (a' := ?_) #[T_,T_,F_,F_,F_,F_,F_,F_,F_,F_,F_,F_,F_,F_,F_,F_,F_,F_,F_,F_,F_,F_,F_,F_,F_,F_,F_,F_,F_,F_,F_] rfl rfl (zp HT_.out (by kernel_rfl)) (fun _ _ _ h => h) (Or.inl ⟨by rfl, ?_⟩) ?_ ?_
           rotate_left
           ·intro w'
            go_simp
            with_reducible rfl
           rotate_left
           ·simp only [zpa,zpb,zpc,zpd,zpe,zk,zl]
            rfl
           refine zu (i := 3) (N := some 54) (v := ?_) (a' := ?_) #[T_,T_,F_,T_,F_,F_,F_,F_,F_,F_,F_,F_,F_,F_,F_,F_,F_,F_,F_,F_,F_,F_,F_,F_,F_,F_,F_,F_,F_,F_,F_] rfl rfl (zp HT_.out (by kernel_rfl)) (fun _ _ _ h => h) (Or.inl ⟨by rfl, ?_⟩) ?_ ?_
           rotate_left
           ·intro w'
            go_simp
            with_reducible rfl
           rotate_left
           ·simp only [zpa,zpb,zpc,zpd,zpe,zk,zl]
            rfl
           refine one_ (i := 2) (N := some 53) #[T_,T_,T_,T_,F_,F_,F_,F_,F_,F_,F_,F_,F_,F_,F_,F_,F_,F_,F_,F_,F_,F_,F_,F_,F_,F_,F_,F_,F_,F_,F_] rfl rfl (zxa HT_.out (by kernel_rfl)) (by decide) (fun K hK => ?_)
           refine zeb Try.func27 (by kernel_rfl) rfl #[.slice Ao7 t462.length co7, .int .i64 x6_2] (by rfl) rfl rfl (by (try simp only [zma,zmb,zmc]); first | done | rfl) ?_
           with_reducible refine (impl_ClusterAt.calls k2 _ _ t462 x6_2 t481 _ ?side1 ?side2 A27.out).mono ?_
           (case side1 => repeat (first | exact (Kd.zw HO_3.out).2.2 | (with_reducible refine Kd.zca ?_ _) | (with_reducible refine Kd.zda ?_ _) | (with_reducible refine Kd.zfa ?_)))
           (case side2 => exact (Kd.zw HO_3.out).2.1)
           rintro e w56 ⟨rfl, hb⟩
           have HS0_ := (hb.cell (World.block_lt_of_cell? _ _ (hHeld))).trans (hHeld)
           refine ⟨_, rfl, ?_⟩
           have n0_ := za.mk (Kd.zea (by (with_reducible repeat (first | apply Kd.zg | apply Kd.zh | apply Kd.zm)); exact HO_3.out) hb)
           have n1_ := za.mk (Kd.zea (by (with_reducible repeat (first | apply Kd.zg | apply Kd.zh | apply Kd.zm)); exact HO_4.out) hb)
           have n2_ := za.mk (Kd.zea (by (with_reducible repeat (first | apply Kd.zg | apply Kd.zh | apply Kd.zm)); exact HO_5.out) hb)
           have n3_ := za.mk (zv (by repeat (first | (with_reducible first | exact HB.out | apply ze | apply zb | apply zd) | exact HB.out)) hb)
           clear HO_3
           clear HO_4
           clear HO_5
           clear HB
           have HO_3 := n0_
           have HO_4 := n1_
           have HO_5 := n2_
           have HB := n3_
           clear n0_ n1_ n2_ n3_
           (try clear hb)
           (try clear hb2)
           (try clear hk)
           (try clear hi)
           refine hK.out _ _ (HS0_) (fun hHeld => ?_)
           clear hK K
           refine zra (a' := ?_) ?_ ?_
           rotate_left
           ·show Act.put _ (some 53) _ = _
            simp only [zpa,zpb,zpc,zpd,zpe,zk,zl]
            rfl
           refine zu (i := 4) (N := some 55) (v := ?_) (a' := ?_) #[T_,T_,T_,T_,T_,F_,F_,F_,F_,F_,F_,F_,F_,F_,F_,F_,F_,F_,F_,F_,F_,F_,F_,F_,F_,F_,F_,F_,F_,F_,F_] rfl rfl (zp HT_.out (by kernel_rfl)) (fun _ _ _ h => h) (Or.inl ⟨by rfl, ?_⟩) ?_ ?_
           rotate_left
           ·intro w'
            go_simp
            with_reducible rfl
           rotate_left
           ·simp only [zpa,zpb,zpc,zpd,zpe,zk,zl]
            rfl
           refine zu (i := 5) (N := some 56) (v := ?_) (a' := ?_) #[T_,T_,T_,T_,T_,T_,F_,F_,F_,F_,F_,F_,F_,F_,F_,F_,F_,F_,F_,F_,F_,F_,F_,F_,F_,F_,F_,F_,F_,F_,F_] rfl rfl (zp HT_.out (by kernel_rfl)) (fun _ _ _ h => h) (Or.inl ⟨by rfl, ?_⟩) ?_ ?_
           rotate_left
           ·intro w'
            go_simp
            with_reducible rfl
           rotate_left
           ·simp only [zpa,zpb,zpc,zpd,zpe,zk,zl]
            rfl
           refine zu (i := 6) (N := some 57) (v := ?_) (a' := ?_) #[T_,T_,T_,T_,T_,T_,T_,F_,F_,F_,F_,F_,F_,F_,F_,F_,F_,F_,F_,F_,F_,F_,F_,F_,F_,F_,F_,F_,F_,F_,F_] rfl rfl (zp HT_.out (by kernel_rfl)) (fun _ _ _ h => h) (Or.inl ⟨by rfl, ?_⟩) ?_ ?_
           rotate_left
           ·intro w'
            go_simp
            with_reducible rfl
           rotate_left
           ·simp only [zpa,zpb,zpc,zpd,zpe,zk,zl]
            rfl
           refine zu (i := 7) (N := some 58) (v := ?_) (a' := ?_) #[T_,T_,T_,T_,T_,T_,T_,T_,F_,F_,F_,F_,F_,F_,F_,F_,F_,F_,F_,F_,F_,F_,F_,F_,F_,F_,F_,F_,F_,F_,F_] rfl rfl (zp HT_.out (by kernel_rfl)) (fun _ _ _ h => h) (Or.inl ⟨by rfl, ?_⟩) ?_ ?_
           rotate_left
           ·intro w'
            go_simp
            with_reducible rfl
           rotate_left
           ·simp only [zpa,zpb,zpc,zpd,zpe,zk,zl]
            rfl
           refine zu (i := 8) (N := some 59) (v := ?_) (a' := ?_) #[T_,T_,T_,T_,T_,T_,T_,T_,T_,F_,F_,F_,F_,F_,F_,F_,F_,F_,F_,F_,F_,F_,F_,F_,F_,F_,F_,F_,F_,F_,F_] rfl rfl (zp HT_.out (by kernel_rfl)) (fun _ _ _ h => h) (Or.inl ⟨by rfl, ?_⟩) ?_ ?_
           rotate_left
           ·intro w'
            go_simp
            with_reducible rfl
           rotate_left
           ·simp only [zpa,zpb,zpc,zpd,zpe,zk,zl]
            rfl
           refine zu (i := 10) (N := some 61) (v := ?_) (a' := ?_) #[T_,T_,T_,T_,T_,T_,T_,T_,T_,F_,T_,F_,F_,F_,F_,F_,F_,F_,F_,F_,F_,F_,F_,F_,F_,F_,F_,F_,F_,F_,F_] rfl rfl (zp HT_.out (by kernel_rfl)) (fun _ _ _ h => h) (Or.inl ⟨by rfl, ?_⟩) ?_ ?_
           rotate_left
           ·intro w'
            go_simp
            with_reducible rfl
           rotate_left
           ·simp only [zpa,zpb,zpc,zpd,zpe,zk,zl]
            rfl
           refine zu (i := 11) (N := some 62) (v := ?_) (a' := ?_) #[T_,T_,T_,T_,T_,T_,T_,T_,T_,F_,T_,T_,F_,F_,F_,F_,F_,F_,F_,F_,F_,F_,F_,F_,F_,F_,F_,F_,F_,F_,F_] rfl rfl (zp HT_.out (by kernel_rfl)) (fun _ _ _ h => h) (Or.inl ⟨by rfl, ?_⟩) ?_ ?_
           rotate_left
           ·intro w'
            go_simp
            with_reducible rfl
           rotate_left
           ·simp only [zpa,zpb,zpc,zpd,zpe,zk,zl]
            rfl
           refine zu (i := 13) (N := some 64) (v := ?_) (a' := ?_) #[T_,T_,T_,T_,T_,T_,T_,T_,T_,F_,T_,T_,F_,T_,F_,F_,F_,F_,F_,F_,F_,F_,F_,F_,F_,F_,F_,F_,F_,F_,F_] rfl rfl (zp HT_.out (by kernel_rfl)) (fun _ _ _ h => h) (Or.inl ⟨by rfl, ?_⟩) ?_ ?_
           rotate_left
           ·intro w'
            go_simp
            with_reducible rfl
           rotate_left
           ·simp only [zpa,zpb,zpc,zpd,zpe,zk,zl]
            rfl
           refine zrb (i := 9) (N := some 60) (v := ?_) (a' := ?_) #[T_,T_,T_,T_,T_,T_,T_,T_,T_,T_,T_,T_,F_,T_,F_,F_,F_,F_,F_,F_,F_,F_,F_,F_,F_,F_,F_,F_,F_,F_,F_] rfl rfl (zwa HT_.out HW_.out (by kernel_rfl)) (fun _ _ _ h => h) (Or.inl ⟨by rfl, ?_⟩) hHeld ?_ ?_
           rotate_left
           ·intro w' s0
            go_simp
            with_reducible rfl
           rotate_left
           ·simp only [zpa,zpb,zpc,zpd,zpe,zk,zl]
            rfl
           refine one_ (i := 12) (N := some 63) #[T_,T_,T_,T_,T_,T_,T_,T_,T_,T_,T_,T_,T_,T_,F_,F_,F_,F_,F_,F_,F_,F_,F_,F_,F_,F_,F_,F_,F_,F_,F_] rfl rfl (zxa HT_.out (by kernel_rfl)) (by decide) (fun K hK => ?_)
           refine zeb Try.func28 (by kernel_rfl) rfl #[.slice Ao7 t462.length co7, .int .i64 x6_2] (by rfl) rfl rfl (by (try simp only [zma,zmb,zmc]); first | done | rfl) ?_
           with_reducible refine (impl_ClusterWide.calls k2 _ _ t462 x6_2 t483 _ ?side1 ?side2 A30.out).mono ?_
           (case side1 => repeat (first | exact (Kd.zw HO_3.out).2.2 | (with_reducible refine Kd.zca ?_ _) | (with_reducible refine Kd.zda ?_ _) | (with_reducible refine Kd.zfa ?_)))
           (case side2 => exact (Kd.zw HO_3.out).2.1)
           rintro e w57 ⟨rfl, hb⟩
           have HS0_ := (hb.cell (World.block_lt_of_cell? _ _ (hHeld))).trans (hHeld)
           refine ⟨_, rfl, ?_⟩
           have n0_ := za.mk (Kd.zea (by (with_reducible repeat (first | apply Kd.zg | apply Kd.zh | apply Kd.zm)); exact HO_3.out) hb)
           have n1_ := za.mk (Kd.zea (by (with_reducible repeat (first | apply Kd.zg | apply Kd.zh | apply Kd.zm)); exact HO_4.out) hb)
           have n2_ := za.mk (Kd.zea (by (with_reducible repeat (first | apply Kd.zg | apply Kd.zh | apply Kd.zm)); exact HO_5.out) hb)
           have n3_ := za.mk (zv (by repeat (first | (with_reducible first | exact HB.out | apply ze | apply zb | apply zd) | exact HB.out)) hb)
           clear HO_3
           clear HO_4
           clear HO_5
           clear HB
           have HO_3 := n0_
           have HO_4 := n1_
           have HO_5 := n2_
           have HB := n3_
           clear n0_ n1_ n2_ n3_
           (try clear hb)
           (try clear hb2)
           (try clear hk)
           (try clear hi)
           refine hK.out _ _ (HS0_) (fun hHeld => ?_)
           clear hK K
           refine zra (a' := ?_) ?_ ?_
           rotate_left
           ·show Act.put _ (some 63) _ = _
            simp only [zpa,zpb,zpc,zpd,zpe,zk,zl]
            rfl
           refine zu (i := 14) (N := some 65) (v := ?_) (a' := ?_) #[T_,T_,T_,T_,T_,T_,T_,T_,T_,T_,T_,T_,T_,T_,T_,F_,F_,F_,F_,F_,F_,F_,F_,F_,F_,F_,F_,F_,F_,F_,F_] rfl rfl (zp HT_.out (by kernel_rfl)) (fun _ _ _ h => h) (Or.inl ⟨by rfl, ?_⟩) ?_ ?_
           rotate_left
           ·intro w'
            go_simp
            with_reducible rfl
           rotate_left
           ·simp only [zpa,zpb,zpc,zpd,zpe,zk,zl]
            rfl
           refine zu (i := 15) (N := some 66) (v := ?_) (a' := ?_) #[T_,T_,T_,T_,T_,T_,T_,T_,T_,T_,T_,T_,T_,T_,T_,T_,F_,F_,F_,F_,F_,F_,F_,F_,F_,F_,F_,F_,F_,F_,F_] rfl rfl (zp HT_.out (by kernel_rfl)) (fun _ _ _ h => h) (Or.inl ⟨by rfl, ?_⟩) ?_ ?_
           rotate_left
           ·intro w'
            go_simp
            with_reducible rfl
           rotate_left
           ·simp only [zpa,zpb,zpc,zpd,zpe,zk,zl]
            rfl
           refine zu (i := 16) (N := some 67) (v := ?_) (a' := ?_) #[T_,T_,T_,T_,T_,T_,T_,T_,T_,T_,T_,T_,T_,T_,T_,T_,T_,F_,F_,F_,F_,F_,F_,F_,F_,F_,F_,F_,F_,F_,F_] rfl rfl (zp HT_.out (by kernel_rfl)) (fun _ _ _ h => h) (Or.inl ⟨by rfl, ?_⟩) ?_ ?_
           rotate_left
           ·intro w'
            go_simp
            with_reducible rfl
           rotate_left
           ·simp only [zpa,zpb,zpc,zpd,zpe,zk,zl]
            rfl
           refine zu (i := 17) (N := some 68) (v := ?_) (a' := ?_) #[T_,T_,T_,T_,T_,T_,T_,T_,T_,T_,T_,T_,T_,T_,T_,T_,T_,T_,F_,F_,F_,F_,F_,F_,F_,F_,F_,F_,F_,F_,F_] rfl rfl (zp HT_.out (by kernel_rfl)) (fun _ _ _ h => h) (Or.inl ⟨by rfl, ?_⟩) ?_ ?_
           rotate_left
           ·intro w'
            go_simp
            with_reducible rfl
           rotate_left
           ·simp only [zpa,zpb,zpc,zpd,zpe,zk,zl]
            rfl
           refine zu (i := 18) (N := some 69) (v := undef) (a' := ?_) #[T_,T_,T_,T_,T_,T_,T_,T_,T_,T_,T_,T_,T_,T_,T_,T_,T_,T_,T_,F_,F_,F_,F_,F_,F_,F_,F_,F_,F_,F_,F_] rfl rfl (zp HT_.out (by kernel_rfl)) (fun _ _ _ h => h) (Or.inr ⟨by rfl, rfl⟩) ?_ ?_
           rotate_left
           ·simp only [zpa,zpb,zpc,zpd,zpe,zk,zl]
            rfl
           refine zu (i := 19) (N := some 70) (v := undef) (a' := ?_) #[T_,T_,T_,T_,T_,T_,T_,T_,T_,T_,T_,T_,T_,T_,T_,T_,T_,T_,T_,T_,F_,F_,F_,F_,F_,F_,F_,F_,F_,F_,F_] rfl rfl (zp HT_.out (by kernel_rfl)) (fun _ _ _ h => h) (Or.inr ⟨by rfl, rfl⟩) ?_ ?_
           rotate_left
           ·simp only [zpa,zpb,zpc,zpd,zpe,zk,zl]
            rfl
           refine zu (i := 20) (N := some 71) (v := undef) (a' := ?_) #[T_,T_,T_,T_,T_,T_,T_,T_,T_,T_,T_,T_,T_,T_,T_,T_,T_,T_,T_,T_,T_,F_,F_,F_,F_,F_,F_,F_,F_,F_,F_] rfl rfl (zp HT_.out (by kernel_rfl)) (fun _ _ _ h => h) (Or.inr ⟨by rfl, rfl⟩) ?_ ?_
           rotate_left
           ·simp only [zpa,zpb,zpc,zpd,zpe,zk,zl]
            rfl
           refine zu (i := 21) (N := some 72) (v := undef) (a' := ?_) #[T_,T_,T_,T_,T_,T_,T_,T_,T_,T_,T_,T_,T_,T_,T_,T_,T_,T_,T_,T_,T_,T_,F_,F_,F_,F_,F_,F_,F_,F_,F_] rfl rfl (zp HT_.out (by kernel_rfl)) (fun _ _ _ h => h) (Or.inr ⟨by rfl, rfl⟩) ?_ ?_
           rotate_left
           ·simp only [zpa,zpb,zpc,zpd,zpe,zk,zl]
            rfl
           refine zu (i := 22) (N := some 73) (v := undef) (a' := ?_) #[T_,T_,T_,T_,T_,T_,T_,T_,T_,T_,T_,T_,T_,T_,T_,T_,T_,T_,T_,T_,T_,T_,T_,F_,F_,F_,F_,F_,F_,F_,F_] rfl rfl (zp HT_.out (by kernel_rfl)) (fun _ _ _ h => h) (Or.inr ⟨by rfl, rfl⟩) ?_ ?_
           rotate_left
           ·simp only [zpa,zpb,zpc,zpd,zpe,zk,zl]
            rfl
           refine zu (i := 23) (N := some 74) (v := undef) (a' := ?_) #[T_,T_,T_,T_,T_,T_,T_,T_,T_,T_,T_,T_,T_,T_,T_,T_,T_,T_,T_,T_,T_,T_,T_,T_,F_,F_,F_,F_,F_,F_,F_] rfl rfl (zp HT_.out (by kernel_rfl)) (fun _ _ _ h => h) (Or.inr ⟨by rfl, rfl⟩) ?_ ?_
           rotate_left
           ·simp only [zpa,zpb,zpc,zpd,zpe,zk,zl]
            rfl
           refine zu (i := 24) (N := some 75) (v := undef) (a' := ?_) #[T_,T_,T_,T_,T_,T_,T_,T_,T_,T_,T_,T_,T_,T_,T_,T_,T_,T_,T_,T_,T_,T_,T_,T_,T_,F_,F_,F_,F_,F_,F_] rfl rfl (zp HT_.out (by kernel_rfl)) (fun _ _ _ h => h) (Or.inr ⟨by rfl, rfl⟩) ?_ ?_
           rotate_left
           ·simp only [zpa,zpb,zpc,zpd,zpe,zk,zl]
            rfl
           refine zu (i := 25) (N := some 76) (v := undef) (a' := ?_) #[T_,T_,T_,T_,T_,T_,T_,T_,T_,T_,T_,T_,T_,T_,T_,T_,T_,T_,T_,T_,T_,T_,T_,T_,T_,T_,F_,F_,F_,F_,F_] rfl rfl (zp HT_.out (by kernel_rfl)) (fun _ _ _ h => h) (Or.inr ⟨by rfl, rfl⟩) ?_ ?_
           rotate_left
           ·simp only [zpa,zpb,zpc,zpd,zpe,zk,zl]
            rfl
           refine zu (i := 26) (N := some 77) (v := undef) (a' := ?_) #[T_,T_,T_,T_,T_,T_,T_,T_,T_,T_,T_,T_,T_,T_,T_,T_,T_,T_,T_,T_,T_,T_,T_,T_,T_,T_,T_,F_,F_,F_,F_] rfl rfl (zp HT_.out (by kernel_rfl)) (fun _ _ _ h => h) (Or.inr ⟨by rfl, rfl⟩) ?_ ?_
           rotate_left
           ·simp only [zpa,zpb,zpc,zpd,zpe,zk,zl]
            rfl
           refine zu (i := 27) (N := some 78) (v := undef) (a' := ?_) #[T_,T_,T_,T_,T_,T_,T_,T_,T_,T_,T_,T_,T_,T_,T_,T_,T_,T_,T_,T_,T_,T_,T_,T_,T_,T_,T_,T_,F_,F_,F_] rfl rfl (zp HT_.out (by kernel_rfl)) (fun _ _ _ h => h) (Or.inr ⟨by rfl, rfl⟩) ?_ ?_
           rotate_left
           ·simp only [zpa,zpb,zpc,zpd,zpe,zk,zl]
            rfl
           refine zu (i := 28) (N := some 79) (v := undef) (a' := ?_) #[T_,T_,T_,T_,T_,T_,T_,T_,T_,T_,T_,T_,T_,T_,T_,T_,T_,T_,T_,T_,T_,T_,T_,T_,T_,T_,T_,T_,T_,F_,F_] rfl rfl (zp HT_.out (by kernel_rfl)) (fun _ _ _ h => h) (Or.inr ⟨by rfl, rfl⟩) ?_ ?_
           rotate_left
           ·simp only [zpa,zpb,zpc,zpd,zpe,zk,zl]
            rfl
           refine zu (i := 29) (N := some 80) (v := undef) (a' := ?_) #[T_,T_,T_,T_,T_,T_,T_,T_,T_,T_,T_,T_,T_,T_,T_,T_,T_,T_,T_,T_,T_,T_,T_,T_,T_,T_,T_,T_,T_,T_,F_] rfl rfl (zp HT_.out (by kernel_rfl)) (fun _ _ _ h => h) (Or.inr ⟨by rfl, rfl⟩) ?_ ?_
           rotate_left
           ·simp only [zpa,zpb,zpc,zpd,zpe,zk,zl]
            rfl
           refine zu (i := 30) (N := some 81) (v := ?_) (a' := ?_) #[T_,T_,T_,T_,T_,T_,T_,T_,T_,T_,T_,T_,T_,T_,T_,T_,T_,T_,T_,T_,T_,T_,T_,T_,T_,T_,T_,T_,T_,T_,T_] rfl rfl (zp HT_.out (by kernel_rfl)) (fun _ _ _ h => h) (Or.inl ⟨by rfl, ?_⟩) ?_ ?_
           rotate_left
           ·intro w'
            go_simp
            with_reducible rfl
           rotate_left
           ·simp only [zpa,zpb,zpc,zpd,zpe,zk,zl]
            rfl
           refine done_ (zxb HT_.out (by kernel_rfl)) ?_
           try go_wp2
           go_ret
           exact ⟨by first | rfl | (simp [zi, zj] <;> rfl) | (simp [*, zi, zj] <;> rfl), by repeat (first | (with_reducible first | exact HB.out | apply ze | apply zb | apply zd) | exact HB.out)⟩
         ·rw [if_neg c29] at H
          exact absurd H (by simp)
        ·rw [if_neg c28] at H
         have c28b0 : (t481 == x6_2) = false := beq_eq_false_iff_ne.mpr c28
         have c28b1 : (t481 != x6_2) = true := bne_iff_ne.mpr c28
         replace H := Option.bind_eq_some_iff.mp H
         obtain ⟨t486, A580, H⟩ := H
         replace H : (if t486 = x6_2 then (laws_FnWides.l0 k2 t462 t463 t468 (wrap64 (x6_2 + 1))) else (if 0 ≤ x6_2 then (if (rd t468 x6_2) = 0 then (laws_FnWides.l0 k2 t462 t463 t468 (wrap64 (x6_2 + 1))) else (some false)) else (none))) = some r := H
         have A58 := za.mk A580
         clear A580
         by_cases c59 : t486 = x6_2
         ·rw [if_pos c59] at H
          have c59b0 : (t486 == x6_2) = true := beq_iff_eq.mpr c59
          have c59b1 : (t486 != x6_2) = false := bne_eq_false_iff_eq.mpr c59
          clear c59
          have H' := za.mk H
          clear H
          obtain ⟨Ao60, co60, eo60⟩ := Kd.zka HO_5.out
          subst eo60
          try go_wp2_with (first | ((with_reducible refine zt (f := 26) rfl ?_); refine zgo (some 48) Try.func26 #[.slice Ao8 t463.length co8, .int .i64 x6_2] rfl ?_; (with_reducible refine (impl_SpanAt.calls k2 _ _ t463 x6_2 t479 t480 _ ?side1 ?side2 A26.out).mono ?_); (case side1 => repeat (first | exact (Kd.zw HO_4.out).2.2 | (with_reducible refine Kd.zca ?_ _) | (with_reducible refine Kd.zda ?_ _) | (with_reducible refine Kd.zfa ?_))); (case side2 => exact (Kd.zw HO_4.out).2.1); rintro e w61 ⟨rfl, hb⟩; refine ⟨_, rfl, ?_⟩; have n0_ := za.mk (Kd.zea (by (with_reducible repeat (first | apply Kd.zg | apply Kd.zh | apply Kd.zm)); exact HO_3.out) hb); have n1_ := za.mk (Kd.zea (by (with_reducible repeat (first | apply Kd.zg | apply Kd.zh | apply Kd.zm)); exact HO_4.out) hb); have n2_ := za.mk (Kd.zea (by (with_reducible repeat (first | apply Kd.zg | apply Kd.zh | apply Kd.zm)); exact HO_5.out) hb); have n3_ := za.mk (zv (by repeat (first | (with_reducible first | exact HB.out | apply ze | apply zb | apply zd) | exact HB.out)) hb); clear HO_3; clear HO_4; clear HO_5; clear HB; have HO_3 := n0_; have HO_4 := n1_; have HO_5 := n2_; have HB := n3_; clear n0_ n1_ n2_ n3_; (try clear hb); (try clear hb2); (try clear hk); (try clear hi)))
          have n0_ := za.mk (Kd.zm HO_3.out)
          have n1_ := za.mk (Kd.zm HO_4.out)
          have n2_ := za.mk (Kd.zm HO_5.out)
          have n3_ := za.mk (zd HB.out)
          clear HO_3
          clear HO_4
          clear HO_5
          clear HB
          have HO_3 := n0_
          have HO_4 := n1_
          have HO_5 := n2_
          have HB := n3_
          clear n0_ n1_ n2_ n3_
          refine zcc (n := 31) (S := fun w' => True) (ds := []) #[F_,F_,F_,F_,F_,F_,F_,F_,F_,F_,F_,F_,F_,F_,F_,F_,F_,F_,F_,F_,F_,F_,F_,F_,F_,F_,F_,F_,F_,F_,F_] (by kernel_rfl) rfl rfl trivial (fun hHeld => ?_); refine zdb laws_FnWides.tab11 laws_FnWides.bits11 (fun HT_ HW_ => ?_)
          generalize w61.drew = w62 at HO_3 HO_4 HO_5 HB hHeld ⊢
          refine zu (i := 0) (N := some 51) (v := ?_) (a' := ?_) #[T_,F_,F_,F_,F_,F_,F_,F_,F_,F_,F_,F_,F_,F_,F_,F_,F_,F_,F_,F_,F_,F_,F_,F_,F_,F_,F_,F_,F_,F_,F_] rfl rfl (zp HT_.out (by kernel_rfl)) (fun _ _ _ h => h) (Or.inl ⟨by rfl, ?_⟩) ?_ ?_
          rotate_left
          ·intro w'
           go_simp
           with_reducible rfl
          rotate_left
          ·simp only [zpa,zpb,zpc,zpd,zpe,zk,zl]
           rfl
          refine zu (i := 1) (N := some 52) (v := ?_) (a' := ?_) #[T_,T_,F_,F_,F_,F_,F_,F_,F_,F_,F_,F_,F_,F_,F_,F_,F_,F_,F_,F_,F_,F_,F_,F_,F_,F_,F_,F_,F_,F_,F_] rfl rfl (zp HT_.out (by kernel_rfl)) (fun _ _ _ h => h) (Or.inl ⟨by rfl, ?_⟩) ?_ ?_
          rotate_left
          ·intro w'
           go_simp
           with_reducible rfl
          rotate_left
          ·simp only [zpa,zpb,zpc,zpd,zpe,zk,zl]
           rfl
          refine zu (i := 3) (N := some 54) (v := ?_) (a' := ?_) #[T_,T_,F_,T_,F_,F_,F_,F_,F_,F_,F_,F_,F_,F_,F_,F_,F_,F_,F_,F_,F_,F_,F_,F_,F_,F_,F_,F_,F_,F_,F_] rfl rfl (zp HT_.out (by kernel_rfl)) (fun _ _ _ h => h) (Or.inl ⟨by rfl, ?_⟩) ?_ ?_
          rotate_left
          ·intro w'
           go_simp
           with_reducible rfl
          rotate_left
          ·simp only [zpa,zpb,zpc,zpd,zpe,zk,zl]
           rfl
          refine one_ (i := 2) (N := some 53) #[T_,T_,T_,T_,F_,F_,F_,F_,F_,F_,F_,F_,F_,F_,F_,F_,F_,F_,F_,F_,F_,F_,F_,F_,F_,F_,F_,F_,F_,F_,F_] rfl rfl (zxa HT_.out (by kernel_rfl)) (by decide) (fun K hK => ?_)
          refine zeb Try.func27 (by kernel_rfl) rfl #[.slice Ao7 t462.length co7, .int .i64 x6_2] (by rfl) rfl rfl (by (try simp only [zma,zmb,zmc]); first | done | rfl) ?_
          with_reducible refine (impl_ClusterAt.calls k2 _ _ t462 x6_2 t481 _ ?side1 ?side2 A27.out).mono ?_
          (case side1 => repeat (first | exact (Kd.zw HO_3.out).2.2 | (with_reducible refine Kd.zca ?_ _) | (with_reducible refine Kd.zda ?_ _) | (with_reducible refine Kd.zfa ?_)))
          (case side2 => exact (Kd.zw HO_3.out).2.1)
          rintro e w63 ⟨rfl, hb⟩
          refine ⟨_, rfl, ?_⟩
          have n0_ := za.mk (Kd.zea (by (with_reducible repeat (first | apply Kd.zg | apply Kd.zh | apply Kd.zm)); exact HO_3.out) hb)
          have n1_ := za.mk (Kd.zea (by (with_reducible repeat (first | apply Kd.zg | apply Kd.zh | apply Kd.zm)); exact HO_4.out) hb)
          have n2_ := za.mk (Kd.zea (by (with_reducible repeat (first | apply Kd.zg | apply Kd.zh | apply Kd.zm)); exact HO_5.out) hb)
          have n3_ := za.mk (zv (by repeat (first | (with_reducible first | exact HB.out | apply ze | apply zb | apply zd) | exact HB.out)) hb)
          clear HO_3
          clear HO_4
          clear HO_5
          clear HB
          have HO_3 := n0_
          have HO_4 := n1_
          have HO_5 := n2_
          have HB := n3_
          clear n0_ n1_ n2_ n3_
          (try clear hb)
          (try clear hb2)
          (try clear hk)
          (try clear hi)
          refine hK.out _ _ trivial (fun hHeld => ?_)
          clear hK K
          refine zra (a' := ?_) ?_ ?_
          rotate_left
          ·show Act.put _ (some 53) _ = _
           simp only [zpa,zpb,zpc,zpd,zpe,zk,zl]
           rfl
          refine zu (i := 4) (N := some 55) (v := ?_) (a' := ?_) #[T_,T_,T_,T_,T_,F_,F_,F_,F_,F_,F_,F_,F_,F_,F_,F_,F_,F_,F_,F_,F_,F_,F_,F_,F_,F_,F_,F_,F_,F_,F_] rfl rfl (zp HT_.out (by kernel_rfl)) (fun _ _ _ h => h) (Or.inl ⟨by rfl, ?_⟩) ?_ ?_
          rotate_left
          ·intro w'
           go_simp
           with_reducible rfl
          rotate_left
          ·simp only [zpa,zpb,zpc,zpd,zpe,zk,zl]
           rfl
          refine zu (i := 5) (N := some 56) (v := ?_) (a' := ?_) #[T_,T_,T_,T_,T_,T_,F_,F_,F_,F_,F_,F_,F_,F_,F_,F_,F_,F_,F_,F_,F_,F_,F_,F_,F_,F_,F_,F_,F_,F_,F_] rfl rfl (zp HT_.out (by kernel_rfl)) (fun _ _ _ h => h) (Or.inl ⟨by rfl, ?_⟩) ?_ ?_
          rotate_left
          ·intro w'
           go_simp
           with_reducible rfl
          rotate_left
          ·simp only [zpa,zpb,zpc,zpd,zpe,zk,zl]
           rfl
          refine zu (i := 6) (N := some 57) (v := undef) (a' := ?_) #[T_,T_,T_,T_,T_,T_,T_,F_,F_,F_,F_,F_,F_,F_,F_,F_,F_,F_,F_,F_,F_,F_,F_,F_,F_,F_,F_,F_,F_,F_,F_] rfl rfl (zp HT_.out (by kernel_rfl)) (fun _ _ _ h => h) (Or.inr ⟨by rfl, rfl⟩) ?_ ?_
          rotate_left
          ·simp only [zpa,zpb,zpc,zpd,zpe,zk,zl]
           rfl
          refine zu (i := 7) (N := some 58) (v := undef) (a' := ?_) #[T_,T_,T_,T_,T_,T_,T_,T_,F_,F_,F_,F_,F_,F_,F_,F_,F_,F_,F_,F_,F_,F_,F_,F_,F_,F_,F_,F_,F_,F_,F_] rfl rfl (zp HT_.out (by kernel_rfl)) (fun _ _ _ h => h) (Or.inr ⟨by rfl, rfl⟩) ?_ ?_
          rotate_left
          ·simp only [zpa,zpb,zpc,zpd,zpe,zk,zl]
           rfl
          refine zu (i := 8) (N := some 59) (v := undef) (a' := ?_) #[T_,T_,T_,T_,T_,T_,T_,T_,T_,F_,F_,F_,F_,F_,F_,F_,F_,F_,F_,F_,F_,F_,F_,F_,F_,F_,F_,F_,F_,F_,F_] rfl rfl (zp HT_.out (by kernel_rfl)) (fun _ _ _ h => h) (Or.inr ⟨by rfl, rfl⟩) ?_ ?_
          rotate_left
          ·simp only [zpa,zpb,zpc,zpd,zpe,zk,zl]
           rfl
          refine zu (i := 9) (N := some 60) (v := undef) (a' := ?_) #[T_,T_,T_,T_,T_,T_,T_,T_,T_,T_,F_,F_,F_,F_,F_,F_,F_,F_,F_,F_,F_,F_,F_,F_,F_,F_,F_,F_,F_,F_,F_] rfl rfl (zp HT_.out (by kernel_rfl)) (fun _ _ _ h => h) (Or.inr ⟨by rfl, rfl⟩) ?_ ?_
          rotate_left
          ·simp only [zpa,zpb,zpc,zpd,zpe,zk,zl]
           rfl
          refine zu (i := 10) (N := some 61) (v := undef) (a' := ?_) #[T_,T_,T_,T_,T_,T_,T_,T_,T_,T_,T_,F_,F_,F_,F_,F_,F_,F_,F_,F_,F_,F_,F_,F_,F_,F_,F_,F_,F_,F_,F_] rfl rfl (zp HT_.out (by kernel_rfl)) (fun _ _ _ h => h) (Or.inr ⟨by rfl, rfl⟩) ?_ ?_
          rotate_left
          ·simp only [zpa,zpb,zpc,zpd,zpe,zk,zl]
           rfl
          refine zu (i := 11) (N := some 62) (v := undef) (a' := ?_) #[T_,T_,T_,T_,T_,T_,T_,T_,T_,T_,T_,T_,F_,F_,F_,F_,F_,F_,F_,F_,F_,F_,F_,F_,F_,F_,F_,F_,F_,F_,F_] rfl rfl (zp HT_.out (by kernel_rfl)) (fun _ _ _ h => h) (Or.inr ⟨by rfl, rfl⟩) ?_ ?_
          rotate_left
          ·simp only [zpa,zpb,zpc,zpd,zpe,zk,zl]
           rfl
          refine zu (i := 12) (N := some 63) (v := undef) (a' := ?_) #[T_,T_,T_,T_,T_,T_,T_,T_,T_,T_,T_,T_,T_,F_,F_,F_,F_,F_,F_,F_,F_,F_,F_,F_,F_,F_,F_,F_,F_,F_,F_] rfl rfl (zp HT_.out (by kernel_rfl)) (fun _ _ _ h => h) (Or.inr ⟨by rfl, rfl⟩) ?_ ?_
          rotate_left
          ·simp only [zpa,zpb,zpc,zpd,zpe,zk,zl]
           rfl
          refine zu (i := 13) (N := some 64) (v := undef) (a' := ?_) #[T_,T_,T_,T_,T_,T_,T_,T_,T_,T_,T_,T_,T_,T_,F_,F_,F_,F_,F_,F_,F_,F_,F_,F_,F_,F_,F_,F_,F_,F_,F_] rfl rfl (zp HT_.out (by kernel_rfl)) (fun _ _ _ h => h) (Or.inr ⟨by rfl, rfl⟩) ?_ ?_
          rotate_left
          ·simp only [zpa,zpb,zpc,zpd,zpe,zk,zl]
           rfl
          refine zu (i := 14) (N := some 65) (v := undef) (a' := ?_) #[T_,T_,T_,T_,T_,T_,T_,T_,T_,T_,T_,T_,T_,T_,T_,F_,F_,F_,F_,F_,F_,F_,F_,F_,F_,F_,F_,F_,F_,F_,F_] rfl rfl (zp HT_.out (by kernel_rfl)) (fun _ _ _ h => h) (Or.inr ⟨by rfl, rfl⟩) ?_ ?_
          rotate_left
          ·simp only [zpa,zpb,zpc,zpd,zpe,zk,zl]
           rfl
          refine zu (i := 15) (N := some 66) (v := undef) (a' := ?_) #[T_,T_,T_,T_,T_,T_,T_,T_,T_,T_,T_,T_,T_,T_,T_,T_,F_,F_,F_,F_,F_,F_,F_,F_,F_,F_,F_,F_,F_,F_,F_] rfl rfl (zp HT_.out (by kernel_rfl)) (fun _ _ _ h => h) (Or.inr ⟨by rfl, rfl⟩) ?_ ?_
          rotate_left
          ·simp only [zpa,zpb,zpc,zpd,zpe,zk,zl]
           rfl
          refine zu (i := 16) (N := some 67) (v := ?_) (a' := ?_) #[T_,T_,T_,T_,T_,T_,T_,T_,T_,T_,T_,T_,T_,T_,T_,T_,T_,F_,F_,F_,F_,F_,F_,F_,F_,F_,F_,F_,F_,F_,F_] rfl rfl (zp HT_.out (by kernel_rfl)) (fun _ _ _ h => h) (Or.inl ⟨by rfl, ?_⟩) ?_ ?_
          rotate_left
          ·intro w'
           go_simp
           with_reducible rfl
          rotate_left
          ·simp only [zpa,zpb,zpc,zpd,zpe,zk,zl]
           rfl
          refine zu (i := 17) (N := some 68) (v := ?_) (a' := ?_) #[T_,T_,T_,T_,T_,T_,T_,T_,T_,T_,T_,T_,T_,T_,T_,T_,T_,T_,F_,F_,F_,F_,F_,F_,F_,F_,F_,F_,F_,F_,F_] rfl rfl (zp HT_.out (by kernel_rfl)) (fun _ _ _ h => h) (Or.inl ⟨by rfl, ?_⟩) ?_ ?_
          rotate_left
          ·intro w'
           go_simp
           with_reducible rfl
          rotate_left
          ·simp only [zpa,zpb,zpc,zpd,zpe,zk,zl]
           rfl
          refine zu (i := 18) (N := some 69) (v := ?_) (a' := ?_) #[T_,T_,T_,T_,T_,T_,T_,T_,T_,T_,T_,T_,T_,T_,T_,T_,T_,T_,T_,F_,F_,F_,F_,F_,F_,F_,F_,F_,F_,F_,F_] rfl rfl (zp HT_.out (by kernel_rfl)) (fun _ _ _ h => h) (Or.inl ⟨by rfl, ?_⟩) ?_ ?_
          rotate_left
          ·intro w'
           go_simp
           with_reducible rfl
          rotate_left
          ·simp only [zpa,zpb,zpc,zpd,zpe,zk,zl]
           rfl
          refine zu (i := 19) (N := some 70) (v := ?_) (a' := ?_) #[T_,T_,T_,T_,T_,T_,T_,T_,T_,T_,T_,T_,T_,T_,T_,T_,T_,T_,T_,T_,F_,F_,F_,F_,F_,F_,F_,F_,F_,F_,F_] rfl rfl (zp HT_.out (by kernel_rfl)) (fun _ _ _ h => h) (Or.inl ⟨by rfl, ?_⟩) ?_ ?_
          rotate_left
          ·intro w'
           go_simp
           with_reducible rfl
          rotate_left
          ·simp only [zpa,zpb,zpc,zpd,zpe,zk,zl]
           rfl
          refine zu (i := 21) (N := some 72) (v := ?_) (a' := ?_) #[T_,T_,T_,T_,T_,T_,T_,T_,T_,T_,T_,T_,T_,T_,T_,T_,T_,T_,T_,T_,F_,T_,F_,F_,F_,F_,F_,F_,F_,F_,F_] rfl rfl (zp HT_.out (by kernel_rfl)) (fun _ _ _ h => h) (Or.inl ⟨by rfl, ?_⟩) ?_ ?_
          rotate_left
          ·intro w'
           go_simp
           with_reducible rfl
          rotate_left
          ·simp only [zpa,zpb,zpc,zpd,zpe,zk,zl]
           rfl
          refine one_ (i := 20) (N := some 71) #[T_,T_,T_,T_,T_,T_,T_,T_,T_,T_,T_,T_,T_,T_,T_,T_,T_,T_,T_,T_,T_,T_,F_,F_,F_,F_,F_,F_,F_,F_,F_] rfl rfl (zxa HT_.out (by kernel_rfl)) (by decide) (fun K hK => ?_)
          refine zeb Try.func27 (by kernel_rfl) rfl #[.slice Ao7 t462.length co7, .int .i64 x6_2] (by rfl) rfl rfl (by (try simp only [zma,zmb,zmc]); first | done | rfl) ?_
          with_reducible refine (impl_ClusterAt.calls k2 _ _ t462 x6_2 t486 _ ?side1 ?side2 A58.out).mono ?_
          (case side1 => repeat (first | exact (Kd.zw HO_3.out).2.2 | (with_reducible refine Kd.zca ?_ _) | (with_reducible refine Kd.zda ?_ _) | (with_reducible refine Kd.zfa ?_)))
          (case side2 => exact (Kd.zw HO_3.out).2.1)
          rintro e w64 ⟨rfl, hb⟩
          refine ⟨_, rfl, ?_⟩
          have n0_ := za.mk (Kd.zea (by (with_reducible repeat (first | apply Kd.zg | apply Kd.zh | apply Kd.zm)); exact HO_3.out) hb)
          have n1_ := za.mk (Kd.zea (by (with_reducible repeat (first | apply Kd.zg | apply Kd.zh | apply Kd.zm)); exact HO_4.out) hb)
          have n2_ := za.mk (Kd.zea (by (with_reducible repeat (first | apply Kd.zg | apply Kd.zh | apply Kd.zm)); exact HO_5.out) hb)
          have n3_ := za.mk (zv (by repeat (first | (with_reducible first | exact HB.out | apply ze | apply zb | apply zd) | exact HB.out)) hb)
          clear HO_3
          clear HO_4
          clear HO_5
          clear HB
          have HO_3 := n0_
          have HO_4 := n1_
          have HO_5 := n2_
          have HB := n3_
          clear n0_ n1_ n2_ n3_
          (try clear hb)
          (try clear hb2)
          (try clear hk)
          (try clear hi)
          refine hK.out _ _ trivial (fun hHeld => ?_)
          clear hK K
          refine zra (a' := ?_) ?_ ?_
          rotate_left
          ·show Act.put _ (some 71) _ = _
           simp only [zpa,zpb,zpc,zpd,zpe,zk,zl]
           rfl
          refine zu (i := 22) (N := some 73) (v := ?_) (a' := ?_) #[T_,T_,T_,T_,T_,T_,T_,T_,T_,T_,T_,T_,T_,T_,T_,T_,T_,T_,T_,T_,T_,T_,T_,F_,F_,F_,F_,F_,F_,F_,F_] rfl rfl (zp HT_.out (by kernel_rfl)) (fun _ _ _ h => h) (Or.inl ⟨by rfl, ?_⟩) ?_ ?_
          rotate_left
          ·intro w'
           go_simp
           with_reducible rfl
          rotate_left
          ·simp only [zpa,zpb,zpc,zpd,zpe,zk,zl]
           rfl
          refine zu (i := 23) (N := some 74) (v := ?_) (a' := ?_) #[T_,T_,T_,T_,T_,T_,T_,T_,T_,T_,T_,T_,T_,T_,T_,T_,T_,T_,T_,T_,T_,T_,T_,T_,F_,F_,F_,F_,F_,F_,F_] rfl rfl (zp HT_.out (by kernel_rfl)) (fun _ _ _ h => h) (Or.inl ⟨by rfl, ?_⟩) ?_ ?_
          rotate_left
          ·intro w'
           go_simp
           with_reducible rfl
          rotate_left
          ·simp only [zpa,zpb,zpc,zpd,zpe,zk,zl]
           rfl
          refine zu (i := 24) (N := some 75) (v := undef) (a' := ?_) #[T_,T_,T_,T_,T_,T_,T_,T_,T_,T_,T_,T_,T_,T_,T_,T_,T_,T_,T_,T_,T_,T_,T_,T_,T_,F_,F_,F_,F_,F_,F_] rfl rfl (zp HT_.out (by kernel_rfl)) (fun _ _ _ h => h) (Or.inr ⟨by rfl, rfl⟩) ?_ ?_
          rotate_left
          ·simp only [zpa,zpb,zpc,zpd,zpe,zk,zl]
           rfl
          refine zu (i := 25) (N := some 76) (v := undef) (a' := ?_) #[T_,T_,T_,T_,T_,T_,T_,T_,T_,T_,T_,T_,T_,T_,T_,T_,T_,T_,T_,T_,T_,T_,T_,T_,T_,T_,F_,F_,F_,F_,F_] rfl rfl (zp HT_.out (by kernel_rfl)) (fun _ _ _ h => h) (Or.inr ⟨by rfl, rfl⟩) ?_ ?_
          rotate_left
          ·simp only [zpa,zpb,zpc,zpd,zpe,zk,zl]
           rfl
          refine zu (i := 26) (N := some 77) (v := undef) (a' := ?_) #[T_,T_,T_,T_,T_,T_,T_,T_,T_,T_,T_,T_,T_,T_,T_,T_,T_,T_,T_,T_,T_,T_,T_,T_,T_,T_,T_,F_,F_,F_,F_] rfl rfl (zp HT_.out (by kernel_rfl)) (fun _ _ _ h => h) (Or.inr ⟨by rfl, rfl⟩) ?_ ?_
          rotate_left
          ·simp only [zpa,zpb,zpc,zpd,zpe,zk,zl]
           rfl
          refine zu (i := 27) (N := some 78) (v := undef) (a' := ?_) #[T_,T_,T_,T_,T_,T_,T_,T_,T_,T_,T_,T_,T_,T_,T_,T_,T_,T_,T_,T_,T_,T_,T_,T_,T_,T_,T_,T_,F_,F_,F_] rfl rfl (zp HT_.out (by kernel_rfl)) (fun _ _ _ h => h) (Or.inr ⟨by rfl, rfl⟩) ?_ ?_
          rotate_left
          ·simp only [zpa,zpb,zpc,zpd,zpe,zk,zl]
           rfl
          refine zu (i := 28) (N := some 79) (v := undef) (a' := ?_) #[T_,T_,T_,T_,T_,T_,T_,T_,T_,T_,T_,T_,T_,T_,T_,T_,T_,T_,T_,T_,T_,T_,T_,T_,T_,T_,T_,T_,T_,F_,F_] rfl rfl (zp HT_.out (by kernel_rfl)) (fun _ _ _ h => h) (Or.inr ⟨by rfl, rfl⟩) ?_ ?_
          rotate_left
          ·simp only [zpa,zpb,zpc,zpd,zpe,zk,zl]
           rfl
          refine zu (i := 29) (N := some 80) (v := ?_) (a' := ?_) #[T_,T_,T_,T_,T_,T_,T_,T_,T_,T_,T_,T_,T_,T_,T_,T_,T_,T_,T_,T_,T_,T_,T_,T_,T_,T_,T_,T_,T_,T_,F_] rfl rfl (zp HT_.out (by kernel_rfl)) (fun _ _ _ h => h) (Or.inl ⟨by rfl, ?_⟩) ?_ ?_
          rotate_left
          ·intro w'
           go_simp
           with_reducible rfl
          rotate_left
          ·simp only [zpa,zpb,zpc,zpd,zpe,zk,zl]
           rfl
          refine zu (i := 30) (N := some 81) (v := ?_) (a' := ?_) #[T_,T_,T_,T_,T_,T_,T_,T_,T_,T_,T_,T_,T_,T_,T_,T_,T_,T_,T_,T_,T_,T_,T_,T_,T_,T_,T_,T_,T_,T_,T_] rfl rfl (zp HT_.out (by kernel_rfl)) (fun _ _ _ h => h) (Or.inl ⟨by rfl, ?_⟩) ?_ ?_
          rotate_left
          ·intro w'
           go_simp
           with_reducible rfl
          rotate_left
          ·simp only [zpa,zpb,zpc,zpd,zpe,zk,zl]
           rfl
          refine done_ (zxb HT_.out (by kernel_rfl)) ?_
          try go_wp2
          go_roundg k2
          case measure => have := HJ4.out; have := HK2.out; omega
          case rel => exact ⟨(wrap64 (x6_2 + 1)), (by first | rfl | (simp; done) | (simp [*]; done)), H', ⟨by have := HJ4.out; have := HK2.out; omega⟩, ⟨by (with_reducible repeat (first | apply Kd.zg | apply Kd.zh | apply Kd.zm)); exact HO_3.out⟩, ⟨by (with_reducible repeat (first | apply Kd.zg | apply Kd.zh | apply Kd.zm)); exact HO_4.out⟩, ⟨by (with_reducible repeat (first | apply Kd.zg | apply Kd.zh | apply Kd.zm)); exact HO_5.out⟩, ⟨by repeat (first | (with_reducible first | exact HB.out | apply ze | apply zb | apply zd) | exact HB.out)⟩⟩
         ·rw [if_neg c59] at H
          have c59b0 : (t486 == x6_2) = false := beq_eq_false_iff_ne.mpr c59
          have c59b1 : (t486 != x6_2) = true := bne_iff_ne.mpr c59
          by_cases c65 : 0 ≤ x6_2
          ·rw [if_pos c65] at H
           have c65b0 : decide (0 ≤ x6_2) = true := decide_eq_true c65
           clear c65
           by_cases c66 : (rd t468 x6_2) = 0
           ·rw [if_pos c66] at H
            have c66b0 : ((rd t468 x6_2) == 0) = true := beq_iff_eq.mpr c66
            have c66b1 : ((rd t468 x6_2) != 0) = false := bne_eq_false_iff_eq.mpr c66
            clear c66
            have H' := za.mk H
            clear H
            obtain ⟨Ao67, co67, eo67⟩ := Kd.zka HO_5.out
            subst eo67
            try go_wp2_with (first | ((with_reducible refine zt (f := 26) rfl ?_); refine zgo (some 48) Try.func26 #[.slice Ao8 t463.length co8, .int .i64 x6_2] rfl ?_; (with_reducible refine (impl_SpanAt.calls k2 _ _ t463 x6_2 t479 t480 _ ?side1 ?side2 A26.out).mono ?_); (case side1 => repeat (first | exact (Kd.zw HO_4.out).2.2 | (with_reducible refine Kd.zca ?_ _) | (with_reducible refine Kd.zda ?_ _) | (with_reducible refine Kd.zfa ?_))); (case side2 => exact (Kd.zw HO_4.out).2.1); rintro e w68 ⟨rfl, hb⟩; refine ⟨_, rfl, ?_⟩; have n0_ := za.mk (Kd.zea (by (with_reducible repeat (first | apply Kd.zg | apply Kd.zh | apply Kd.zm)); exact HO_3.out) hb); have n1_ := za.mk (Kd.zea (by (with_reducible repeat (first | apply Kd.zg | apply Kd.zh | apply Kd.zm)); exact HO_4.out) hb); have n2_ := za.mk (Kd.zea (by (with_reducible repeat (first | apply Kd.zg | apply Kd.zh | apply Kd.zm)); exact HO_5.out) hb); have n3_ := za.mk (zv (by repeat (first | (with_reducible first | exact HB.out | apply ze | apply zb | apply zd) | exact HB.out)) hb); clear HO_3; clear HO_4; clear HO_5; clear HB; have HO_3 := n0_; have HO_4 := n1_; have HO_5 := n2_; have HB := n3_; clear n0_ n1_ n2_ n3_; (try clear hb); (try clear hb2); (try clear hk); (try clear hi)))
            have n0_ := za.mk (Kd.zm HO_3.out)
            have n1_ := za.mk (Kd.zm HO_4.out)
            have n2_ := za.mk (Kd.zm HO_5.out)
            have n3_ := za.mk (zd HB.out)
            clear HO_3
            clear HO_4
            clear HO_5
            clear HB
            have HO_3 := n0_
            have HO_4 := n1_
            have HO_5 := n2_
            have HB := n3_
            clear n0_ n1_ n2_ n3_
            have p487 : 0 ≤ (x6_2 : Int) := of_decide_eq_true (by assumption)
            have q487 : x6_2 < (t468.length : Int) := of_decide_eq_true (by assumption)
            obtain ⟨ad487, e487, hx487_0⟩ := Kd.zta (Kd.zw HO_5.out).2.2 x6_2 p487 q487
            cases e487
            replace p487 := eq_true p487
            replace q487 := eq_true q487
            refine zcc (n := 31) (S := fun w' => w'.cell? (ad487.add (x6_2).toNat) = some (.int .i64 (rd t468 x6_2))) (ds := []) #[F_,F_,F_,F_,F_,F_,F_,F_,F_,F_,F_,F_,F_,F_,F_,F_,F_,F_,F_,F_,F_,F_,F_,F_,F_,F_,F_,F_,F_,F_,F_] (by kernel_rfl) rfl rfl (hx487_0) (fun hHeld => ?_); refine zdb laws_FnWides.tab11 laws_FnWides.bits11 (fun HT_ HW_ => ?_)
            generalize w68.drew = w69 at HO_3 HO_4 HO_5 HB hx487_0 hHeld ⊢
            refine zu (i := 0) (N := some 51) (v := ?_) (a' := ?_) #[T_,F_,F_,F_,F_,F_,F_,F_,F_,F_,F_,F_,F_,F_,F_,F_,F_,F_,F_,F_,F_,F_,F_,F_,F_,F_,F_,F_,F_,F_,F_] rfl rfl (zp HT_.out (by kernel_rfl)) (fun _ _ _ h => h) (Or.inl ⟨by rfl, ?_⟩) ?_ ?_
            rotate_left
            ·intro w'
             go_simp
             with_reducible rfl
            rotate_left
            ·simp only [zpa,zpb,zpc,zpd,zpe,zk,zl]
             rfl
            refine zu (i := 1) (N := some 52) (v := ?_) (a' := ?_) #[T_,T_,F_,F_,F_,F_,F_,F_,F_,F_,F_,F_,F_,F_,F_,F_,F_,F_,F_,F_,F_,F_,F_,F_,F_,F_,F_,F_,F_,F_,F_] rfl rfl (zp HT_.out (by kernel_rfl)) (fun _ _ _ h => h) (Or.inl ⟨by rfl, ?_⟩) ?_ ?_
            rotate_left
            ·intro w'
             go_simp
             with_reducible rfl
            rotate_left
            ·simp only [zpa,zpb,zpc,zpd,zpe,zk,zl]
             rfl
            refine zu (i := 3) (N := some 54) (v := ?_) (a' := ?_) #[T_,T_,F_,T_,F_,F_,F_,F_,F_,F_,F_,F_,F_,F_,F_,F_,F_,F_,F_,F_,F_,F_,F_,F_,F_,F_,F_,F_,F_,F_,F_] rfl rfl (zp HT_.out (by kernel_rfl)) (fun _ _ _ h => h) (Or.inl ⟨by rfl, ?_⟩) ?_ ?_
            rotate_left
            ·intro w'
             go_simp
             with_reducible rfl
            rotate_left
            ·simp only [zpa,zpb,zpc,zpd,zpe,zk,zl]
             rfl
            refine one_ (i := 2) (N := some 53) #[T_,T_,T_,T_,F_,F_,F_,F_,F_,F_,F_,F_,F_,F_,F_,F_,F_,F_,F_,F_,F_,F_,F_,F_,F_,F_,F_,F_,F_,F_,F_] rfl rfl (zxa HT_.out (by kernel_rfl)) (by decide) (fun K hK => ?_)
            refine zeb Try.func27 (by kernel_rfl) rfl #[.slice Ao7 t462.length co7, .int .i64 x6_2] (by rfl) rfl rfl (by (try simp only [zma,zmb,zmc]); first | done | rfl) ?_
            with_reducible refine (impl_ClusterAt.calls k2 _ _ t462 x6_2 t481 _ ?side1 ?side2 A27.out).mono ?_
            (case side1 => repeat (first | exact (Kd.zw HO_3.out).2.2 | (with_reducible refine Kd.zca ?_ _) | (with_reducible refine Kd.zda ?_ _) | (with_reducible refine Kd.zfa ?_)))
            (case side2 => exact (Kd.zw HO_3.out).2.1)
            rintro e w70 ⟨rfl, hb⟩
            have HS0_ := (hb.cell (World.block_lt_of_cell? _ _ (hHeld))).trans (hHeld)
            refine ⟨_, rfl, ?_⟩
            have n0_ := za.mk (Kd.zea (by (with_reducible repeat (first | apply Kd.zg | apply Kd.zh | apply Kd.zm)); exact HO_3.out) hb)
            have n1_ := za.mk (Kd.zea (by (with_reducible repeat (first | apply Kd.zg | apply Kd.zh | apply Kd.zm)); exact HO_4.out) hb)
            have n2_ := za.mk (Kd.zea (by (with_reducible repeat (first | apply Kd.zg | apply Kd.zh | apply Kd.zm)); exact HO_5.out) hb)
            have n3_ := za.mk (zv (by repeat (first | (with_reducible first | exact HB.out | apply ze | apply zb | apply zd) | exact HB.out)) hb)
            clear HO_3
            clear HO_4
            clear HO_5
            clear HB
            have HO_3 := n0_
            have HO_4 := n1_
            have HO_5 := n2_
            have HB := n3_
            clear n0_ n1_ n2_ n3_
            (try clear hb)
            (try clear hb2)
            (try clear hk)
            (try clear hi)
            refine hK.out _ _ (HS0_) (fun hHeld => ?_)
            clear hK K
            refine zra (a' := ?_) ?_ ?_
            rotate_left
            ·show Act.put _ (some 53) _ = _
             simp only [zpa,zpb,zpc,zpd,zpe,zk,zl]
             rfl
            refine zu (i := 4) (N := some 55) (v := ?_) (a' := ?_) #[T_,T_,T_,T_,T_,F_,F_,F_,F_,F_,F_,F_,F_,F_,F_,F_,F_,F_,F_,F_,F_,F_,F_,F_,F_,F_,F_,F_,F_,F_,F_] rfl rfl (zp HT_.out (by kernel_rfl)) (fun _ _ _ h => h) (Or.inl ⟨by rfl, ?_⟩) ?_ ?_
            rotate_left
            ·intro w'
             go_simp
             with_reducible rfl
            rotate_left
            ·simp only [zpa,zpb,zpc,zpd,zpe,zk,zl]
             rfl
            refine zu (i := 5) (N := some 56) (v := ?_) (a' := ?_) #[T_,T_,T_,T_,T_,T_,F_,F_,F_,F_,F_,F_,F_,F_,F_,F_,F_,F_,F_,F_,F_,F_,F_,F_,F_,F_,F_,F_,F_,F_,F_] rfl rfl (zp HT_.out (by kernel_rfl)) (fun _ _ _ h => h) (Or.inl ⟨by rfl, ?_⟩) ?_ ?_
            rotate_left
            ·intro w'
             go_simp
             with_reducible rfl
            rotate_left
            ·simp only [zpa,zpb,zpc,zpd,zpe,zk,zl]
             rfl
            refine zu (i := 6) (N := some 57) (v := undef) (a' := ?_) #[T_,T_,T_,T_,T_,T_,T_,F_,F_,F_,F_,F_,F_,F_,F_,F_,F_,F_,F_,F_,F_,F_,F_,F_,F_,F_,F_,F_,F_,F_,F_] rfl rfl (zp HT_.out (by kernel_rfl)) (fun _ _ _ h => h) (Or.inr ⟨by rfl, rfl⟩) ?_ ?_
            rotate_left
            ·simp only [zpa,zpb,zpc,zpd,zpe,zk,zl]
             rfl
            refine zu (i := 7) (N := some 58) (v := undef) (a' := ?_) #[T_,T_,T_,T_,T_,T_,T_,T_,F_,F_,F_,F_,F_,F_,F_,F_,F_,F_,F_,F_,F_,F_,F_,F_,F_,F_,F_,F_,F_,F_,F_] rfl rfl (zp HT_.out (by kernel_rfl)) (fun _ _ _ h => h) (Or.inr ⟨by rfl, rfl⟩) ?_ ?_
            rotate_left
            ·simp only [zpa,zpb,zpc,zpd,zpe,zk,zl]
             rfl
            refine zu (i := 8) (N := some 59) (v := undef) (a' := ?_) #[T_,T_,T_,T_,T_,T_,T_,T_,T_,F_,F_,F_,F_,F_,F_,F_,F_,F_,F_,F_,F_,F_,F_,F_,F_,F_,F_,F_,F_,F_,F_] rfl rfl (zp HT_.out (by kernel_rfl)) (fun _ _ _ h => h) (Or.inr ⟨by rfl, rfl⟩) ?_ ?_
            rotate_left
            ·simp only [zpa,zpb,zpc,zpd,zpe,zk,zl]
             rfl
            refine zu (i := 9) (N := some 60) (v := undef) (a' := ?_) #[T_,T_,T_,T_,T_,T_,T_,T_,T_,T_,F_,F_,F_,F_,F_,F_,F_,F_,F_,F_,F_,F_,F_,F_,F_,F_,F_,F_,F_,F_,F_] rfl rfl (zp HT_.out (by kernel_rfl)) (fun _ _ _ h => h) (Or.inr ⟨by rfl, rfl⟩) ?_ ?_
            rotate_left
            ·simp only [zpa,zpb,zpc,zpd,zpe,zk,zl]
             rfl
            refine zu (i := 10) (N := some 61) (v := undef) (a' := ?_) #[T_,T_,T_,T_,T_,T_,T_,T_,T_,T_,T_,F_,F_,F_,F_,F_,F_,F_,F_,F_,F_,F_,F_,F_,F_,F_,F_,F_,F_,F_,F_] rfl rfl (zp HT_.out (by kernel_rfl)) (fun _ _ _ h => h) (Or.inr ⟨by rfl, rfl⟩) ?_ ?_
            rotate_left
            ·simp only [zpa,zpb,zpc,zpd,zpe,zk,zl]
             rfl
            refine zu (i := 11) (N := some 62) (v := undef) (a' := ?_) #[T_,T_,T_,T_,T_,T_,T_,T_,T_,T_,T_,T_,F_,F_,F_,F_,F_,F_,F_,F_,F_,F_,F_,F_,F_,F_,F_,F_,F_,F_,F_] rfl rfl (zp HT_.out (by kernel_rfl)) (fun _ _ _ h => h) (Or.inr ⟨by rfl, rfl⟩) ?_ ?_
            rotate_left
            ·simp only [zpa,zpb,zpc,zpd,zpe,zk,zl]
             rfl
            refine zu (i := 12) (N := some 63) (v := undef) (a' := ?_) #[T_,T_,T_,T_,T_,T_,T_,T_,T_,T_,T_,T_,T_,F_,F_,F_,F_,F_,F_,F_,F_,F_,F_,F_,F_,F_,F_,F_,F_,F_,F_] rfl rfl (zp HT_.out (by kernel_rfl)) (fun _ _ _ h => h) (Or.inr ⟨by rfl, rfl⟩) ?_ ?_
            rotate_left
            ·simp only [zpa,zpb,zpc,zpd,zpe,zk,zl]
             rfl
            refine zu (i := 13) (N := some 64) (v := undef) (a' := ?_) #[T_,T_,T_,T_,T_,T_,T_,T_,T_,T_,T_,T_,T_,T_,F_,F_,F_,F_,F_,F_,F_,F_,F_,F_,F_,F_,F_,F_,F_,F_,F_] rfl rfl (zp HT_.out (by kernel_rfl)) (fun _ _ _ h => h) (Or.inr ⟨by rfl, rfl⟩) ?_ ?_
            rotate_left
            ·simp only [zpa,zpb,zpc,zpd,zpe,zk,zl]
             rfl
            refine zu (i := 14) (N := some 65) (v := undef) (a' := ?_) #[T_,T_,T_,T_,T_,T_,T_,T_,T_,T_,T_,T_,T_,T_,T_,F_,F_,F_,F_,F_,F_,F_,F_,F_,F_,F_,F_,F_,F_,F_,F_] rfl rfl (zp HT_.out (by kernel_rfl)) (fun _ _ _ h => h) (Or.inr ⟨by rfl, rfl⟩) ?_ ?_
            rotate_left
            ·simp only [zpa,zpb,zpc,zpd,zpe,zk,zl]
             rfl
            refine zu (i := 15) (N := some 66) (v := undef) (a' := ?_) #[T_,T_,T_,T_,T_,T_,T_,T_,T_,T_,T_,T_,T_,T_,T_,T_,F_,F_,F_,F_,F_,F_,F_,F_,F_,F_,F_,F_,F_,F_,F_] rfl rfl (zp HT_.out (by kernel_rfl)) (fun _ _ _ h => h) (Or.inr ⟨by rfl, rfl⟩) ?_ ?_
            rotate_left
            ·simp only [zpa,zpb,zpc,zpd,zpe,zk,zl]
             rfl
            refine zu (i := 16) (N := some 67) (v := ?_) (a' := ?_) #[T_,T_,T_,T_,T_,T_,T_,T_,T_,T_,T_,T_,T_,T_,T_,T_,T_,F_,F_,F_,F_,F_,F_,F_,F_,F_,F_,F_,F_,F_,F_] rfl rfl (zp HT_.out (by kernel_rfl)) (fun _ _ _ h => h) (Or.inl ⟨by rfl, ?_⟩) ?_ ?_
            rotate_left
            ·intro w'
             go_simp
             with_reducible rfl
            rotate_left
            ·simp only [zpa,zpb,zpc,zpd,zpe,zk,zl]
             rfl
            refine zu (i := 17) (N := some 68) (v := ?_) (a' := ?_) #[T_,T_,T_,T_,T_,T_,T_,T_,T_,T_,T_,T_,T_,T_,T_,T_,T_,T_,F_,F_,F_,F_,F_,F_,F_,F_,F_,F_,F_,F_,F_] rfl rfl (zp HT_.out (by kernel_rfl)) (fun _ _ _ h => h) (Or.inl ⟨by rfl, ?_⟩) ?_ ?_
            rotate_left
            ·intro w'
             go_simp
             with_reducible rfl
            rotate_left
            ·simp only [zpa,zpb,zpc,zpd,zpe,zk,zl]
             rfl
            refine zu (i := 18) (N := some 69) (v := ?_) (a' := ?_) #[T_,T_,T_,T_,T_,T_,T_,T_,T_,T_,T_,T_,T_,T_,T_,T_,T_,T_,T_,F_,F_,F_,F_,F_,F_,F_,F_,F_,F_,F_,F_] rfl rfl (zp HT_.out (by kernel_rfl)) (fun _ _ _ h => h) (Or.inl ⟨by rfl, ?_⟩) ?_ ?_
            rotate_left
            ·intro w'
             go_simp
             with_reducible rfl
            rotate_left
            ·simp only [zpa,zpb,zpc,zpd,zpe,zk,zl]
             rfl
            refine zu (i := 19) (N := some 70) (v := ?_) (a' := ?_) #[T_,T_,T_,T_,T_,T_,T_,T_,T_,T_,T_,T_,T_,T_,T_,T_,T_,T_,T_,T_,F_,F_,F_,F_,F_,F_,F_,F_,F_,F_,F_] rfl rfl (zp HT_.out (by kernel_rfl)) (fun _ _ _ h => h) (Or.inl ⟨by rfl, ?_⟩) ?_ ?_
            rotate_left
            ·intro w'
             go_simp
             with_reducible rfl
            rotate_left
            ·simp only [zpa,zpb,zpc,zpd,zpe,zk,zl]
             rfl
            refine zu (i := 21) (N := some 72) (v := ?_) (a' := ?_) #[T_,T_,T_,T_,T_,T_,T_,T_,T_,T_,T_,T_,T_,T_,T_,T_,T_,T_,T_,T_,F_,T_,F_,F_,F_,F_,F_,F_,F_,F_,F_] rfl rfl (zp HT_.out (by kernel_rfl)) (fun _ _ _ h => h) (Or.inl ⟨by rfl, ?_⟩) ?_ ?_
            rotate_left
            ·intro w'
             go_simp
             with_reducible rfl
            rotate_left
            ·simp only [zpa,zpb,zpc,zpd,zpe,zk,zl]
             rfl
            refine one_ (i := 20) (N := some 71) #[T_,T_,T_,T_,T_,T_,T_,T_,T_,T_,T_,T_,T_,T_,T_,T_,T_,T_,T_,T_,T_,T_,F_,F_,F_,F_,F_,F_,F_,F_,F_] rfl rfl (zxa HT_.out (by kernel_rfl)) (by decide) (fun K hK => ?_)
            refine zeb Try.func27 (by kernel_rfl) rfl #[.slice Ao7 t462.length co7, .int .i64 x6_2] (by rfl) rfl rfl (by (try simp only [zma,zmb,zmc]); first | done | rfl) ?_
            with_reducible refine (impl_ClusterAt.calls k2 _ _ t462 x6_2 t486 _ ?side1 ?side2 A58.out).mono ?_
            (case side1 => repeat (first | exact (Kd.zw HO_3.out).2.2 | (with_reducible refine Kd.zca ?_ _) | (with_reducible refine Kd.zda ?_ _) | (with_reducible refine Kd.zfa ?_)))
            (case side2 => exact (Kd.zw HO_3.out).2.1)
            rintro e w71 ⟨rfl, hb⟩
            have HS0_ := (hb.cell (World.block_lt_of_cell? _ _ (hHeld))).trans (hHeld)
            refine ⟨_, rfl, ?_⟩
            have n0_ := za.mk (Kd.zea (by (with_reducible repeat (first | apply Kd.zg | apply Kd.zh | apply Kd.zm)); exact HO_3.out) hb)
            have n1_ := za.mk (Kd.zea (by (with_reducible repeat (first | apply Kd.zg | apply Kd.zh | apply Kd.zm)); exact HO_4.out) hb)
            have n2_ := za.mk (Kd.zea (by (with_reducible repeat (first | apply Kd.zg | apply Kd.zh | apply Kd.zm)); exact HO_5.out) hb)
            have n3_ := za.mk (zv (by repeat (first | (with_reducible first | exact HB.out | apply ze | apply zb | apply zd) | exact HB.out)) hb)
            clear HO_3
            clear HO_4
            clear HO_5
            clear HB
            have HO_3 := n0_
            have HO_4 := n1_
            have HO_5 := n2_
            have HB := n3_
            clear n0_ n1_ n2_ n3_
            (try clear hb)
            (try clear hb2)
            (try clear hk)
            (try clear hi)
            refine hK.out _ _ (HS0_) (fun hHeld => ?_)
            clear hK K
            refine zra (a' := ?_) ?_ ?_
            rotate_left
            ·show Act.put _ (some 71) _ = _
             simp only [zpa,zpb,zpc,zpd,zpe,zk,zl]
             rfl
            refine zu (i := 22) (N := some 73) (v := ?_) (a' := ?_) #[T_,T_,T_,T_,T_,T_,T_,T_,T_,T_,T_,T_,T_,T_,T_,T_,T_,T_,T_,T_,T_,T_,T_,F_,F_,F_,F_,F_,F_,F_,F_] rfl rfl (zp HT_.out (by kernel_rfl)) (fun _ _ _ h => h) (Or.inl ⟨by rfl, ?_⟩) ?_ ?_
            rotate_left
            ·intro w'
             go_simp
             with_reducible rfl
            rotate_left
            ·simp only [zpa,zpb,zpc,zpd,zpe,zk,zl]
             rfl
            refine zu (i := 23) (N := some 74) (v := ?_) (a' := ?_) #[T_,T_,T_,T_,T_,T_,T_,T_,T_,T_,T_,T_,T_,T_,T_,T_,T_,T_,T_,T_,T_,T_,T_,T_,F_,F_,F_,F_,F_,F_,F_] rfl rfl (zp HT_.out (by kernel_rfl)) (fun _ _ _ h => h) (Or.inl ⟨by rfl, ?_⟩) ?_ ?_
            rotate_left
            ·intro w'
             go_simp
             with_reducible rfl
            rotate_left
            ·simp only [zpa,zpb,zpc,zpd,zpe,zk,zl]
             rfl
            refine zu (i := 24) (N := some 75) (v := ?_) (a' := ?_) #[T_,T_,T_,T_,T_,T_,T_,T_,T_,T_,T_,T_,T_,T_,T_,T_,T_,T_,T_,T_,T_,T_,T_,T_,T_,F_,F_,F_,F_,F_,F_] rfl rfl (zp HT_.out (by kernel_rfl)) (fun _ _ _ h => h) (Or.inl ⟨by rfl, ?_⟩) ?_ ?_
            rotate_left
            ·intro w'
             go_simp
             with_reducible rfl
            rotate_left
            ·simp only [zpa,zpb,zpc,zpd,zpe,zk,zl]
             rfl
            refine zu (i := 25) (N := some 76) (v := ?_) (a' := ?_) #[T_,T_,T_,T_,T_,T_,T_,T_,T_,T_,T_,T_,T_,T_,T_,T_,T_,T_,T_,T_,T_,T_,T_,T_,T_,T_,F_,F_,F_,F_,F_] rfl rfl (zp HT_.out (by kernel_rfl)) (fun _ _ _ h => h) (Or.inl ⟨by rfl, ?_⟩) ?_ ?_
            rotate_left
            ·intro w'
             go_simp
             with_reducible rfl
            rotate_left
            ·simp only [zpa,zpb,zpc,zpd,zpe,zk,zl]
             rfl
            refine zu (i := 26) (N := some 77) (v := ?_) (a' := ?_) #[T_,T_,T_,T_,T_,T_,T_,T_,T_,T_,T_,T_,T_,T_,T_,T_,T_,T_,T_,T_,T_,T_,T_,T_,T_,T_,T_,F_,F_,F_,F_] rfl rfl (zp HT_.out (by kernel_rfl)) (fun _ _ _ h => h) (Or.inl ⟨by rfl, ?_⟩) ?_ ?_
            rotate_left
            ·intro w'
             go_simp
             with_reducible rfl
            rotate_left
            ·simp only [zpa,zpb,zpc,zpd,zpe,zk,zl]
             rfl
            refine zrb (i := 27) (N := some 78) (v := ?_) (a' := ?_) #[T_,T_,T_,T_,T_,T_,T_,T_,T_,T_,T_,T_,T_,T_,T_,T_,T_,T_,T_,T_,T_,T_,T_,T_,T_,T_,T_,T_,F_,F_,F_] rfl rfl (zwa HT_.out HW_.out (by kernel_rfl)) (fun _ _ _ h => h) (Or.inl ⟨by rfl, ?_⟩) hHeld ?_ ?_
            rotate_left
            ·intro w' s0
             go_simp
             with_reducible rfl
            rotate_left
            ·simp only [zpa,zpb,zpc,zpd,zpe,zk,zl]
             rfl
            refine zu (i := 28) (N := some 79) (v := ?_) (a' := ?_) #[T_,T_,T_,T_,T_,T_,T_,T_,T_,T_,T_,T_,T_,T_,T_,T_,T_,T_,T_,T_,T_,T_,T_,T_,T_,T_,T_,T_,T_,F_,F_] rfl rfl (zp HT_.out (by kernel_rfl)) (fun _ _ _ h => h) (Or.inl ⟨by rfl, ?_⟩) ?_ ?_
            rotate_left
            ·intro w'
             go_simp
             with_reducible rfl
            rotate_left
            ·simp only [zpa,zpb,zpc,zpd,zpe,zk,zl]
             rfl
            refine zu (i := 29) (N := some 80) (v := ?_) (a' := ?_) #[T_,T_,T_,T_,T_,T_,T_,T_,T_,T_,T_,T_,T_,T_,T_,T_,T_,T_,T_,T_,T_,T_,T_,T_,T_,T_,T_,T_,T_,T_,F_] rfl rfl (zp HT_.out (by kernel_rfl)) (fun _ _ _ h => h) (Or.inl ⟨by rfl, ?_⟩) ?_ ?_
            rotate_left
            ·intro w'
             go_simp
             with_reducible rfl
            rotate_left
            ·simp only [zpa,zpb,zpc,zpd,zpe,zk,zl]
             rfl
            refine zu (i := 30) (N := some 81) (v := ?_) (a' := ?_) #[T_,T_,T_,T_,T_,T_,T_,T_,T_,T_,T_,T_,T_,T_,T_,T_,T_,T_,T_,T_,T_,T_,T_,T_,T_,T_,T_,T_,T_,T_,T_] rfl rfl (zp HT_.out (by kernel_rfl)) (fun _ _ _ h => h) (Or.inl ⟨by rfl, ?_⟩) ?_ ?_
            rotate_left
            ·intro w'
             go_simp
             with_reducible rfl
            rotate_left
            ·simp only [zpa,zpb,zpc,zpd,zpe,zk,zl]
             rfl
            refine done_ (zxb HT_.out (by kernel_rfl)) ?_
            try go_wp2
            go_roundg k2
            case measure => have := HJ4.out; have := HK2.out; omega
            case rel => exact ⟨(wrap64 (x6_2 + 1)), (by first | rfl | (simp; done) | (simp [*]; done)), H', ⟨by have := HJ4.out; have := HK2.out; omega⟩, ⟨by (with_reducible repeat (first | apply Kd.zg | apply Kd.zh | apply Kd.zm)); exact HO_3.out⟩, ⟨by (with_reducible repeat (first | apply Kd.zg | apply Kd.zh | apply Kd.zm)); exact HO_4.out⟩, ⟨by (with_reducible repeat (first | apply Kd.zg | apply Kd.zh | apply Kd.zm)); exact HO_5.out⟩, ⟨by repeat (first | (with_reducible first | exact HB.out | apply ze | apply zb | apply zd) | exact HB.out)⟩⟩
           ·rw [if_neg c66] at H
            have c66b0 : ((rd t468 x6_2) == 0) = false := beq_eq_false_iff_ne.mpr c66
            have c66b1 : ((rd t468 x6_2) != 0) = true := bne_iff_ne.mpr c66
            obtain rfl := Option.some.inj H
            obtain ⟨Ao72, co72, eo72⟩ := Kd.zka HO_5.out
            subst eo72
            try go_wp2_with (first | ((with_reducible refine zt (f := 26) rfl ?_); refine zgo (some 48) Try.func26 #[.slice Ao8 t463.length co8, .int .i64 x6_2] rfl ?_; (with_reducible refine (impl_SpanAt.calls k2 _ _ t463 x6_2 t479 t480 _ ?side1 ?side2 A26.out).mono ?_); (case side1 => repeat (first | exact (Kd.zw HO_4.out).2.2 | (with_reducible refine Kd.zca ?_ _) | (with_reducible refine Kd.zda ?_ _) | (with_reducible refine Kd.zfa ?_))); (case side2 => exact (Kd.zw HO_4.out).2.1); rintro e w73 ⟨rfl, hb⟩; refine ⟨_, rfl, ?_⟩; have n0_ := za.mk (Kd.zea (by (with_reducible repeat (first | apply Kd.zg | apply Kd.zh | apply Kd.zm)); exact HO_3.out) hb); have n1_ := za.mk (Kd.zea (by (with_reducible repeat (first | apply Kd.zg | apply Kd.zh | apply Kd.zm)); exact HO_4.out) hb); have n2_ := za.mk (Kd.zea (by (with_reducible repeat (first | apply Kd.zg | apply Kd.zh | apply Kd.zm)); exact HO_5.out) hb); have n3_ := za.mk (zv (by repeat (first | (with_reducible first | exact HB.out | apply ze | apply zb | apply zd) | exact HB.out)) hb); clear HO_3; clear HO_4; clear HO_5; clear HB; have HO_3 := n0_; have HO_4 := n1_; have HO_5 := n2_; have HB := n3_; clear n0_ n1_ n2_ n3_; (try clear hb); (try clear hb2); (try clear hk); (try clear hi)))
            have n0_ := za.mk (Kd.zm HO_3.out)
            have n1_ := za.mk (Kd.zm HO_4.out)
            have n2_ := za.mk (Kd.zm HO_5.out)
            have n3_ := za.mk (zd HB.out)
            clear HO_3
            clear HO_4
            clear HO_5
            clear HB
            have HO_3 := n0_
            have HO_4 := n1_
            have HO_5 := n2_
            have HB := n3_
            clear n0_ n1_ n2_ n3_
            have p487 : 0 ≤ (x6_2 : Int) := of_decide_eq_true (by assumption)
            have q487 : x6_2 < (t468.length : Int) := of_decide_eq_true (by assumption)
            obtain ⟨ad487, e487, hx487_0⟩ := Kd.zta (Kd.zw HO_5.out).2.2 x6_2 p487 q487
            cases e487
            replace p487 := eq_true p487
            replace q487 := eq_true q487
            refine zcc (n := 31) (S := fun w' => w'.cell? (ad487.add (x6_2).toNat) = some (.int .i64 (rd t468 x6_2))) (ds := []) #[F_,F_,F_,F_,F_,F_,F_,F_,F_,F_,F_,F_,F_,F_,F_,F_,F_,F_,F_,F_,F_,F_,F_,F_,F_,F_,F_,F_,F_,F_,F_] (by kernel_rfl) rfl rfl (hx487_0) (fun hHeld => ?_); refine zdb laws_FnWides.tab11 laws_FnWides.bits11 (fun HT_ HW_ => ?_)
            generalize w73.drew = w74 at HO_3 HO_4 HO_5 HB hx487_0 hHeld ⊢
            refine zu (i := 0) (N := some 51) (v := ?_) (a' := ?_) #[T_,F_,F_,F_,F_,F_,F_,F_,F_,F_,F_,F_,F_,F_,F_,F_,F_,F_,F_,F_,F_,F_,F_,F_,F_,F_,F_,F_,F_,F_,F_] rfl rfl (zp HT_.out (by kernel_rfl)) (fun _ _ _ h => h) (Or.inl ⟨by rfl, ?_⟩) ?_ ?_
            rotate_left
            ·intro w'
             go_simp
             with_reducible rfl
            rotate_left
            ·simp only [zpa,zpb,zpc,zpd,zpe,zk,zl]
             rfl
            refine zu (i := 1) (N := some 52) (v := ?_) (a' := ?_) #[T_,T_,F_,F_,F_,F_,F_,F_,F_,F_,F_,F_,F_,F_,F_,F_,F_,F_,F_,F_,F_,F_,F_,F_,F_,F_,F_,F_,F_,F_,F_] rfl rfl (zp HT_.out (by kernel_rfl)) (fun _ _ _ h => h) (Or.inl ⟨by rfl, ?_⟩) ?_ ?_
            rotate_left
            ·intro w'
             go_simp
             with_reducible rfl
            rotate_left
            ·simp only [zpa,zpb,zpc,zpd,zpe,zk,zl]
             rfl
            refine zu (i := 3) (N := some 54) (v := ?_) (a' := ?_) #[T_,T_,F_,T_,F_,F_,F_,F_,F_,F_,F_,F_,F_,F_,F_,F_,F_,F_,F_,F_,F_,F_,F_,F_,F_,F_,F_,F_,F_,F_,F_] rfl rfl (zp HT_.out (by kernel_rfl)) (fun _ _ _ h => h) (Or.inl ⟨by rfl, ?_⟩) ?_ ?_
            rotate_left
            ·intro w'
             go_simp
             with_reducible rfl
            rotate_left
            ·simp only [zpa,zpb,zpc,zpd,zpe,zk,zl]
             rfl
            refine one_ (i := 2) (N := some 53) #[T_,T_,T_,T_,F_,F_,F_,F_,F_,F_,F_,F_,F_,F_,F_,F_,F_,F_,F_,F_,F_,F_,F_,F_,F_,F_,F_,F_,F_,F_,F_] rfl rfl (zxa HT_.out (by kernel_rfl)) (by decide) (fun K hK => ?_)
            refine zeb Try.func27 (by kernel_rfl) rfl #[.slice Ao7 t462.length co7, .int .i64 x6_2] (by rfl) rfl rfl (by (try simp only [zma,zmb,zmc]); first | done | rfl) ?_
            with_reducible refine (impl_ClusterAt.calls k2 _ _ t462 x6_2 t481 _ ?side1 ?side2 A27.out).mono ?_
            (case side1 => repeat (first | exact (Kd.zw HO_3.out).2.2 | (with_reducible refine Kd.zca ?_ _) | (with_reducible refine Kd.zda ?_ _) | (with_reducible refine Kd.zfa ?_)))
            (case side2 => exact (Kd.zw HO_3.out).2.1)
            rintro e w75 ⟨rfl, hb⟩
            have HS0_ := (hb.cell (World.block_lt_of_cell? _ _ (hHeld))).trans (hHeld)
            refine ⟨_, rfl, ?_⟩
            have n0_ := za.mk (Kd.zea (by (with_reducible repeat (first | apply Kd.zg | apply Kd.zh | apply Kd.zm)); exact HO_3.out) hb)
            have n1_ := za.mk (Kd.zea (by (with_reducible repeat (first | apply Kd.zg | apply Kd.zh | apply Kd.zm)); exact HO_4.out) hb)
            have n2_ := za.mk (Kd.zea (by (with_reducible repeat (first | apply Kd.zg | apply Kd.zh | apply Kd.zm)); exact HO_5.out) hb)
            have n3_ := za.mk (zv (by repeat (first | (with_reducible first | exact HB.out | apply ze | apply zb | apply zd) | exact HB.out)) hb)
            clear HO_3
            clear HO_4
            clear HO_5
            clear HB
            have HO_3 := n0_
            have HO_4 := n1_
            have HO_5 := n2_
            have HB := n3_
            clear n0_ n1_ n2_ n3_
            (try clear hb)
            (try clear hb2)
            (try clear hk)
            (try clear hi)
            refine hK.out _ _ (HS0_) (fun hHeld => ?_)
            clear hK K
            refine zra (a' := ?_) ?_ ?_
            rotate_left
            ·show Act.put _ (some 53) _ = _
             simp only [zpa,zpb,zpc,zpd,zpe,zk,zl]
             rfl
            refine zu (i := 4) (N := some 55) (v := ?_) (a' := ?_) #[T_,T_,T_,T_,T_,F_,F_,F_,F_,F_,F_,F_,F_,F_,F_,F_,F_,F_,F_,F_,F_,F_,F_,F_,F_,F_,F_,F_,F_,F_,F_] rfl rfl (zp HT_.out (by kernel_rfl)) (fun _ _ _ h => h) (Or.inl ⟨by rfl, ?_⟩) ?_ ?_
            rotate_left
            ·intro w'
             go_simp
             with_reducible rfl
            rotate_left
            ·simp only [zpa,zpb,zpc,zpd,zpe,zk,zl]
             rfl
            refine zu (i := 5) (N := some 56) (v := ?_) (a' := ?_) #[T_,T_,T_,T_,T_,T_,F_,F_,F_,F_,F_,F_,F_,F_,F_,F_,F_,F_,F_,F_,F_,F_,F_,F_,F_,F_,F_,F_,F_,F_,F_] rfl rfl (zp HT_.out (by kernel_rfl)) (fun _ _ _ h => h) (Or.inl ⟨by rfl, ?_⟩) ?_ ?_
            rotate_left
            ·intro w'
             go_simp
             with_reducible rfl
            rotate_left
            ·simp only [zpa,zpb,zpc,zpd,zpe,zk,zl]
             rfl
            refine zu (i := 6) (N := some 57) (v := undef) (a' := ?_) #[T_,T_,T_,T_,T_,T_,T_,F_,F_,F_,F_,F_,F_,F_,F_,F_,F_,F_,F_,F_,F_,F_,F_,F_,F_,F_,F_,F_,F_,F_,F_] rfl rfl (zp HT_.out (by kernel_rfl)) (fun _ _ _ h => h) (Or.inr ⟨by rfl, rfl⟩) ?_ ?_
            rotate_left
            ·simp only [zpa,zpb,zpc,zpd,zpe,zk,zl]
             rfl
            refine zu (i := 7) (N := some 58) (v := undef) (a' := ?_) #[T_,T_,T_,T_,T_,T_,T_,T_,F_,F_,F_,F_,F_,F_,F_,F_,F_,F_,F_,F_,F_,F_,F_,F_,F_,F_,F_,F_,F_,F_,F_] rfl rfl (zp HT_.out (by kernel_rfl)) (fun _ _ _ h => h) (Or.inr ⟨by rfl, rfl⟩) ?_ ?_
            rotate_left
            ·simp only [zpa,zpb,zpc,zpd,zpe,zk,zl]
             rfl
            refine zu (i := 8) (N := some 59) (v := undef) (a' := ?_) #[T_,T_,T_,T_,T_,T_,T_,T_,T_,F_,F_,F_,F_,F_,F_,F_,F_,F_,F_,F_,F_,F_,F_,F_,F_,F_,F_,F_,F_,F_,F_] rfl rfl (zp HT_.out (by kernel_rfl)) (fun _ _ _ h => h) (Or.inr ⟨by rfl, rfl⟩) ?_ ?_
            rotate_left
            ·simp only [zpa,zpb,zpc,zpd,zpe,zk,zl]
             rfl
            refine zu (i := 9) (N := some 60) (v := undef) (a' := ?_) #[T_,T_,T_,T_,T_,T_,T_,T_,T_,T_,F_,F_,F_,F_,F_,F_,F_,F_,F_,F_,F_,F_,F_,F_,F_,F_,F_,F_,F_,F_,F_] rfl rfl (zp HT_.out (by kernel_rfl)) (fun _ _ _ h => h) (Or.inr ⟨by rfl, rfl⟩) ?_ ?_
            rotate_left
            ·simp only [zpa,zpb,zpc,zpd,zpe,zk,zl]
             rfl
            refine zu (i := 10) (N := some 61) (v := undef) (a' := ?_) #[T_,T_,T_,T_,T_,T_,T_,T_,T_,T_,T_,F_,F_,F_,F_,F_,F_,F_,F_,F_,F_,F_,F_,F_,F_,F_,F_,F_,F_,F_,F_] rfl rfl (zp HT_.out (by kernel_rfl)) (fun _ _ _ h => h) (Or.inr ⟨by rfl, rfl⟩) ?_ ?_
            rotate_left
            ·simp only [zpa,zpb,zpc,zpd,zpe,zk,zl]
             rfl
            refine zu (i := 11) (N := some 62) (v := undef) (a' := ?_) #[T_,T_,T_,T_,T_,T_,T_,T_,T_,T_,T_,T_,F_,F_,F_,F_,F_,F_,F_,F_,F_,F_,F_,F_,F_,F_,F_,F_,F_,F_,F_] rfl rfl (zp HT_.out (by kernel_rfl)) (fun _ _ _ h => h) (Or.inr ⟨by rfl, rfl⟩) ?_ ?_
            rotate_left
            ·simp only [zpa,zpb,zpc,zpd,zpe,zk,zl]
             rfl
            refine zu (i := 12) (N := some 63) (v := undef) (a' := ?_) #[T_,T_,T_,T_,T_,T_,T_,T_,T_,T_,T_,T_,T_,F_,F_,F_,F_,F_,F_,F_,F_,F_,F_,F_,F_,F_,F_,F_,F_,F_,F_] rfl rfl (zp HT_.out (by kernel_rfl)) (fun _ _ _ h => h) (Or.inr ⟨by rfl, rfl⟩) ?_ ?_
            rotate_left
            ·simp only [zpa,zpb,zpc,zpd,zpe,zk,zl]
             rfl
            refine zu (i := 13) (N := some 64) (v := undef) (a' := ?_) #[T_,T_,T_,T_,T_,T_,T_,T_,T_,T_,T_,T_,T_,T_,F_,F_,F_,F_,F_,F_,F_,F_,F_,F_,F_,F_,F_,F_,F_,F_,F_] rfl rfl (zp HT_.out (by kernel_rfl)) (fun _ _ _ h => h) (Or.inr ⟨by rfl, rfl⟩) ?_ ?_
            rotate_left
            ·simp only [zpa,zpb,zpc,zpd,zpe,zk,zl]
             rfl
            refine zu (i := 14) (N := some 65) (v := undef) (a' := ?_) #[T_,T_,T_,T_,T_,T_,T_,T_,T_,T_,T_,T_,T_,T_,T_,F_,F_,F_,F_,F_,F_,F_,F_,F_,F_,F_,F_,F_,F_,F_,F_] rfl rfl (zp HT_.out (by kernel_rfl)) (fun _ _ _ h => h) (Or.inr ⟨by rfl, rfl⟩) ?_ ?_
            rotate_left
            ·simp only [zpa,zpb,zpc,zpd,zpe,zk,zl]
             rfl
            refine zu (i := 15) (N := some 66) (v := undef) (a' := ?_) #[T_,T_,T_,T_,T_,T_,T_,T_,T_,T_,T_,T_,T_,T_,T_,T_,F_,F_,F_,F_,F_,F_,F_,F_,F_,F_,F_,F_,F_,F_,F_] rfl rfl (zp HT_.out (by kernel_rfl)) (fun _ _ _ h => h) (Or.inr ⟨by rfl, rfl⟩) ?_ ?_
            rotate_left
            ·simp only [zpa,zpb,zpc,zpd,zpe,zk,zl]
             rfl
            refine zu (i := 16) (N := some 67) (v := ?_) (a' := ?_) #[T_,T_,T_,T_,T_,T_,T_,T_,T_,T_,T_,T_,T_,T_,T_,T_,T_,F_,F_,F_,F_,F_,F_,F_,F_,F_,F_,F_,F_,F_,F_] rfl rfl (zp HT_.out (by kernel_rfl)) (fun _ _ _ h => h) (Or.inl ⟨by rfl, ?_⟩) ?_ ?_
            rotate_left
            ·intro w'
             go_simp
             with_reducible rfl
            rotate_left
            ·simp only [zpa,zpb,zpc,zpd,zpe,zk,zl]
             rfl
            refine zu (i := 17) (N := some 68) (v := ?_) (a' := ?_) #[T_,T_,T_,T_,T_,T_,T_,T_,T_,T_,T_,T_,T_,T_,T_,T_,T_,T_,F_,F_,F_,F_,F_,F_,F_,F_,F_,F_,F_,F_,F_] rfl rfl (zp HT_.out (by kernel_rfl)) (fun _ _ _ h => h) (Or.inl ⟨by rfl, ?_⟩) ?_ ?_
            rotate_left
            ·intro w'
             go_simp
             with_reducible rfl
            rotate_left
            ·simp only [zpa,zpb,zpc,zpd,zpe,zk,zl]
             rfl
            refine zu (i := 18) (N := some 69) (v := ?_) (a' := ?_) #[T_,T_,T_,T_,T_,T_,T_,T_,T_,T_,T_,T_,T_,T_,T_,T_,T_,T_,T_,F_,F_,F_,F_,F_,F_,F_,F_,F_,F_,F_,F_] rfl rfl (zp HT_.out (by kernel_rfl)) (fun _ _ _ h => h) (Or.inl ⟨by rfl, ?_⟩) ?_ ?_
            rotate_left
            ·intro w'
             go_simp
             with_reducible rfl
            rotate_left
            ·simp only [zpa,zpb,zpc,zpd,zpe,zk,zl]
             rfl
            refine zu (i := 19) (N := some 70) (v := ?_) (a' := ?_) #[T_,T_,T_,T_,T_,T_,T_,T_,T_,T_,T_,T_,T_,T_,T_,T_,T_,T_,T_,T_,F_,F_,F_,F_,F_,F_,F_,F_,F_,F_,F_] rfl rfl (zp HT_.out (by kernel_rfl)) (fun _ _ _ h => h) (Or.inl ⟨by rfl, ?_⟩) ?_ ?_
            rotate_left
            ·intro w'
             go_simp
             with_reducible rfl
            rotate_left
            ·simp only [zpa,zpb,zpc,zpd,zpe,zk,zl]
             rfl
            refine zu (i := 21) (N := some 72) (v := ?_) (a' := ?_) #[T_,T_,T_,T_,T_,T_,T_,T_,T_,T_,T_,T_,T_,T_,T_,T_,T_,T_,T_,T_,F_,T_,F_,F_,F_,F_,F_,F_,F_,F_,F_] rfl rfl (zp HT_.out (by kernel_rfl)) (fun _ _ _ h => h) (Or.inl ⟨by rfl, ?_⟩) ?_ ?_
            rotate_left
            ·intro w'
             go_simp
             with_reducible rfl
            rotate_left
            ·simp only [zpa,zpb,zpc,zpd,zpe,zk,zl]
             rfl
            refine one_ (i := 20) (N := some 71) #[T_,T_,T_,T_,T_,T_,T_,T_,T_,T_,T_,T_,T_,T_,T_,T_,T_,T_,T_,T_,T_,T_,F_,F_,F_,F_,F_,F_,F_,F_,F_] rfl rfl (zxa HT_.out (by kernel_rfl)) (by decide) (fun K hK => ?_)
            refine zeb Try.func27 (by kernel_rfl) rfl #[.slice Ao7 t462.length co7, .int .i64 x6_2] (by rfl) rfl rfl (by (try simp only [zma,zmb,zmc]); first | done | rfl) ?_
            with_reducible refine (impl_ClusterAt.calls k2 _ _ t462 x6_2 t486 _ ?side1 ?side2 A58.out).mono ?_
            (case side1 => repeat (first | exact (Kd.zw HO_3.out).2.2 | (with_reducible refine Kd.zca ?_ _) | (with_reducible refine Kd.zda ?_ _) | (with_reducible refine Kd.zfa ?_)))
            (case side2 => exact (Kd.zw HO_3.out).2.1)
            rintro e w76 ⟨rfl, hb⟩
            have HS0_ := (hb.cell (World.block_lt_of_cell? _ _ (hHeld))).trans (hHeld)
            refine ⟨_, rfl, ?_⟩
            have n0_ := za.mk (Kd.zea (by (with_reducible repeat (first | apply Kd.zg | apply Kd.zh | apply Kd.zm)); exact HO_3.out) hb)
            have n1_ := za.mk (Kd.zea (by (with_reducible repeat (first | apply Kd.zg | apply Kd.zh | apply Kd.zm)); exact HO_4.out) hb)
            have n2_ := za.mk (Kd.zea (by (with_reducible repeat (first | apply Kd.zg | apply Kd.zh | apply Kd.zm)); exact HO_5.out) hb)
            have n3_ := za.mk (zv (by repeat (first | (with_reducible first | exact HB.out | apply ze | apply zb | apply zd) | exact HB.out)) hb)
            clear HO_3
            clear HO_4
            clear HO_5
            clear HB
            have HO_3 := n0_
            have HO_4 := n1_
            have HO_5 := n2_
            have HB := n3_
            clear n0_ n1_ n2_ n3_
            (try clear hb)
            (try clear hb2)
            (try clear hk)
            (try clear hi)
            refine hK.out _ _ (HS0_) (fun hHeld => ?_)
            clear hK K
            refine zra (a' := ?_) ?_ ?_
            rotate_left
            ·show Act.put _ (some 71) _ = _
             simp only [zpa,zpb,zpc,zpd,zpe,zk,zl]
             rfl
            refine zu (i := 22) (N := some 73) (v := ?_) (a' := ?_) #[T_,T_,T_,T_,T_,T_,T_,T_,T_,T_,T_,T_,T_,T_,T_,T_,T_,T_,T_,T_,T_,T_,T_,F_,F_,F_,F_,F_,F_,F_,F_] rfl rfl (zp HT_.out (by kernel_rfl)) (fun _ _ _ h => h) (Or.inl ⟨by rfl, ?_⟩) ?_ ?_
            rotate_left
            ·intro w'
             go_simp
             with_reducible rfl
            rotate_left
            ·simp only [zpa,zpb,zpc,zpd,zpe,zk,zl]
             rfl
            refine zu (i := 23) (N := some 74) (v := ?_) (a' := ?_) #[T_,T_,T_,T_,T_,T_,T_,T_,T_,T_,T_,T_,T_,T_,T_,T_,T_,T_,T_,T_,T_,T_,T_,T_,F_,F_,F_,F_,F_,F_,F_] rfl rfl (zp HT_.out (by kernel_rfl)) (fun _ _ _ h => h) (Or.inl ⟨by rfl, ?_⟩) ?_ ?_
            rotate_left
            ·intro w'
             go_simp
             with_reducible rfl
            rotate_left
            ·simp only [zpa,zpb,zpc,zpd,zpe,zk,zl]
             rfl
            refine zu (i := 24) (N := some 75) (v := ?_) (a' := ?_) #[T_,T_,T_,T_,T_,T_,T_,T_,T_,T_,T_,T_,T_,T_,T_,T_,T_,T_,T_,T_,T_,T_,T_,T_,T_,F_,F_,F_,F_,F_,F_] rfl rfl (zp HT_.out (by kernel_rfl)) (fun _ _ _ h => h) (Or.inl ⟨by rfl, ?_⟩) ?_ ?_
            rotate_left
            ·intro w'
             go_simp
             with_reducible rfl
            rotate_left
            ·simp only [zpa,zpb,zpc,zpd,zpe,zk,zl]
             rfl
            refine zu (i := 25) (N := some 76) (v := ?_) (a' := ?_) #[T_,T_,T_,T_,T_,T_,T_,T_,T_,T_,T_,T_,T_,T_,T_,T_,T_,T_,T_,T_,T_,T_,T_,T_,T_,T_,F_,F_,F_,F_,F_] rfl rfl (zp HT_.out (by kernel_rfl)) (fun _ _ _ h => h) (Or.inl ⟨by rfl, ?_⟩) ?_ ?_
            rotate_left
            ·intro w'
             go_simp
             with_reducible rfl
            rotate_left
            ·simp only [zpa,zpb,zpc,zpd,zpe,zk,zl]
             rfl
            refine zu (i := 26) (N := some 77) (v := ?_) (a' := ?_) #[T_,T_,T_,T_,T_,T_,T_,T_,T_,T_,T_,T_,T_,T_,T_,T_,T_,T_,T_,T_,T_,T_,T_,T_,T_,T_,T_,F_,F_,F_,F_] rfl rfl (zp HT_.out (by kernel_rfl)) (fun _ _ _ h => h) (Or.inl ⟨by rfl, ?_⟩) ?_ ?_
            rotate_left
            ·intro w'
             go_simp
             with_reducible rfl
            rotate_left
            ·simp only [zpa,zpb,zpc,zpd,zpe,zk,zl]
             rfl
            refine zrb (i := 27) (N := some 78) (v := ?_) (a' := ?_) #[T_,T_,T_,T_,T_,T_,T_,T_,T_,T_,T_,T_,T_,T_,T_,T_,T_,T_,T_,T_,T_,T_,T_,T_,T_,T_,T_,T_,F_,F_,F_] rfl rfl (zwa HT_.out HW_.out (by kernel_rfl)) (fun _ _ _ h => h) (Or.inl ⟨by rfl, ?_⟩) hHeld ?_ ?_
            rotate_left
            ·intro w' s0
             go_simp
             with_reducible rfl
            rotate_left
            ·simp only [zpa,zpb,zpc,zpd,zpe,zk,zl]
             rfl
            refine zu (i := 28) (N := some 79) (v := ?_) (a' := ?_) #[T_,T_,T_,T_,T_,T_,T_,T_,T_,T_,T_,T_,T_,T_,T_,T_,T_,T_,T_,T_,T_,T_,T_,T_,T_,T_,T_,T_,T_,F_,F_] rfl rfl (zp HT_.out (by kernel_rfl)) (fun _ _ _ h => h) (Or.inl ⟨by rfl, ?_⟩) ?_ ?_
            rotate_left
            ·intro w'
             go_simp
             with_reducible rfl
            rotate_left
            ·simp only [zpa,zpb,zpc,zpd,zpe,zk,zl]
             rfl
            refine zu (i := 29) (N := some 80) (v := ?_) (a' := ?_) #[T_,T_,T_,T_,T_,T_,T_,T_,T_,T_,T_,T_,T_,T_,T_,T_,T_,T_,T_,T_,T_,T_,T_,T_,T_,T_,T_,T_,T_,T_,F_] rfl rfl (zp HT_.out (by kernel_rfl)) (fun _ _ _ h => h) (Or.inl ⟨by rfl, ?_⟩) ?_ ?_
            rotate_left
            ·intro w'
             go_simp
             with_reducible rfl
            rotate_left
            ·simp only [zpa,zpb,zpc,zpd,zpe,zk,zl]
             rfl
            refine zu (i := 30) (N := some 81) (v := ?_) (a' := ?_) #[T_,T_,T_,T_,T_,T_,T_,T_,T_,T_,T_,T_,T_,T_,T_,T_,T_,T_,T_,T_,T_,T_,T_,T_,T_,T_,T_,T_,T_,T_,T_] rfl rfl (zp HT_.out (by kernel_rfl)) (fun _ _ _ h => h) (Or.inl ⟨by rfl, ?_⟩) ?_ ?_
            rotate_left
            ·intro w'
             go_simp
             with_reducible rfl
            rotate_left
            ·simp only [zpa,zpb,zpc,zpd,zpe,zk,zl]
             rfl
            refine done_ (zxb HT_.out (by kernel_rfl)) ?_
            try go_wp2
            go_ret
            exact ⟨by first | rfl | (simp [zi, zj] <;> rfl) | (simp [*, zi, zj] <;> rfl), by repeat (first | (with_reducible first | exact HB.out | apply ze | apply zb | apply zd) | exact HB.out)⟩
          ·rw [if_neg c65] at H
           exact absurd H (by simp)
       ·rw [if_neg c25] at H
        have c25b0 : decide (x6_2 < (t468.length : Int)) = false := decide_eq_false c25
        clear c25
        obtain ⟨y488, hy488⟩ : ∃ y_ : List (S40), y_ = (([(⟨0, (t462.length : Int), 7, 0⟩ : S40)] : List (S40))) := ⟨_, rfl⟩
        replace H : ((impl_WidesOf.f k2 t462 y488).bind fun t491 => ((impl_WidesOf.f k2 t462 (([(⟨0, (t462.length : Int), 14, 0⟩ : S40)] : List (S40)))).bind fun t497 => (laws_FnWides.l1 k2 t462 t468 t491 t497 0))) = some r := by first | (rw [hy488]; with_reducible exact H) | (have H2_ := (Option.bind_some _ _).symm.trans H; rw [hy488]; with_reducible exact H2_) | (have H2_ := (Option.bind_some _ _).symm.trans H; with_reducible exact H2_) | with_reducible exact H | (rw [hy488]; exact H) | exact H
        have Ny488 := za.mk hy488
        clear hy488
        replace H := Option.bind_eq_some_iff.mp H
        obtain ⟨t491, A770, H⟩ := H
        replace H : ((impl_WidesOf.f k2 t462 (([(⟨0, (t462.length : Int), 14, 0⟩ : S40)] : List (S40)))).bind fun t497 => (laws_FnWides.l1 k2 t462 t468 t491 t497 0)) = some r := H
        have A77 := za.mk A770
        clear A770
        obtain ⟨y494, hy494⟩ : ∃ y_ : List (S40), y_ = (([(⟨0, (t462.length : Int), 14, 0⟩ : S40)] : List (S40))) := ⟨_, rfl⟩
        replace H : ((impl_WidesOf.f k2 t462 y494).bind fun t497 => (laws_FnWides.l1 k2 t462 t468 t491 t497 0)) = some r := by first | (rw [hy494]; with_reducible exact H) | (have H2_ := (Option.bind_some _ _).symm.trans H; rw [hy494]; with_reducible exact H2_) | (have H2_ := (Option.bind_some _ _).symm.trans H; with_reducible exact H2_) | with_reducible exact H | (rw [hy494]; exact H) | exact H
        have Ny494 := za.mk hy494
        clear hy494
        replace H := Option.bind_eq_some_iff.mp H
        obtain ⟨t497, A780, H⟩ := H
        replace H : (laws_FnWides.l1 k2 t462 t468 t491 t497 0) = some r := H
        have A78 := za.mk A780
        clear A780
        have H' := za.mk H
        clear H
        obtain ⟨Ao79, co79, eo79⟩ := Kd.zka HO_5.out
        subst eo79
        go_wp2_with (first | ((with_reducible refine zla (N := 86) rfl ?_); (try (refine zgc (by rfl) ?_; dsimp only)); refine Kd.zfb k40 _ 40 ?hg (N := 86) ?hd (xs := ([(⟨0, (t462.length : Int), 7, 0⟩ : S40)] : List (S40))) (inner := [.int .i64 0, .int .i64 (t462.length : Int), .int .i64 7, .int .i64 0]) (ok := fun _ => True) (okp := fun _ => True) ?hr ?hp (fun _ hk => hk) trivial (Below.refl _ _) (Nat.le_refl _) (by simp) ?_; (case hd => rfl); (case hg => rfl); (case hr => first | (go_simp; done) | (go_simp; rfl)); (case hp => exact (Reps.c4 (show Kd.M k40 _ _ _ (⟨0, (t462.length : Int), 7, 0⟩ : S40) [.int .i64 0, .int .i64 (t462.length : Int), .int .i64 7, .int .i64 0] from (k40_mkM _ _ _ (⟨0, (t462.length : Int), 7, 0⟩ : S40) )) (Reps.none _ _))); intro v489 w80 ho81 hb hg_ hnew_; clear hg_ hnew_; (first | rw [← Ny488.out] at ho81 | (simp only [Int.reduceToNat] at ho81; rw [← Ny488.out] at ho81)); have n0_ := za.mk (Kd.zea (by (with_reducible repeat (first | apply Kd.zg | apply Kd.zh | apply Kd.zm)); exact HO_3.out) hb); have n1_ := za.mk (Kd.zsb (by (with_reducible repeat (first | apply Kd.zg | apply Kd.zh | apply Kd.zm)); exact HO_4.out) (Kd.zac ho81) hb); have n2_ := za.mk (Kd.zea (by (with_reducible repeat (first | apply Kd.zg | apply Kd.zh | apply Kd.zm)); exact HO_5.out) hb); have n3_ := za.mk (Kd.zqa (Kd.zbc ho81 (Kd.R_lt (by (with_reducible repeat (first | apply Kd.zg | apply Kd.zh | apply Kd.zm)); exact HO_4.out))) (zaa (by repeat (first | (with_reducible first | exact HB.out | apply ze | apply zb | apply zd) | exact HB.out)))); have n4_ := za.mk (zv (by repeat (first | (with_reducible first | exact HB.out | apply ze | apply zb | apply zd) | exact HB.out)) hb); clear HO_3; clear HO_4; clear HO_5; clear HB; have HO_3 := n0_; have HO_4 := n1_; have HO_5 := n2_; have HO490 := n3_; have HB := n4_; clear n0_ n1_ n2_ n3_ n4_; clear hb ho81; obtain ⟨Ao82, co82, eo82⟩ := Kd.zka HO490.out; subst eo82) | ((with_reducible refine zt (f := 18) rfl ?_); refine zgo (some 87) Try.func18 #[.slice Ao7 t462.length co7, .slice Ao82 y488.length co82] rfl ?_; (with_reducible refine (impl_WidesOf.calls k2 _ _ t462 _ _ y488 t491 _ ?side1 ?side2 ?side3 ?side4 A77.out).mono ?_); (case side1 => repeat (first | exact (Kd.zw HO_3.out).2.2 | (with_reducible refine Kd.zca ?_ _) | (with_reducible refine Kd.zda ?_ _) | (with_reducible refine Kd.zfa ?_))); (case side2 => exact (Kd.zw HO_3.out).2.1); (case side3 => repeat (first | exact (Kd.zw HO490.out).2.2 | (with_reducible refine Kd.zca ?_ _) | (with_reducible refine Kd.zda ?_ _) | (with_reducible refine Kd.zfa ?_))); (case side4 => exact (Kd.zw HO490.out).2.1); rintro e w83 ⟨v492, rfl, ho0, hb⟩; refine ⟨_, rfl, ?_⟩; have n0_ := za.mk (Kd.zsb (by (with_reducible repeat (first | apply Kd.zg | apply Kd.zh | apply Kd.zm)); exact HO_3.out) (Kd.zac ho0) hb); have n1_ := za.mk (Kd.zea (by (with_reducible repeat (first | apply Kd.zg | apply Kd.zh | apply Kd.zm)); exact HO_4.out) hb); have n2_ := za.mk (Kd.zsb (by (with_reducible repeat (first | apply Kd.zg | apply Kd.zh | apply Kd.zm)); exact HO_5.out) (Kd.zac ho0) hb); have n3_ := za.mk (Kd.zea (by (with_reducible repeat (first | apply Kd.zg | apply Kd.zh | apply Kd.zm)); exact HO490.out) hb); have n4_ := za.mk (Kd.zqa (Kd.zbc (Kd.zbc ho0 (Kd.R_lt (by (with_reducible repeat (first | apply Kd.zg | apply Kd.zh | apply Kd.zm)); exact HO_3.out))) (Kd.R_lt (by (with_reducible repeat (first | apply Kd.zg | apply Kd.zh | apply Kd.zm)); exact HO_5.out))) (zaa (by repeat (first | (with_reducible first | exact HB.out | apply ze | apply zb | apply zd) | exact HB.out)))); have n5_ := za.mk (zv (by repeat (first | (with_reducible first | exact HB.out | apply ze | apply zb | apply zd) | exact HB.out)) hb); clear HO_3; clear HO_4; clear HO_5; clear HO490; clear HB; have HO_3 := n0_; have HO_4 := n1_; have HO_5 := n2_; have HO490 := n3_; have HO493 := n4_; have HB := n5_; clear n0_ n1_ n2_ n3_ n4_ n5_; (try clear hb); (try clear hb2); (try clear hk); (try clear hi); (try clear ho0)) | ((with_reducible refine zla (N := 92) rfl ?_); (try (refine zgc (by rfl) ?_; dsimp only)); refine Kd.zfb k40 _ 40 ?hg (N := 92) ?hd (xs := ([(⟨0, (t462.length : Int), 14, 0⟩ : S40)] : List (S40))) (inner := [.int .i64 0, .int .i64 (t462.length : Int), .int .i64 14, .int .i64 0]) (ok := fun _ => True) (okp := fun _ => True) ?hr ?hp (fun _ hk => hk) trivial (Below.refl _ _) (Nat.le_refl _) (by simp) ?_; (case hd => rfl); (case hg => rfl); (case hr => first | (go_simp; done) | (go_simp; rfl)); (case hp => exact (Reps.c4 (show Kd.M k40 _ _ _ (⟨0, (t462.length : Int), 14, 0⟩ : S40) [.int .i64 0, .int .i64 (t462.length : Int), .int .i64 14, .int .i64 0] from (k40_mkM _ _ _ (⟨0, (t462.length : Int), 14, 0⟩ : S40) )) (Reps.none _ _))); intro v495 w84 ho85 hb hg_ hnew_; clear hg_ hnew_; (first | rw [← Ny494.out] at ho85 | (simp only [Int.reduceToNat] at ho85; rw [← Ny494.out] at ho85)); have n0_ := za.mk (Kd.zea (by (with_reducible repeat (first | apply Kd.zg | apply Kd.zh | apply Kd.zm)); exact HO_3.out) hb); have n1_ := za.mk (Kd.zsb (by (with_reducible repeat (first | apply Kd.zg | apply Kd.zh | apply Kd.zm)); exact HO_4.out) (Kd.zac ho85) hb); have n2_ := za.mk (Kd.zea (by (with_reducible repeat (first | apply Kd.zg | apply Kd.zh | apply Kd.zm)); exact HO_5.out) hb); have n3_ := za.mk (Kd.zsb (by (with_reducible repeat (first | apply Kd.zg | apply Kd.zh | apply Kd.zm)); exact HO490.out) (Kd.zac ho85) hb); have n4_ := za.mk (Kd.zea (by (with_reducible repeat (first | apply Kd.zg | apply Kd.zh | apply Kd.zm)); exact HO493.out) hb); have n5_ := za.mk (Kd.zqa (Kd.zbc (Kd.zbc ho85 (Kd.R_lt (by (with_reducible repeat (first | apply Kd.zg | apply Kd.zh | apply Kd.zm)); exact HO_4.out))) (Kd.R_lt (by (with_reducible repeat (first | apply Kd.zg | apply Kd.zh | apply Kd.zm)); exact HO490.out))) (zaa (by repeat (first | (with_reducible first | exact HB.out | apply ze | apply zb | apply zd) | exact HB.out)))); have n6_ := za.mk (zv (by repeat (first | (with_reducible first | exact HB.out | apply ze | apply zb | apply zd) | exact HB.out)) hb); clear HO_3; clear HO_4; clear HO_5; clear HO490; clear HO493; clear HB; have HO_3 := n0_; have HO_4 := n1_; have HO_5 := n2_; have HO490 := n3_; have HO493 := n4_; have HO496 := n5_; have HB := n6_; clear n0_ n1_ n2_ n3_ n4_ n5_ n6_; clear hb ho85; obtain ⟨Ao86, co86, eo86⟩ := Kd.zka HO496.out; subst eo86) | ((with_reducible refine zt (f := 18) rfl ?_); refine zgo (some 93) Try.func18 #[.slice Ao7 t462.length co7, .slice Ao86 y494.length co86] rfl ?_; (with_reducible refine (impl_WidesOf.calls k2 _ _ t462 _ _ y494 t497 _ ?side1 ?side2 ?side3 ?side4 A78.out).mono ?_); (case side1 => repeat (first | exact (Kd.zw HO_3.out).2.2 | (with_reducible refine Kd.zca ?_ _) | (with_reducible refine Kd.zda ?_ _) | (with_reducible refine Kd.zfa ?_))); (case side2 => exact (Kd.zw HO_3.out).2.1); (case side3 => repeat (first | exact (Kd.zw HO496.out).2.2 | (with_reducible refine Kd.zca ?_ _) | (with_reducible refine Kd.zda ?_ _) | (with_reducible refine Kd.zfa ?_))); (case side4 => exact (Kd.zw HO496.out).2.1); rintro e w87 ⟨v498, rfl, ho0, hb⟩; refine ⟨_, rfl, ?_⟩; have n0_ := za.mk (Kd.zsb (by (with_reducible repeat (first | apply Kd.zg | apply Kd.zh | apply Kd.zm)); exact HO_3.out) (Kd.zac ho0) hb); have n1_ := za.mk (Kd.zea (by (with_reducible repeat (first | apply Kd.zg | apply Kd.zh | apply Kd.zm)); exact HO_4.out) hb); have n2_ := za.mk (Kd.zsb (by (with_reducible repeat (first | apply Kd.zg | apply Kd.zh | apply Kd.zm)); exact HO_5.out) (Kd.zac ho0) hb); have n3_ := za.mk (Kd.zea (by (with_reducible repeat (first | apply Kd.zg | apply Kd.zh | apply Kd.zm)); exact HO490.out) hb); have n4_ := za.mk (Kd.zsb (by (with_reducible repeat (first | apply Kd.zg | apply Kd.zh | apply Kd.zm)); exact HO493.out) (Kd.zac ho0) hb); have n5_ := za.mk (Kd.zea (by (with_reducible repeat (first | apply Kd.zg | apply Kd.zh | apply Kd.zm)); exact HO496.out) hb); have n6_ := za.mk (Kd.zqa (Kd.zbc (Kd.zbc (Kd.zbc ho0 (Kd.R_lt (by (with_reducible repeat (first | apply Kd.zg | apply Kd.zh | apply Kd.zm)); exact HO_3.out))) (Kd.R_lt (by (with_reducible repeat (first | apply Kd.zg | apply Kd.zh | apply Kd.zm)); exact HO_5.out))) (Kd.R_lt (by (with_reducible repeat (first | apply Kd.zg | apply Kd.zh | apply Kd.zm)); exact HO493.out))) (zaa (by repeat (first | (with_reducible first | exact HB.out | apply ze | apply zb | apply zd) | exact HB.out)))); have n7_ := za.mk (zv (by repeat (first | (with_reducible first | exact HB.out | apply ze | apply zb | apply zd) | exact HB.out)) hb); clear HO_3; clear HO_4; clear HO_5; clear HO490; clear HO493; clear HO496; clear HB; have HO_3 := n0_; have HO_4 := n1_; have HO_5 := n2_; have HO490 := n3_; have HO493 := n4_; have HO496 := n5_; have HO499 := n6_; have HB := n7_; clear n0_ n1_ n2_ n3_ n4_ n5_ n6_ n7_; (try clear hb); (try clear hb2); (try clear hk); (try clear hi); (try clear ho0)))
        go_loopg [11] k2 (fun kq v11 w' => ∃ (x11_3 : Int), v11 = .int .i64 x11_3 ∧ za (laws_FnWides.l1 kq t462 t468 t491 t497 x11_3 = some r) ∧ za (kq ≤ k2) ∧ za (Kd.R (Kd.int .i64) 3 w' w.heap.size (fun k_ => some k_ ≠ ((.slice Ao79 t468.length co79) : Value).ownBlock ∧ some k_ ≠ (v492 : Value).ownBlock ∧ some k_ ≠ (v498 : Value).ownBlock) (.slice Ao7 t462.length co7) t462) ∧ za (Kd.R (Kd.int .i64) 3 w' w.heap.size (fun k_ => some k_ ≠ ((.slice Ao7 t462.length co7) : Value).ownBlock ∧ some k_ ≠ (v492 : Value).ownBlock ∧ some k_ ≠ (v498 : Value).ownBlock) (.slice Ao79 t468.length co79) t468) ∧ za (Kd.R (Kd.int .i64) 3 w' w.heap.size (fun k_ => some k_ ≠ ((.slice Ao7 t462.length co7) : Value).ownBlock ∧ some k_ ≠ ((.slice Ao79 t468.length co79) : Value).ownBlock ∧ some k_ ≠ (v498 : Value).ownBlock) v492 t491) ∧ za (Kd.R (Kd.int .i64) 3 w' w.heap.size (fun k_ => some k_ ≠ ((.slice Ao7 t462.length co7) : Value).ownBlock ∧ some k_ ≠ ((.slice Ao79 t468.length co79) : Value).ownBlock ∧ some k_ ≠ (v492 : Value).ownBlock) v498 t497) ∧ za (Below w.heap.size w w'))
        case atStart => exact ⟨(0), (by first | rfl | (simp; done) | (simp [*]; done)), H', ⟨Nat.le_refl _⟩, ⟨by (with_reducible repeat (first | apply Kd.zg | apply Kd.zh | apply Kd.zm)); exact Kd.zga HO_3.out (fun _ hk => ⟨hk.1.1, ⟨hk.1.2, hk.2⟩⟩)⟩, ⟨by (with_reducible repeat (first | apply Kd.zg | apply Kd.zh | apply Kd.zm)); exact Kd.zga HO_5.out (fun _ hk => ⟨hk.1.1, ⟨hk.1.2, hk.2⟩⟩)⟩, ⟨by (with_reducible repeat (first | apply Kd.zg | apply Kd.zh | apply Kd.zm)); exact Kd.zga HO493.out (fun _ hk => ⟨hk.1.1.2, ⟨hk.1.2, hk.2⟩⟩)⟩, ⟨by (with_reducible repeat (first | apply Kd.zg | apply Kd.zh | apply Kd.zm)); exact Kd.zga HO499.out (fun _ hk => ⟨hk.1.1.2, ⟨hk.1.2, hk.2⟩⟩)⟩, ⟨by repeat (first | (with_reducible first | exact HB.out | apply ze | apply zb | apply zd) | exact HB.out)⟩⟩
        case round =>
         clear H'
         try clear c1
         try clear c2
         try clear p2
         try clear c4
         try clear p4
         try clear q4
         try clear hx4
         try clear c6
         try clear p6
         try clear c18
         try clear c25
         try clear c25b0
         try clear c26
         try clear c27
         try clear p48
         try clear q48
         try clear hx48
         try clear p64
         try clear c65
         try clear c66
         try clear c66b0
         try clear c66b1
         try clear hx487_0
         try clear p487
         try clear q487
         obtain ⟨x11_3, rfl, HA, HK3, HO_3, HO_5, HO_9, HO_10, HB⟩ := hrel
         cases gk with
         | zero => exact absurd HA.out (by simp [laws_FnWides.l1])
         | succ k3 =>
          have H := HA.out
          clear HA
          simp only [laws_FnWides.l1] at H
          by_cases c88 : x11_3 < (t491.length : Int)
          ·rw [if_pos c88] at H
           have c88b0 : decide (x11_3 < (t491.length : Int)) = true := decide_eq_true c88
           clear c88
           by_cases c89 : 0 ≤ x11_3
           ·rw [if_pos c89] at H
            have c89b0 : decide (0 ≤ x11_3) = true := decide_eq_true c89
            clear c89
            by_cases c90 : x11_3 < (t497.length : Int)
            ·rw [if_pos c90] at H
             have c90b0 : decide (x11_3 < (t497.length : Int)) = true := decide_eq_true c90
             clear c90
             by_cases c91 : (rd t497 x11_3) = (wrap64 (2 * (rd t491 x11_3)))
             ·rw [if_pos c91] at H
              have c91b0 : ((rd t497 x11_3) == (wrap64 (2 * (rd t491 x11_3)))) = true := beq_iff_eq.mpr c91
              have c91b1 : ((rd t497 x11_3) != (wrap64 (2 * (rd t491 x11_3)))) = false := bne_eq_false_iff_eq.mpr c91
              clear c91
              have H' := za.mk H
              clear H
              obtain ⟨Ao92, co92, eo92⟩ := Kd.zka HO_9.out
              subst eo92
              try go_wp2
              have n0_ := za.mk (Kd.zm HO_3.out)
              have n1_ := za.mk (Kd.zm HO_5.out)
              have n2_ := za.mk (Kd.zm HO_9.out)
              have n3_ := za.mk (Kd.zm HO_10.out)
              have n4_ := za.mk (zd HB.out)
              clear HO_3
              clear HO_5
              clear HO_9
              clear HO_10
              clear HB
              have HO_3 := n0_
              have HO_5 := n1_
              have HO_9 := n2_
              have HO_10 := n3_
              have HB := n4_
              clear n0_ n1_ n2_ n3_ n4_
              obtain ⟨Ao94, co94, eo94⟩ := Kd.zka HO_10.out
              (first | subst eo94 | (injection eo94 with f1_ f2_ f3_; have f4_ := f1_.symm; have f5_ := f3_.symm; clear f1_ f2_ f3_; subst f4_; subst f5_))
              have p500 : 0 ≤ (x11_3 : Int) := of_decide_eq_true (by assumption)
              have q500 : x11_3 < (t497.length : Int) := of_decide_eq_true (by assumption)
              obtain ⟨ad500, e500, hx500_0⟩ := Kd.zta (Kd.zw HO_10.out).2.2 x11_3 p500 q500
              cases e500
              replace p500 := eq_true p500
              replace q500 := eq_true q500
              have p501 : 0 ≤ (x11_3 : Int) := of_decide_eq_true (by assumption)
              have q501 : x11_3 < (t491.length : Int) := of_decide_eq_true (by assumption)
              obtain ⟨ad501, e501, hx501_0⟩ := Kd.zta (Kd.zw HO_9.out).2.2 x11_3 p501 q501
              cases e501
              replace p501 := eq_true p501
              replace q501 := eq_true q501
              refine zcc (n := 10) (S := fun w' => w'.cell? (ad500.add (x11_3).toNat) = some (.int .i64 (rd t497 x11_3)) ∧ w'.cell? (ad501.add (x11_3).toNat) = some (.int .i64 (rd t491 x11_3))) (ds := []) #[F_,F_,F_,F_,F_,F_,F_,F_,F_,F_] (by kernel_rfl) rfl rfl ⟨hx500_0, hx501_0⟩ (fun hHeld => ?_); refine zdb laws_FnWides.tab18 laws_FnWides.bits18 (fun HT_ HW_ => ?_)
              generalize wr.drew = w93 at HO_3 HO_5 HO_9 HO_10 HB hx500_0 hx501_0 hHeld ⊢
              refine zu (i := 0) (N := some 100) (v := ?_) (a' := ?_) #[T_,F_,F_,F_,F_,F_,F_,F_,F_,F_] rfl rfl (zp HT_.out (by kernel_rfl)) (fun _ _ _ h => h) (Or.inl ⟨by rfl, ?_⟩) ?_ ?_
              rotate_left
              ·intro w'
               go_simp
               with_reducible rfl
              rotate_left
              ·simp only [zpa,zpb,zpc,zpd,zpe,zk,zl]
               rfl
              refine zu (i := 1) (N := some 101) (v := ?_) (a' := ?_) #[T_,T_,F_,F_,F_,F_,F_,F_,F_,F_] rfl rfl (zp HT_.out (by kernel_rfl)) (fun _ _ _ h => h) (Or.inl ⟨by rfl, ?_⟩) ?_ ?_
              rotate_left
              ·intro w'
               go_simp
               with_reducible rfl
              rotate_left
              ·simp only [zpa,zpb,zpc,zpd,zpe,zk,zl]
               rfl
              refine zu (i := 2) (N := some 102) (v := ?_) (a' := ?_) #[T_,T_,T_,F_,F_,F_,F_,F_,F_,F_] rfl rfl (zp HT_.out (by kernel_rfl)) (fun _ _ _ h => h) (Or.inl ⟨by rfl, ?_⟩) ?_ ?_
              rotate_left
              ·intro w'
               go_simp
               with_reducible rfl
              rotate_left
              ·simp only [zpa,zpb,zpc,zpd,zpe,zk,zl]
               rfl
              refine zu (i := 4) (N := some 104) (v := ?_) (a' := ?_) #[T_,T_,T_,F_,T_,F_,F_,F_,F_,F_] rfl rfl (zp HT_.out (by kernel_rfl)) (fun _ _ _ h => h) (Or.inl ⟨by rfl, ?_⟩) ?_ ?_
              rotate_left
              ·intro w'
               go_simp
               with_reducible rfl
              rotate_left
              ·simp only [zpa,zpb,zpc,zpd,zpe,zk,zl]
               rfl
              refine zu (i := 5) (N := some 105) (v := ?_) (a' := ?_) #[T_,T_,T_,F_,T_,T_,F_,F_,F_,F_] rfl rfl (zp HT_.out (by kernel_rfl)) (fun _ _ _ h => h) (Or.inl ⟨by rfl, ?_⟩) ?_ ?_
              rotate_left
              ·intro w'
               go_simp
               with_reducible rfl
              rotate_left
              ·simp only [zpa,zpb,zpc,zpd,zpe,zk,zl]
               rfl
              refine zu (i := 6) (N := some 106) (v := ?_) (a' := ?_) #[T_,T_,T_,F_,T_,T_,T_,F_,F_,F_] rfl rfl (zp HT_.out (by kernel_rfl)) (fun _ _ _ h => h) (Or.inl ⟨by rfl, ?_⟩) ?_ ?_
              rotate_left
              ·intro w'
               go_simp
               with_reducible rfl
              rotate_left
              ·simp only [zpa,zpb,zpc,zpd,zpe,zk,zl]
               rfl
              refine zrb (i := 3) (N := some 103) (v := ?_) (a' := ?_) #[T_,T_,T_,T_,T_,T_,T_,F_,F_,F_] rfl rfl (zwa HT_.out HW_.out (by kernel_rfl)) (fun _ _ _ h => h) (Or.inl ⟨by rfl, ?_⟩) hHeld ?_ ?_
              rotate_left
              ·rintro w' ⟨s0, s1⟩
               go_simp
               with_reducible rfl
              rotate_left
              ·simp only [zpa,zpb,zpc,zpd,zpe,zk,zl]
               rfl
              refine zrb (i := 7) (N := some 107) (v := ?_) (a' := ?_) #[T_,T_,T_,T_,T_,T_,T_,T_,F_,F_] rfl rfl (zwa HT_.out HW_.out (by kernel_rfl)) (fun _ _ _ h => h) (Or.inl ⟨by rfl, ?_⟩) hHeld ?_ ?_
              rotate_left
              ·rintro w' ⟨s0, s1⟩
               go_simp
               with_reducible rfl
              rotate_left
              ·simp only [zpa,zpb,zpc,zpd,zpe,zk,zl]
               rfl
              refine zu (i := 8) (N := some 108) (v := ?_) (a' := ?_) #[T_,T_,T_,T_,T_,T_,T_,T_,T_,F_] rfl rfl (zp HT_.out (by kernel_rfl)) (fun _ _ _ h => h) (Or.inl ⟨by rfl, ?_⟩) ?_ ?_
              rotate_left
              ·intro w'
               go_simp
               with_reducible rfl
              rotate_left
              ·simp only [zpa,zpb,zpc,zpd,zpe,zk,zl]
               rfl
              refine zu (i := 9) (N := some 109) (v := ?_) (a' := ?_) #[T_,T_,T_,T_,T_,T_,T_,T_,T_,T_] rfl rfl (zp HT_.out (by kernel_rfl)) (fun _ _ _ h => h) (Or.inl ⟨by rfl, ?_⟩) ?_ ?_
              rotate_left
              ·intro w'
               go_simp
               with_reducible rfl
              rotate_left
              ·simp only [zpa,zpb,zpc,zpd,zpe,zk,zl]
               rfl
              refine done_ (zxb HT_.out (by kernel_rfl)) ?_
              try go_wp2
              go_roundg k3
              case measure => have := HJ4.out; have := HK2.out; have := HK3.out; omega
              case rel => exact ⟨(wrap64 (x11_3 + 1)), (by first | rfl | (simp; done) | (simp [*]; done)), H', ⟨by have := HJ4.out; have := HK2.out; have := HK3.out; omega⟩, ⟨by (with_reducible repeat (first | apply Kd.zg | apply Kd.zh | apply Kd.zm)); exact HO_3.out⟩, ⟨by (with_reducible repeat (first | apply Kd.zg | apply Kd.zh | apply Kd.zm)); exact HO_5.out⟩, ⟨by (with_reducible repeat (first | apply Kd.zg | apply Kd.zh | apply Kd.zm)); exact HO_9.out⟩, ⟨by (with_reducible repeat (first | apply Kd.zg | apply Kd.zh | apply Kd.zm)); exact HO_10.out⟩, ⟨by repeat (first | (with_reducible first | exact HB.out | apply ze | apply zb | apply zd) | exact HB.out)⟩⟩
             ·rw [if_neg c91] at H
              have c91b0 : ((rd t497 x11_3) == (wrap64 (2 * (rd t491 x11_3)))) = false := beq_eq_false_iff_ne.mpr c91
              have c91b1 : ((rd t497 x11_3) != (wrap64 (2 * (rd t491 x11_3)))) = true := bne_iff_ne.mpr c91
              obtain rfl := Option.some.inj H
              obtain ⟨Ao95, co95, eo95⟩ := Kd.zka HO_9.out
              subst eo95
              try go_wp2
              have n0_ := za.mk (Kd.zm HO_3.out)
              have n1_ := za.mk (Kd.zm HO_5.out)
              have n2_ := za.mk (Kd.zm HO_9.out)
              have n3_ := za.mk (Kd.zm HO_10.out)
              have n4_ := za.mk (zd HB.out)
              clear HO_3
              clear HO_5
              clear HO_9
              clear HO_10
              clear HB
              have HO_3 := n0_
              have HO_5 := n1_
              have HO_9 := n2_
              have HO_10 := n3_
              have HB := n4_
              clear n0_ n1_ n2_ n3_ n4_
              obtain ⟨Ao97, co97, eo97⟩ := Kd.zka HO_10.out
              (first | subst eo97 | (injection eo97 with f1_ f2_ f3_; have f4_ := f1_.symm; have f5_ := f3_.symm; clear f1_ f2_ f3_; subst f4_; subst f5_))
              have p500 : 0 ≤ (x11_3 : Int) := of_decide_eq_true (by assumption)
              have q500 : x11_3 < (t497.length : Int) := of_decide_eq_true (by assumption)
              obtain ⟨ad500, e500, hx500_0⟩ := Kd.zta (Kd.zw HO_10.out).2.2 x11_3 p500 q500
              cases e500
              replace p500 := eq_true p500
              replace q500 := eq_true q500
              have p501 : 0 ≤ (x11_3 : Int) := of_decide_eq_true (by assumption)
              have q501 : x11_3 < (t491.length : Int) := of_decide_eq_true (by assumption)
              obtain ⟨ad501, e501, hx501_0⟩ := Kd.zta (Kd.zw HO_9.out).2.2 x11_3 p501 q501
              cases e501
              replace p501 := eq_true p501
              replace q501 := eq_true q501
              refine zcc (n := 10) (S := fun w' => w'.cell? (ad500.add (x11_3).toNat) = some (.int .i64 (rd t497 x11_3)) ∧ w'.cell? (ad501.add (x11_3).toNat) = some (.int .i64 (rd t491 x11_3))) (ds := []) #[F_,F_,F_,F_,F_,F_,F_,F_,F_,F_] (by kernel_rfl) rfl rfl ⟨hx500_0, hx501_0⟩ (fun hHeld => ?_); refine zdb laws_FnWides.tab18 laws_FnWides.bits18 (fun HT_ HW_ => ?_)
              generalize wr.drew = w96 at HO_3 HO_5 HO_9 HO_10 HB hx500_0 hx501_0 hHeld ⊢
              refine zu (i := 0) (N := some 100) (v := ?_) (a' := ?_) #[T_,F_,F_,F_,F_,F_,F_,F_,F_,F_] rfl rfl (zp HT_.out (by kernel_rfl)) (fun _ _ _ h => h) (Or.inl ⟨by rfl, ?_⟩) ?_ ?_
              rotate_left
              ·intro w'
               go_simp
               with_reducible rfl
              rotate_left
              ·simp only [zpa,zpb,zpc,zpd,zpe,zk,zl]
               rfl
              refine zu (i := 1) (N := some 101) (v := ?_) (a' := ?_) #[T_,T_,F_,F_,F_,F_,F_,F_,F_,F_] rfl rfl (zp HT_.out (by kernel_rfl)) (fun _ _ _ h => h) (Or.inl ⟨by rfl, ?_⟩) ?_ ?_
              rotate_left
              ·intro w'
               go_simp
               with_reducible rfl
              rotate_left
              ·simp only [zpa,zpb,zpc,zpd,zpe,zk,zl]
               rfl
              refine zu (i := 2) (N := some 102) (v := ?_) (a' := ?_) #[T_,T_,T_,F_,F_,F_,F_,F_,F_,F_] rfl rfl (zp HT_.out (by kernel_rfl)) (fun _ _ _ h => h) (Or.inl ⟨by rfl, ?_⟩) ?_ ?_
              rotate_left
              ·intro w'
               go_simp
               with_reducible rfl
              rotate_left
              ·simp only [zpa,zpb,zpc,zpd,zpe,zk,zl]
               rfl
              refine zu (i := 4) (N := some 104) (v := ?_) (a' := ?_) #[T_,T_,T_,F_,T_,F_,F_,F_,F_,F_] rfl rfl (zp HT_.out (by kernel_rfl)) (fun _ _ _ h => h) (Or.inl ⟨by rfl, ?_⟩) ?_ ?_
              rotate_left
              ·intro w'
               go_simp
               with_reducible rfl
              rotate_left
              ·simp only [zpa,zpb,zpc,zpd,zpe,zk,zl]
               rfl
              refine zu (i := 5) (N := some 105) (v := ?_) (a' := ?_) #[T_,T_,T_,F_,T_,T_,F_,F_,F_,F_] rfl rfl (zp HT_.out (by kernel_rfl)) (fun _ _ _ h => h) (Or.inl ⟨by rfl, ?_⟩) ?_ ?_
              rotate_left
              ·intro w'
               go_simp
               with_reducible rfl
              rotate_left
              ·simp only [zpa,zpb,zpc,zpd,zpe,zk,zl]
               rfl
              refine zu (i := 6) (N := some 106) (v := ?_) (a' := ?_) #[T_,T_,T_,F_,T_,T_,T_,F_,F_,F_] rfl rfl (zp HT_.out (by kernel_rfl)) (fun _ _ _ h => h) (Or.inl ⟨by rfl, ?_⟩) ?_ ?_
              rotate_left
              ·intro w'
               go_simp
               with_reducible rfl
              rotate_left
              ·simp only [zpa,zpb,zpc,zpd,zpe,zk,zl]
               rfl
              refine zrb (i := 3) (N := some 103) (v := ?_) (a' := ?_) #[T_,T_,T_,T_,T_,T_,T_,F_,F_,F_] rfl rfl (zwa HT_.out HW_.out (by kernel_rfl)) (fun _ _ _ h => h) (Or.inl ⟨by rfl, ?_⟩) hHeld ?_ ?_
              rotate_left
              ·rintro w' ⟨s0, s1⟩
               go_simp
               with_reducible rfl
              rotate_left
              ·simp only [zpa,zpb,zpc,zpd,zpe,zk,zl]
               rfl
              refine zrb (i := 7) (N := some 107) (v := ?_) (a' := ?_) #[T_,T_,T_,T_,T_,T_,T_,T_,F_,F_] rfl rfl (zwa HT_.out HW_.out (by kernel_rfl)) (fun _ _ _ h => h) (Or.inl ⟨by rfl, ?_⟩) hHeld ?_ ?_
              rotate_left
              ·rintro w' ⟨s0, s1⟩
               go_simp
               with_reducible rfl
              rotate_left
              ·simp only [zpa,zpb,zpc,zpd,zpe,zk,zl]
               rfl
              refine zu (i := 8) (N := some 108) (v := ?_) (a' := ?_) #[T_,T_,T_,T_,T_,T_,T_,T_,T_,F_] rfl rfl (zp HT_.out (by kernel_rfl)) (fun _ _ _ h => h) (Or.inl ⟨by rfl, ?_⟩) ?_ ?_
              rotate_left
              ·intro w'
               go_simp
               with_reducible rfl
              rotate_left
              ·simp only [zpa,zpb,zpc,zpd,zpe,zk,zl]
               rfl
              refine zu (i := 9) (N := some 109) (v := ?_) (a' := ?_) #[T_,T_,T_,T_,T_,T_,T_,T_,T_,T_] rfl rfl (zp HT_.out (by kernel_rfl)) (fun _ _ _ h => h) (Or.inl ⟨by rfl, ?_⟩) ?_ ?_
              rotate_left
              ·intro w'
               go_simp
               with_reducible rfl
              rotate_left
              ·simp only [zpa,zpb,zpc,zpd,zpe,zk,zl]
               rfl
              refine done_ (zxb HT_.out (by kernel_rfl)) ?_
              try go_wp2
              go_ret
              exact ⟨by first | rfl | (simp [zi, zj] <;> rfl) | (simp [*, zi, zj] <;> rfl), by repeat (first | (with_reducible first | exact HB.out | apply ze | apply zb | apply zd) | exact HB.out)⟩
            ·rw [if_neg c90] at H
             exact absurd H (by simp)
           ·rw [if_neg c89] at H
            exact absurd H (by simp)
          ·rw [if_neg c88] at H
           have c88b0 : decide (x11_3 < (t491.length : Int)) = false := decide_eq_false c88
           clear c88
           obtain rfl := Option.some.inj H
           obtain ⟨Ao98, co98, eo98⟩ := Kd.zka HO_9.out
           subst eo98
           go_wp2
           go_ret
           exact ⟨by first | rfl | (simp [zi, zj] <;> rfl) | (simp [*, zi, zj] <;> rfl), by repeat (first | (with_reducible first | exact HB.out | apply ze | apply zb | apply zd) | exact HB.out)⟩
def laws_FnWides.Pure : Prop := ∀ (l0 : List Int), l0.length ≤ maxLen → l0.length * 1 ≤ 140737488351232 → (∀ x ∈ l0, (Lit.int .u8 x).wf = true) → ∃ k, laws_FnWides.f k l0 = some true
theorem laws_FnWides.walk (P : laws_FnWides.Pure) (a0 : Option Addr) (len0 cap0 : Nat) (z0 : List Int) (w : World) (w0 : (a0 = none ∧ len0 = 0 ∧ cap0 = 0 ∧ z0 = []) ∨ ∃ x, a0 = some x ∧ len0 ≤ cap0 ∧ cap0 ≤ maxLen ∧ z0.length = cap0 ∧ (∀ i, i < z0.length → w.cell? (x.add i) = some (.int .u8 (z0.getD i 0))) ∧ ∀ n ∈ z0, (Lit.int .u8 n).wf = true) (y0 : len0 * 1 ≤ 140737488351232) :
  Calls Try.prog 4 #[.slice a0 len0 cap0] w fun e w' => e = .returned (.bool true) ∧ Below w.heap.size w w' := by
 obtain ⟨l0, rfl, hr0, hm0, hw0, hc0⟩ := zhb.ofRowC w0
 obtain ⟨k, h⟩ := P l0 hm0 y0 hw0
 refine (laws_FnWides.calls k _ _ l0 true w (Kd.C_of_reads (d := (0 : Int)) (h1 := fun _ => rfl) hr0) hc0 h).mono ?_
 rintro e w' ⟨rfl, hd⟩
 exact ⟨rfl, hd⟩
end Go.Proofs.Ytmjhdgofepdgkaa.PFnWides
