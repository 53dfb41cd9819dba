-- Written by a program of this session (wip/tools) out of the translation; its shape is that of the kit print.
import Derived.Test.YtkapjhlcmicpnaaPFnLevelPlainx0
import Derived.Test.YtkapjhlcmicpnaaPFnLevelPlainx3
import Derived.Test.YtkapjhlcmicpnaaPFnLevelPlainx4
import Derived.Test.YtkapjhlcmicpnaaPFnLevelPlainx9
namespace Go.Proofs.Ytkapjhlcmicpnaa.PFnLevelPlain
open Go.RowKit Go.Proofs.YtkapjhlcmicpnaaW.PrintWords Go.Proofs.YtkapjhlcmicpnaaW.PrintLast Go.Proofs.YtkapjhlcmicpnaaW.PrintMore
attribute [local go_sem] max2_int min2_int max_two min_two max_three min_three max_four min_four   -- for this text's walks alone
set_option linter.unusedVariables false
set_option linter.unusedSimpArgs false

/-! ### laws_FnLevelPlain: function 4 -/
mutual
def laws_FnLevelPlain.j0 : Nat → List Int → Int → Int → Int → List Int → Bool → Option (Bool)
  | 0, _, _, _, _, _, _ => none
  | k + 1, x3, x4, x5, x6, x7, x37 => if x37 = true then ((spec_LevelPlain.f k x3 x4 x5 x6).bind fun t282 => ((laws_wcInts.f k x7 t282).bind fun t285 => (some t285))) else (laws_FnLevelPlain.l0 k x3 x4 x5 x6 x7 0)
def laws_FnLevelPlain.l0 : Nat → List Int → Int → Int → Int → List Int → Int → Option (Bool)
  | 0, _, _, _, _, _, _ => none
  | k + 1, x3, x4, x5, x6, x7, x8 => if x8 < (x3.length : Int) then (if 0 ≤ x8 then ((laws_wcIn.f (rd x3 x8) 11 13).bind fun t291 => (if t291 = true then (laws_FnLevelPlain.j2 k x3 x4 x5 x6 x7 x8 true) else (laws_FnLevelPlain.j2 k x3 x4 x5 x6 x7 x8 (decide ((rd x3 x8) ≥ 19))))) else (none)) else ((impl_LevelPlain.f x7 x4 x5 x6).bind fun t286 => ((laws_wcInts.f k t286 x7).bind fun t289 => (some t289)))
def laws_FnLevelPlain.j2 : Nat → List Int → Int → Int → Int → List Int → Int → Bool → Option (Bool)
  | 0, _, _, _, _, _, _, _ => none
  | k + 1, x3, x4, x5, x6, x7, x8, x9 => if x9 = true then (if 0 ≤ x8 then (if x8 < (x7.length : Int) then (if (rd x7 x8) = 1 then (laws_FnLevelPlain.j3 k x3 x4 x5 x6 x7 x8 x9 false) else (if (rd x7 x8) = 2 then (laws_FnLevelPlain.j3 k x3 x4 x5 x6 x7 x8 x9 false) else (laws_FnLevelPlain.j3 k x3 x4 x5 x6 x7 x8 x9 true))) else (none)) else (none)) else (if 0 ≤ x8 then (if x8 < (x7.length : Int) then (if x8 < (x3.length : Int) then (laws_FnLevelPlain.j3 k x3 x4 x5 x6 x7 x8 x9 ((rd x7 x8) != (rd x3 x8))) else (none)) else (none)) else (none))
def laws_FnLevelPlain.j3 : Nat → List Int → Int → Int → Int → List Int → Int → Bool → Bool → Option (Bool)
  | 0, _, _, _, _, _, _, _, _ => none
  | k + 1, x3, x4, x5, x6, x7, x8, x9, x92 => if x92 = true then (some false) else (if x9 = true then (if x8 > 0 then (if (wrap64 (x8 + 1)) < (x3.length : Int) then (if 0 ≤ (wrap64 (x8 - 1)) then (if (wrap64 (x8 - 1)) < (x3.length : Int) then (if 0 ≤ (wrap64 (x8 + 1)) then (if (rd x3 (wrap64 (x8 - 1))) = (rd x3 (wrap64 (x8 + 1))) then (if (rd x3 (wrap64 (x8 - 1))) = 1 then (if 0 ≤ x8 then (if x8 < (x7.length : Int) then (if (rd x7 x8) = (rd x3 (wrap64 (x8 - 1))) then (laws_FnLevelPlain.l0 k x3 x4 x5 x6 x7 (wrap64 (x8 + 1))) else (some false)) else (none)) else (none)) else (if (rd x3 (wrap64 (x8 - 1))) = 2 then (if 0 ≤ x8 then (if x8 < (x7.length : Int) then (if (rd x7 x8) = (rd x3 (wrap64 (x8 - 1))) then (laws_FnLevelPlain.l0 k x3 x4 x5 x6 x7 (wrap64 (x8 + 1))) else (some false)) else (none)) else (none)) else (laws_FnLevelPlain.l0 k x3 x4 x5 x6 x7 (wrap64 (x8 + 1))))) else (laws_FnLevelPlain.l0 k x3 x4 x5 x6 x7 (wrap64 (x8 + 1)))) else (none)) else (none)) else (none)) else (laws_FnLevelPlain.l0 k x3 x4 x5 x6 x7 (wrap64 (x8 + 1)))) else (laws_FnLevelPlain.l0 k x3 x4 x5 x6 x7 (wrap64 (x8 + 1)))) else (laws_FnLevelPlain.l0 k x3 x4 x5 x6 x7 (wrap64 (x8 + 1))))
end
def laws_FnLevelPlain.f (k : Nat) (l0 : List Int) : Option (Bool) := if (l0.length : Int) > 1048576 then (some true) else ((spec_DrawLevelPlain.f k l0).bind fun bt269 => ((impl_LevelPlain.f bt269.1 bt269.2.1 bt269.2.2.1 bt269.2.2.2).bind fun t275 => ((spec_LevelPlain.f k bt269.1 bt269.2.1 bt269.2.2.1 bt269.2.2.2).bind fun t278 => ((laws_wcInts.f k t275 t278).bind fun t281 => (if t281 = true then (laws_FnLevelPlain.j0 k bt269.1 bt269.2.1 bt269.2.2.1 bt269.2.2.2 t275 ((t275.length : Int) == 0)) else (laws_FnLevelPlain.j0 k bt269.1 bt269.2.1 bt269.2.2.1 bt269.2.2.2 t275 true))))))
theorem laws_FnLevelPlain.mono_l : ∀ k, (∀ y0 y1 y2 y3 y4 y5, LeO (laws_FnLevelPlain.j0 k y0 y1 y2 y3 y4 y5) (laws_FnLevelPlain.j0 (k + 1) y0 y1 y2 y3 y4 y5)) ∧ (∀ y0 y1 y2 y3 y4 y5, LeO (laws_FnLevelPlain.l0 k y0 y1 y2 y3 y4 y5) (laws_FnLevelPlain.l0 (k + 1) y0 y1 y2 y3 y4 y5)) ∧ (∀ y0 y1 y2 y3 y4 y5 y6, LeO (laws_FnLevelPlain.j2 k y0 y1 y2 y3 y4 y5 y6) (laws_FnLevelPlain.j2 (k + 1) y0 y1 y2 y3 y4 y5 y6)) ∧ (∀ y0 y1 y2 y3 y4 y5 y6 y7, LeO (laws_FnLevelPlain.j3 k y0 y1 y2 y3 y4 y5 y6 y7) (laws_FnLevelPlain.j3 (k + 1) y0 y1 y2 y3 y4 y5 y6 y7))
  | 0 => ⟨fun _ _ _ _ _ _ r h => by simp [laws_FnLevelPlain.j0] at h, fun _ _ _ _ _ _ r h => by simp [laws_FnLevelPlain.l0] at h, fun _ _ _ _ _ _ _ r h => by simp [laws_FnLevelPlain.j2] at h, fun _ _ _ _ _ _ _ _ r h => by simp [laws_FnLevelPlain.j3] at h⟩
  | k + 1 => by
    obtain ⟨ih0, ih1, ih2, ih3⟩ := laws_FnLevelPlain.mono_l k
    refine ⟨?_, ?_, ?_, ?_⟩
    · intro y0 y1 y2 y3 y4 y5
      unfold laws_FnLevelPlain.j0
      repeat' first
      | (with_reducible exact ih0 _ _ _ _ _ _)
      | (with_reducible exact ih1 _ _ _ _ _ _)
      | (with_reducible exact ih2 _ _ _ _ _ _ _)
      | (with_reducible exact ih3 _ _ _ _ _ _ _ _)
      | (with_reducible exact laws_wcInts.mono _ _ _)
      | (with_reducible exact spec_DrawLevelPlain.mono _ _)
      | (with_reducible exact spec_LevelPlain.mono _ _ _ _ _)
      | (with_reducible exact LeO.refl _)
      | (with_reducible exact LeO.none _)
      | (with_reducible refine LeO.ite ?_ ?_)
      | (with_reducible refine LeO.bind ?_ (fun _ => ?_))
      | exact ih0 _ _ _ _ _ _
      | exact ih1 _ _ _ _ _ _
      | exact ih2 _ _ _ _ _ _ _
      | exact ih3 _ _ _ _ _ _ _ _
      | exact laws_wcInts.mono _ _ _
      | exact spec_DrawLevelPlain.mono _ _
      | exact spec_LevelPlain.mono _ _ _ _ _
      | exact LeO.none _
      | refine LeO.ite ?_ ?_
      | refine LeO.bind ?_ (fun _ => ?_)
    · intro y0 y1 y2 y3 y4 y5
      unfold laws_FnLevelPlain.l0
      repeat' first
      | (with_reducible exact ih0 _ _ _ _ _ _)
      | (with_reducible exact ih1 _ _ _ _ _ _)
      | (with_reducible exact ih2 _ _ _ _ _ _ _)
      | (with_reducible exact ih3 _ _ _ _ _ _ _ _)
      | (with_reducible exact laws_wcInts.mono _ _ _)
      | (with_reducible exact spec_DrawLevelPlain.mono _ _)
      | (with_reducible exact spec_LevelPlain.mono _ _ _ _ _)
      | (with_reducible exact LeO.refl _)
      | (with_reducible exact LeO.none _)
      | (with_reducible refine LeO.ite ?_ ?_)
      | (with_reducible refine LeO.bind ?_ (fun _ => ?_))
      | exact ih0 _ _ _ _ _ _
      | exact ih1 _ _ _ _ _ _
      | exact ih2 _ _ _ _ _ _ _
      | exact ih3 _ _ _ _ _ _ _ _
      | exact laws_wcInts.mono _ _ _
      | exact spec_DrawLevelPlain.mono _ _
      | exact spec_LevelPlain.mono _ _ _ _ _
      | exact LeO.none _
      | refine LeO.ite ?_ ?_
      | refine LeO.bind ?_ (fun _ => ?_)
    · intro y0 y1 y2 y3 y4 y5 y6
      unfold laws_FnLevelPlain.j2
      repeat' first
      | (with_reducible exact ih0 _ _ _ _ _ _)
      | (with_reducible exact ih1 _ _ _ _ _ _)
      | (with_reducible exact ih2 _ _ _ _ _ _ _)
      | (with_reducible exact ih3 _ _ _ _ _ _ _ _)
      | (with_reducible exact laws_wcInts.mono _ _ _)
      | (with_reducible exact spec_DrawLevelPlain.mono _ _)
      | (with_reducible exact spec_LevelPlain.mono _ _ _ _ _)
      | (with_reducible exact LeO.refl _)
      | (with_reducible exact LeO.none _)
      | (with_reducible refine LeO.ite ?_ ?_)
      | (with_reducible refine LeO.bind ?_ (fun _ => ?_))
      | exact ih0 _ _ _ _ _ _
      | exact ih1 _ _ _ _ _ _
      | exact ih2 _ _ _ _ _ _ _
      | exact ih3 _ _ _ _ _ _ _ _
      | exact laws_wcInts.mono _ _ _
      | exact spec_DrawLevelPlain.mono _ _
      | exact spec_LevelPlain.mono _ _ _ _ _
      | exact LeO.none _
      | refine LeO.ite ?_ ?_
      | refine LeO.bind ?_ (fun _ => ?_)
    · intro y0 y1 y2 y3 y4 y5 y6 y7
      unfold laws_FnLevelPlain.j3
      repeat' first
      | (with_reducible exact ih0 _ _ _ _ _ _)
      | (with_reducible exact ih1 _ _ _ _ _ _)
      | (with_reducible exact ih2 _ _ _ _ _ _ _)
      | (with_reducible exact ih3 _ _ _ _ _ _ _ _)
      | (with_reducible exact laws_wcInts.mono _ _ _)
      | (with_reducible exact spec_DrawLevelPlain.mono _ _)
      | (with_reducible exact spec_LevelPlain.mono _ _ _ _ _)
      | (with_reducible exact LeO.refl _)
      | (with_reducible exact LeO.none _)
      | (with_reducible refine LeO.ite ?_ ?_)
      | (with_reducible refine LeO.bind ?_ (fun _ => ?_))
      | exact ih0 _ _ _ _ _ _
      | exact ih1 _ _ _ _ _ _
      | exact ih2 _ _ _ _ _ _ _
      | exact ih3 _ _ _ _ _ _ _ _
      | exact laws_wcInts.mono _ _ _
      | exact spec_DrawLevelPlain.mono _ _
      | exact spec_LevelPlain.mono _ _ _ _ _
      | exact LeO.none _
      | refine LeO.ite ?_ ?_
      | refine LeO.bind ?_ (fun _ => ?_)
theorem laws_FnLevelPlain.mono : ∀ a0 k, LeO (laws_FnLevelPlain.f k a0) (laws_FnLevelPlain.f (k + 1) a0) := by
  intro a0 k
  obtain ⟨ih0, ih1, ih2, ih3⟩ := laws_FnLevelPlain.mono_l k
  unfold laws_FnLevelPlain.f
  repeat' first
      | (with_reducible exact ih0 _ _ _ _ _ _)
      | (with_reducible exact ih1 _ _ _ _ _ _)
      | (with_reducible exact ih2 _ _ _ _ _ _ _)
      | (with_reducible exact ih3 _ _ _ _ _ _ _ _)
      | (with_reducible exact laws_wcInts.mono _ _ _)
      | (with_reducible exact spec_DrawLevelPlain.mono _ _)
      | (with_reducible exact spec_LevelPlain.mono _ _ _ _ _)
      | (with_reducible exact LeO.refl _)
      | (with_reducible exact LeO.none _)
      | (with_reducible refine LeO.ite ?_ ?_)
      | (with_reducible refine LeO.bind ?_ (fun _ => ?_))
      | exact ih0 _ _ _ _ _ _
      | exact ih1 _ _ _ _ _ _
      | exact ih2 _ _ _ _ _ _ _
      | exact ih3 _ _ _ _ _ _ _ _
      | exact laws_wcInts.mono _ _ _
      | exact spec_DrawLevelPlain.mono _ _
      | exact spec_LevelPlain.mono _ _ _ _ _
      | exact LeO.none _
      | refine LeO.ite ?_ ?_
      | refine LeO.bind ?_ (fun _ => ?_)
set_option maxHeartbeats 8000000 in
set_option maxRecDepth 100000 in
theorem laws_FnLevelPlain.calls (k : Nat) (A0 : Option Addr) (c0 : Nat) (l0 : List Int) (r : Bool) (w : World) (hr0 : Kd.C (Kd.int .u8) w A0 l0.length l0) (hc0 : l0.length ≤ c0) (h : laws_FnLevelPlain.f k l0 = some r) :
    Calls Try.prog 4 #[.slice A0 l0.length c0] w fun e w' => e = .returned (.bool r) ∧ Below w.heap.size w w' := by
  have HR0 := Aside0.mk hr0
  have HC0 := Aside0.mk hc0
  clear hr0 hc0
  have HB := Aside0.mk (Below.refl w.heap.size w)
  have H : (if (l0.length : Int) > 1048576 then (some true) else ((spec_DrawLevelPlain.f k l0).bind fun bt269 => ((impl_LevelPlain.f bt269.1 bt269.2.1 bt269.2.2.1 bt269.2.2.2).bind fun t275 => ((spec_LevelPlain.f k bt269.1 bt269.2.1 bt269.2.2.1 bt269.2.2.2).bind fun t278 => ((laws_wcInts.f k t275 t278).bind fun t281 => (if t281 = true then (laws_FnLevelPlain.j0 k bt269.1 bt269.2.1 bt269.2.2.1 bt269.2.2.2 t275 ((t275.length : Int) == 0)) else (laws_FnLevelPlain.j0 k bt269.1 bt269.2.1 bt269.2.2.1 bt269.2.2.2 t275 true))))))) = some r := h
  clear h
  by_cases c2 : (l0.length : Int) > 1048576
  · rw [if_pos c2] at H
    have c2b0 : decide (1048576 < (l0.length : Int)) = true := decide_eq_true c2
    have c2b1 : decide (1048576 < l0.length) = true := decide_eq_true (by omega)
    clear c2
    obtain rfl := Option.some.inj H
    go_enter Try.func4, Try.ntmps4
    go_wp2
    repeat (go_quiet (fail); try go_wp2)
    go_ret
    exact ⟨by first | rfl | (simp [errW_none, errW_some] <;> rfl) | (simp [*, errW_none, errW_some] <;> rfl), by repeat (first | (with_reducible first | exact HB.out | apply below_alloc | apply pw_below_drewN | apply below_drew1) | exact HB.out)⟩
  · rw [if_neg c2] at H
    have c2b0 : decide (1048576 < (l0.length : Int)) = false := decide_eq_false c2
    have c2b1 : decide (1048576 < l0.length) = false := decide_eq_false (by omega)
    clear c2
    replace H := Option.bind_eq_some_iff.mp H
    obtain ⟨⟨t269, t270, t271, t272⟩, A30, H⟩ := H
    replace H : ((impl_LevelPlain.f t269 t270 t271 t272).bind fun t275 => ((spec_LevelPlain.f k t269 t270 t271 t272).bind fun t278 => ((laws_wcInts.f k t275 t278).bind fun t281 => (if t281 = true then (laws_FnLevelPlain.j0 k t269 t270 t271 t272 t275 ((t275.length : Int) == 0)) else (laws_FnLevelPlain.j0 k t269 t270 t271 t272 t275 true))))) = some r := H
    have A3 := Aside0.mk A30
    clear A30
    replace H := Option.bind_eq_some_iff.mp H
    obtain ⟨t275, A40, H⟩ := H
    replace H : ((spec_LevelPlain.f k t269 t270 t271 t272).bind fun t278 => ((laws_wcInts.f k t275 t278).bind fun t281 => (if t281 = true then (laws_FnLevelPlain.j0 k t269 t270 t271 t272 t275 ((t275.length : Int) == 0)) else (laws_FnLevelPlain.j0 k t269 t270 t271 t272 t275 true)))) = some r := H
    have A4 := Aside0.mk A40
    clear A40
    have HC5 := Aside0.mk H
    clear H
    go_enter Try.func4, Try.ntmps4
    go_upto_region 5 with (first | (go_at_call 19; (with_reducible refine (spec_DrawLevelPlain.calls k _ _ l0 t269 t270 t271 t272 _ ?side1 ?side2 A3.out).mono ?_); (case side1 => repeat (first | exact HR0.out | (with_reducible refine Kd.C_alloc ?_ _) | (with_reducible refine Kd.C_drewN ?_ _) | (with_reducible refine Kd.C_drew ?_))); (case side2 => exact HC0.out); rintro e w6 ⟨v273, rfl, ho0, hb⟩; have n0_ := Aside0.mk (Kd.R_lower ho0 (below_size (by repeat (first | (with_reducible first | exact HB.out | apply below_alloc | apply pw_below_drewN | apply below_drew1) | exact HB.out)))); have n1_ := Aside0.mk (below_step (by repeat (first | (with_reducible first | exact HB.out | apply below_alloc | apply pw_below_drewN | apply below_drew1) | exact HB.out)) hb); clear HB; have HO274 := n0_; have HB := n1_; clear n0_ n1_; (try clear hb); (try clear hb2); (try clear hk); (try clear hi); (try clear ho0); obtain ⟨Ao7, co7, eo7⟩ := Kd.R_slice HO274.out; subst eo7) | (go_at_call 15; (with_reducible refine (impl_LevelPlain.calls _ _ t269 t270 t271 t272 t275 _ ?side1 ?side2 A4.out).mono ?_); (case side1 => repeat (first | exact (Kd.R_reads' HO274.out).2.2 | (with_reducible refine Kd.C_alloc ?_ _) | (with_reducible refine Kd.C_drewN ?_ _) | (with_reducible refine Kd.C_drew ?_))); (case side2 => exact (Kd.R_reads' HO274.out).2.1); rintro e w8 ⟨v276, rfl, ho0, hb⟩; have n0_ := Aside0.mk (Kd.R_elder' (by (with_reducible repeat (first | apply Kd.R_alloc | apply Kd.R_drewN | apply Kd.R_drew)); exact HO274.out) (Kd.R_base ho0) hb); have n1_ := Aside0.mk (Kd.R_lower (Kd.R_new' ho0 (Kd.R_lt (by (with_reducible repeat (first | apply Kd.R_alloc | apply Kd.R_drewN | apply Kd.R_drew)); exact HO274.out))) (below_size (by repeat (first | (with_reducible first | exact HB.out | apply below_alloc | apply pw_below_drewN | apply below_drew1) | exact HB.out)))); have n2_ := Aside0.mk (below_step (by repeat (first | (with_reducible first | exact HB.out | apply below_alloc | apply pw_below_drewN | apply below_drew1) | exact HB.out)) hb); clear HO274; clear HB; have HO274 := n0_; have HO277 := n1_; have HB := n2_; clear n0_ n1_ n2_; (try clear hb); (try clear hb2); (try clear hk); (try clear hi); (try clear ho0)))
    repeat (go_quiet (first | (go_at_call 19; (with_reducible refine (spec_DrawLevelPlain.calls k _ _ l0 t269 t270 t271 t272 _ ?side1 ?side2 A3.out).mono ?_); (case side1 => repeat (first | exact HR0.out | (with_reducible refine Kd.C_alloc ?_ _) | (with_reducible refine Kd.C_drewN ?_ _) | (with_reducible refine Kd.C_drew ?_))); (case side2 => exact HC0.out); rintro e w6 ⟨v273, rfl, ho0, hb⟩; have n0_ := Aside0.mk (Kd.R_lower ho0 (below_size (by repeat (first | (with_reducible first | exact HB.out | apply below_alloc | apply pw_below_drewN | apply below_drew1) | exact HB.out)))); have n1_ := Aside0.mk (below_step (by repeat (first | (with_reducible first | exact HB.out | apply below_alloc | apply pw_below_drewN | apply below_drew1) | exact HB.out)) hb); clear HB; have HO274 := n0_; have HB := n1_; clear n0_ n1_; (try clear hb); (try clear hb2); (try clear hk); (try clear hi); (try clear ho0); obtain ⟨Ao7, co7, eo7⟩ := Kd.R_slice HO274.out; subst eo7) | (go_at_call 15; (with_reducible refine (impl_LevelPlain.calls _ _ t269 t270 t271 t272 t275 _ ?side1 ?side2 A4.out).mono ?_); (case side1 => repeat (first | exact (Kd.R_reads' HO274.out).2.2 | (with_reducible refine Kd.C_alloc ?_ _) | (with_reducible refine Kd.C_drewN ?_ _) | (with_reducible refine Kd.C_drew ?_))); (case side2 => exact (Kd.R_reads' HO274.out).2.1); rintro e w8 ⟨v276, rfl, ho0, hb⟩; have n0_ := Aside0.mk (Kd.R_elder' (by (with_reducible repeat (first | apply Kd.R_alloc | apply Kd.R_drewN | apply Kd.R_drew)); exact HO274.out) (Kd.R_base ho0) hb); have n1_ := Aside0.mk (Kd.R_lower (Kd.R_new' ho0 (Kd.R_lt (by (with_reducible repeat (first | apply Kd.R_alloc | apply Kd.R_drewN | apply Kd.R_drew)); exact HO274.out))) (below_size (by repeat (first | (with_reducible first | exact HB.out | apply below_alloc | apply pw_below_drewN | apply below_drew1) | exact HB.out)))); have n2_ := Aside0.mk (below_step (by repeat (first | (with_reducible first | exact HB.out | apply below_alloc | apply pw_below_drewN | apply below_drew1) | exact HB.out)) hb); clear HO274; clear HB; have HO274 := n0_; have HO277 := n1_; have HB := n2_; clear n0_ n1_ n2_; (try clear hb); (try clear hb2); (try clear hk); (try clear hi); (try clear ho0))); go_upto_region 5 with (first | (go_at_call 19; (with_reducible refine (spec_DrawLevelPlain.calls k _ _ l0 t269 t270 t271 t272 _ ?side1 ?side2 A3.out).mono ?_); (case side1 => repeat (first | exact HR0.out | (with_reducible refine Kd.C_alloc ?_ _) | (with_reducible refine Kd.C_drewN ?_ _) | (with_reducible refine Kd.C_drew ?_))); (case side2 => exact HC0.out); rintro e w6 ⟨v273, rfl, ho0, hb⟩; have n0_ := Aside0.mk (Kd.R_lower ho0 (below_size (by repeat (first | (with_reducible first | exact HB.out | apply below_alloc | apply pw_below_drewN | apply below_drew1) | exact HB.out)))); have n1_ := Aside0.mk (below_step (by repeat (first | (with_reducible first | exact HB.out | apply below_alloc | apply pw_below_drewN | apply below_drew1) | exact HB.out)) hb); clear HB; have HO274 := n0_; have HB := n1_; clear n0_ n1_; (try clear hb); (try clear hb2); (try clear hk); (try clear hi); (try clear ho0); obtain ⟨Ao7, co7, eo7⟩ := Kd.R_slice HO274.out; subst eo7) | (go_at_call 15; (with_reducible refine (impl_LevelPlain.calls _ _ t269 t270 t271 t272 t275 _ ?side1 ?side2 A4.out).mono ?_); (case side1 => repeat (first | exact (Kd.R_reads' HO274.out).2.2 | (with_reducible refine Kd.C_alloc ?_ _) | (with_reducible refine Kd.C_drewN ?_ _) | (with_reducible refine Kd.C_drew ?_))); (case side2 => exact (Kd.R_reads' HO274.out).2.1); rintro e w8 ⟨v276, rfl, ho0, hb⟩; have n0_ := Aside0.mk (Kd.R_elder' (by (with_reducible repeat (first | apply Kd.R_alloc | apply Kd.R_drewN | apply Kd.R_drew)); exact HO274.out) (Kd.R_base ho0) hb); have n1_ := Aside0.mk (Kd.R_lower (Kd.R_new' ho0 (Kd.R_lt (by (with_reducible repeat (first | apply Kd.R_alloc | apply Kd.R_drewN | apply Kd.R_drew)); exact HO274.out))) (below_size (by repeat (first | (with_reducible first | exact HB.out | apply below_alloc | apply pw_below_drewN | apply below_drew1) | exact HB.out)))); have n2_ := Aside0.mk (below_step (by repeat (first | (with_reducible first | exact HB.out | apply below_alloc | apply pw_below_drewN | apply below_drew1) | exact HB.out)) hb); clear HO274; clear HB; have HO274 := n0_; have HO277 := n1_; have HB := n2_; clear n0_ n1_ n2_; (try clear hb); (try clear hb2); (try clear hk); (try clear hi); (try clear ho0))))
    (try simp only [Act.put, List.setIfInBounds_toArray, List.set_cons_zero, List.set_cons_succ])
    go_cut [37] (fun v37 wc => ∃ (kq : Nat) (x37_4 : Bool), v37 = .bool x37_4 ∧ Aside0 (laws_FnLevelPlain.j0 kq t269 t270 t271 t272 t275 x37_4 = some r) ∧ Aside0 (kq ≤ k) ∧ Aside0 (Kd.R (Kd.int .i64) 3 wc w.heap.size (fun k_ => some k_ ≠ (v276 : Value).ownBlock) (.slice Ao7 t269.length co7) t269) ∧ Aside0 (Kd.R (Kd.int .i64) 3 wc w.heap.size (fun k_ => some k_ ≠ ((.slice Ao7 t269.length co7) : Value).ownBlock) v276 t275) ∧ Aside0 (Below w.heap.size w wc))
    case first =>
      have H := HC5.out
      clear HC5
      replace H := Option.bind_eq_some_iff.mp H
      obtain ⟨t278, A90, H⟩ := H
      replace H : ((laws_wcInts.f k t275 t278).bind fun t281 => (if t281 = true then (laws_FnLevelPlain.j0 k t269 t270 t271 t272 t275 ((t275.length : Int) == 0)) else (laws_FnLevelPlain.j0 k t269 t270 t271 t272 t275 true))) = some r := H
      have A9 := Aside0.mk A90
      clear A90
      replace H := Option.bind_eq_some_iff.mp H
      obtain ⟨t281, A100, H⟩ := H
      replace H : (if t281 = true then (laws_FnLevelPlain.j0 k t269 t270 t271 t272 t275 ((t275.length : Int) == 0)) else (laws_FnLevelPlain.j0 k t269 t270 t271 t272 t275 true)) = some r := H
      have A10 := Aside0.mk A100
      clear A100
      by_cases c11 : t281 = true
      · subst c11
        have H1 : (laws_FnLevelPlain.j0 k t269 t270 t271 t272 t275 ((t275.length : Int) == 0)) = some r := by rw [if_pos rfl] at H; exact H
        clear H
        have H := H1
        clear H1
        have H' := Aside0.mk H
        clear H
        go_wp2_with (first | (go_at_call 13; (with_reducible refine (spec_LevelPlain.calls k _ _ t269 t270 t271 t272 t278 _ ?side1 ?side2 A9.out).mono ?_); (case side1 => repeat (first | exact (Kd.R_reads' HO274.out).2.2 | (with_reducible refine Kd.C_alloc ?_ _) | (with_reducible refine Kd.C_drewN ?_ _) | (with_reducible refine Kd.C_drew ?_))); (case side2 => exact (Kd.R_reads' HO274.out).2.1); rintro e w12 ⟨v279, rfl, ho0, hb⟩; have n0_ := Aside0.mk (Kd.R_elder' (by (with_reducible repeat (first | apply Kd.R_alloc | apply Kd.R_drewN | apply Kd.R_drew)); exact HO274.out) (Kd.R_base ho0) hb); have n1_ := Aside0.mk (Kd.R_elder' (by (with_reducible repeat (first | apply Kd.R_alloc | apply Kd.R_drewN | apply Kd.R_drew)); exact HO277.out) (Kd.R_base ho0) hb); have n2_ := Aside0.mk (Kd.R_lower (Kd.R_new' (Kd.R_new' ho0 (Kd.R_lt (by (with_reducible repeat (first | apply Kd.R_alloc | apply Kd.R_drewN | apply Kd.R_drew)); exact HO274.out))) (Kd.R_lt (by (with_reducible repeat (first | apply Kd.R_alloc | apply Kd.R_drewN | apply Kd.R_drew)); exact HO277.out))) (below_size (by repeat (first | (with_reducible first | exact HB.out | apply below_alloc | apply pw_below_drewN | apply below_drew1) | exact HB.out)))); have n3_ := Aside0.mk (below_step (by repeat (first | (with_reducible first | exact HB.out | apply below_alloc | apply pw_below_drewN | apply below_drew1) | exact HB.out)) hb); clear HO274; clear HO277; clear HB; have HO274 := n0_; have HO277 := n1_; have HO280 := n2_; have HB := n3_; clear n0_ n1_ n2_ n3_; (try clear hb); (try clear hb2); (try clear hk); (try clear hi); (try clear ho0); obtain ⟨Ao13, co13, eo13⟩ := Kd.R_slice HO277.out; subst eo13; obtain ⟨Ao14, co14, eo14⟩ := Kd.R_slice HO280.out; subst eo14) | (go_at_call 20; (with_reducible refine (laws_wcInts.calls k _ _ t275 _ _ t278 true _ ?side1 ?side2 ?side3 ?side4 A10.out).mono ?_); (case side1 => repeat (first | exact (Kd.R_reads' HO277.out).2.2 | (with_reducible refine Kd.C_alloc ?_ _) | (with_reducible refine Kd.C_drewN ?_ _) | (with_reducible refine Kd.C_drew ?_))); (case side2 => exact (Kd.R_reads' HO277.out).2.1); (case side3 => repeat (first | exact (Kd.R_reads' HO280.out).2.2 | (with_reducible refine Kd.C_alloc ?_ _) | (with_reducible refine Kd.C_drewN ?_ _) | (with_reducible refine Kd.C_drew ?_))); (case side4 => exact (Kd.R_reads' HO280.out).2.1); rintro e w' ⟨rfl, ⟨nd, rfl⟩⟩; (try first | exact ⟨rfl, _, World.drewN_drewN _ _ _⟩ | exact ⟨rfl, _, Eq.trans (World.drewN_drewN _ _ _) (congrArg (World.drewN _) (Nat.add_assoc _ _ _))⟩)))
        repeat (go_quiet (first | (go_at_call 13; (with_reducible refine (spec_LevelPlain.calls k _ _ t269 t270 t271 t272 t278 _ ?side1 ?side2 A9.out).mono ?_); (case side1 => repeat (first | exact (Kd.R_reads' HO274.out).2.2 | (with_reducible refine Kd.C_alloc ?_ _) | (with_reducible refine Kd.C_drewN ?_ _) | (with_reducible refine Kd.C_drew ?_))); (case side2 => exact (Kd.R_reads' HO274.out).2.1); rintro e w12 ⟨v279, rfl, ho0, hb⟩; have n0_ := Aside0.mk (Kd.R_elder' (by (with_reducible repeat (first | apply Kd.R_alloc | apply Kd.R_drewN | apply Kd.R_drew)); exact HO274.out) (Kd.R_base ho0) hb); have n1_ := Aside0.mk (Kd.R_elder' (by (with_reducible repeat (first | apply Kd.R_alloc | apply Kd.R_drewN | apply Kd.R_drew)); exact HO277.out) (Kd.R_base ho0) hb); have n2_ := Aside0.mk (Kd.R_lower (Kd.R_new' (Kd.R_new' ho0 (Kd.R_lt (by (with_reducible repeat (first | apply Kd.R_alloc | apply Kd.R_drewN | apply Kd.R_drew)); exact HO274.out))) (Kd.R_lt (by (with_reducible repeat (first | apply Kd.R_alloc | apply Kd.R_drewN | apply Kd.R_drew)); exact HO277.out))) (below_size (by repeat (first | (with_reducible first | exact HB.out | apply below_alloc | apply pw_below_drewN | apply below_drew1) | exact HB.out)))); have n3_ := Aside0.mk (below_step (by repeat (first | (with_reducible first | exact HB.out | apply below_alloc | apply pw_below_drewN | apply below_drew1) | exact HB.out)) hb); clear HO274; clear HO277; clear HB; have HO274 := n0_; have HO277 := n1_; have HO280 := n2_; have HB := n3_; clear n0_ n1_ n2_ n3_; (try clear hb); (try clear hb2); (try clear hk); (try clear hi); (try clear ho0); obtain ⟨Ao13, co13, eo13⟩ := Kd.R_slice HO277.out; subst eo13; obtain ⟨Ao14, co14, eo14⟩ := Kd.R_slice HO280.out; subst eo14) | (go_at_call 20; (with_reducible refine (laws_wcInts.calls k _ _ t275 _ _ t278 true _ ?side1 ?side2 ?side3 ?side4 A10.out).mono ?_); (case side1 => repeat (first | exact (Kd.R_reads' HO277.out).2.2 | (with_reducible refine Kd.C_alloc ?_ _) | (with_reducible refine Kd.C_drewN ?_ _) | (with_reducible refine Kd.C_drew ?_))); (case side2 => exact (Kd.R_reads' HO277.out).2.1); (case side3 => repeat (first | exact (Kd.R_reads' HO280.out).2.2 | (with_reducible refine Kd.C_alloc ?_ _) | (with_reducible refine Kd.C_drewN ?_ _) | (with_reducible refine Kd.C_drew ?_))); (case side4 => exact (Kd.R_reads' HO280.out).2.1); rintro e w' ⟨rfl, ⟨nd, rfl⟩⟩; (try first | exact ⟨rfl, _, World.drewN_drewN _ _ _⟩ | exact ⟨rfl, _, Eq.trans (World.drewN_drewN _ _ _) (congrArg (World.drewN _) (Nat.add_assoc _ _ _))⟩))); try go_wp2_with (first | (go_at_call 13; (with_reducible refine (spec_LevelPlain.calls k _ _ t269 t270 t271 t272 t278 _ ?side1 ?side2 A9.out).mono ?_); (case side1 => repeat (first | exact (Kd.R_reads' HO274.out).2.2 | (with_reducible refine Kd.C_alloc ?_ _) | (with_reducible refine Kd.C_drewN ?_ _) | (with_reducible refine Kd.C_drew ?_))); (case side2 => exact (Kd.R_reads' HO274.out).2.1); rintro e w12 ⟨v279, rfl, ho0, hb⟩; have n0_ := Aside0.mk (Kd.R_elder' (by (with_reducible repeat (first | apply Kd.R_alloc | apply Kd.R_drewN | apply Kd.R_drew)); exact HO274.out) (Kd.R_base ho0) hb); have n1_ := Aside0.mk (Kd.R_elder' (by (with_reducible repeat (first | apply Kd.R_alloc | apply Kd.R_drewN | apply Kd.R_drew)); exact HO277.out) (Kd.R_base ho0) hb); have n2_ := Aside0.mk (Kd.R_lower (Kd.R_new' (Kd.R_new' ho0 (Kd.R_lt (by (with_reducible repeat (first | apply Kd.R_alloc | apply Kd.R_drewN | apply Kd.R_drew)); exact HO274.out))) (Kd.R_lt (by (with_reducible repeat (first | apply Kd.R_alloc | apply Kd.R_drewN | apply Kd.R_drew)); exact HO277.out))) (below_size (by repeat (first | (with_reducible first | exact HB.out | apply below_alloc | apply pw_below_drewN | apply below_drew1) | exact HB.out)))); have n3_ := Aside0.mk (below_step (by repeat (first | (with_reducible first | exact HB.out | apply below_alloc | apply pw_below_drewN | apply below_drew1) | exact HB.out)) hb); clear HO274; clear HO277; clear HB; have HO274 := n0_; have HO277 := n1_; have HO280 := n2_; have HB := n3_; clear n0_ n1_ n2_ n3_; (try clear hb); (try clear hb2); (try clear hk); (try clear hi); (try clear ho0); obtain ⟨Ao13, co13, eo13⟩ := Kd.R_slice HO277.out; subst eo13; obtain ⟨Ao14, co14, eo14⟩ := Kd.R_slice HO280.out; subst eo14) | (go_at_call 20; (with_reducible refine (laws_wcInts.calls k _ _ t275 _ _ t278 true _ ?side1 ?side2 ?side3 ?side4 A10.out).mono ?_); (case side1 => repeat (first | exact (Kd.R_reads' HO277.out).2.2 | (with_reducible refine Kd.C_alloc ?_ _) | (with_reducible refine Kd.C_drewN ?_ _) | (with_reducible refine Kd.C_drew ?_))); (case side2 => exact (Kd.R_reads' HO277.out).2.1); (case side3 => repeat (first | exact (Kd.R_reads' HO280.out).2.2 | (with_reducible refine Kd.C_alloc ?_ _) | (with_reducible refine Kd.C_drewN ?_ _) | (with_reducible refine Kd.C_drew ?_))); (case side4 => exact (Kd.R_reads' HO280.out).2.1); rintro e w' ⟨rfl, ⟨nd, rfl⟩⟩; (try first | exact ⟨rfl, _, World.drewN_drewN _ _ _⟩ | exact ⟨rfl, _, Eq.trans (World.drewN_drewN _ _ _) (congrArg (World.drewN _) (Nat.add_assoc _ _ _))⟩))))
        go_meet
        case rel => exact ⟨_, (((t275.length : Int) == 0)), (by first | rfl | (simp; done) | (simp [*]; done)), (by first | exact H' | (simp only [hji46]; exact H') | (simp only [hji49]; exact H') | (simp only [hji46, hji49]; exact H')), ⟨by first | omega | exact Nat.le_refl _⟩, ⟨by (with_reducible repeat (first | apply Kd.R_alloc | apply Kd.R_drewN | apply Kd.R_drew)); exact Kd.R_mono HO274.out (fun _ hk => hk.1.2)⟩, ⟨by (with_reducible repeat (first | apply Kd.R_alloc | apply Kd.R_drewN | apply Kd.R_drew)); exact Kd.R_mono HO277.out (fun _ hk => hk.1.2)⟩, ⟨by repeat (first | (with_reducible first | exact HB.out | apply below_alloc | apply pw_below_drewN | apply below_drew1) | exact HB.out)⟩⟩
      · replace c11 := Bool.eq_false_iff.mpr c11
        subst c11
        have H1 : (laws_FnLevelPlain.j0 k t269 t270 t271 t272 t275 true) = some r := by rw [if_neg (show ¬ (false = true) by decide)] at H; exact H
        clear H
        have H := H1
        clear H1
        have H' := Aside0.mk H
        clear H
        go_wp2_with (first | (go_at_call 13; (with_reducible refine (spec_LevelPlain.calls k _ _ t269 t270 t271 t272 t278 _ ?side1 ?side2 A9.out).mono ?_); (case side1 => repeat (first | exact (Kd.R_reads' HO274.out).2.2 | (with_reducible refine Kd.C_alloc ?_ _) | (with_reducible refine Kd.C_drewN ?_ _) | (with_reducible refine Kd.C_drew ?_))); (case side2 => exact (Kd.R_reads' HO274.out).2.1); rintro e w15 ⟨v279, rfl, ho0, hb⟩; have n0_ := Aside0.mk (Kd.R_elder' (by (with_reducible repeat (first | apply Kd.R_alloc | apply Kd.R_drewN | apply Kd.R_drew)); exact HO274.out) (Kd.R_base ho0) hb); have n1_ := Aside0.mk (Kd.R_elder' (by (with_reducible repeat (first | apply Kd.R_alloc | apply Kd.R_drewN | apply Kd.R_drew)); exact HO277.out) (Kd.R_base ho0) hb); have n2_ := Aside0.mk (Kd.R_lower (Kd.R_new' (Kd.R_new' ho0 (Kd.R_lt (by (with_reducible repeat (first | apply Kd.R_alloc | apply Kd.R_drewN | apply Kd.R_drew)); exact HO274.out))) (Kd.R_lt (by (with_reducible repeat (first | apply Kd.R_alloc | apply Kd.R_drewN | apply Kd.R_drew)); exact HO277.out))) (below_size (by repeat (first | (with_reducible first | exact HB.out | apply below_alloc | apply pw_below_drewN | apply below_drew1) | exact HB.out)))); have n3_ := Aside0.mk (below_step (by repeat (first | (with_reducible first | exact HB.out | apply below_alloc | apply pw_below_drewN | apply below_drew1) | exact HB.out)) hb); clear HO274; clear HO277; clear HB; have HO274 := n0_; have HO277 := n1_; have HO280 := n2_; have HB := n3_; clear n0_ n1_ n2_ n3_; (try clear hb); (try clear hb2); (try clear hk); (try clear hi); (try clear ho0); obtain ⟨Ao16, co16, eo16⟩ := Kd.R_slice HO277.out; subst eo16; obtain ⟨Ao17, co17, eo17⟩ := Kd.R_slice HO280.out; subst eo17) | (go_at_call 20; (with_reducible refine (laws_wcInts.calls k _ _ t275 _ _ t278 false _ ?side1 ?side2 ?side3 ?side4 A10.out).mono ?_); (case side1 => repeat (first | exact (Kd.R_reads' HO277.out).2.2 | (with_reducible refine Kd.C_alloc ?_ _) | (with_reducible refine Kd.C_drewN ?_ _) | (with_reducible refine Kd.C_drew ?_))); (case side2 => exact (Kd.R_reads' HO277.out).2.1); (case side3 => repeat (first | exact (Kd.R_reads' HO280.out).2.2 | (with_reducible refine Kd.C_alloc ?_ _) | (with_reducible refine Kd.C_drewN ?_ _) | (with_reducible refine Kd.C_drew ?_))); (case side4 => exact (Kd.R_reads' HO280.out).2.1); rintro e w' ⟨rfl, ⟨nd, rfl⟩⟩; (try first | exact ⟨rfl, _, World.drewN_drewN _ _ _⟩ | exact ⟨rfl, _, Eq.trans (World.drewN_drewN _ _ _) (congrArg (World.drewN _) (Nat.add_assoc _ _ _))⟩)))
        repeat (go_quiet (first | (go_at_call 13; (with_reducible refine (spec_LevelPlain.calls k _ _ t269 t270 t271 t272 t278 _ ?side1 ?side2 A9.out).mono ?_); (case side1 => repeat (first | exact (Kd.R_reads' HO274.out).2.2 | (with_reducible refine Kd.C_alloc ?_ _) | (with_reducible refine Kd.C_drewN ?_ _) | (with_reducible refine Kd.C_drew ?_))); (case side2 => exact (Kd.R_reads' HO274.out).2.1); rintro e w15 ⟨v279, rfl, ho0, hb⟩; have n0_ := Aside0.mk (Kd.R_elder' (by (with_reducible repeat (first | apply Kd.R_alloc | apply Kd.R_drewN | apply Kd.R_drew)); exact HO274.out) (Kd.R_base ho0) hb); have n1_ := Aside0.mk (Kd.R_elder' (by (with_reducible repeat (first | apply Kd.R_alloc | apply Kd.R_drewN | apply Kd.R_drew)); exact HO277.out) (Kd.R_base ho0) hb); have n2_ := Aside0.mk (Kd.R_lower (Kd.R_new' (Kd.R_new' ho0 (Kd.R_lt (by (with_reducible repeat (first | apply Kd.R_alloc | apply Kd.R_drewN | apply Kd.R_drew)); exact HO274.out))) (Kd.R_lt (by (with_reducible repeat (first | apply Kd.R_alloc | apply Kd.R_drewN | apply Kd.R_drew)); exact HO277.out))) (below_size (by repeat (first | (with_reducible first | exact HB.out | apply below_alloc | apply pw_below_drewN | apply below_drew1) | exact HB.out)))); have n3_ := Aside0.mk (below_step (by repeat (first | (with_reducible first | exact HB.out | apply below_alloc | apply pw_below_drewN | apply below_drew1) | exact HB.out)) hb); clear HO274; clear HO277; clear HB; have HO274 := n0_; have HO277 := n1_; have HO280 := n2_; have HB := n3_; clear n0_ n1_ n2_ n3_; (try clear hb); (try clear hb2); (try clear hk); (try clear hi); (try clear ho0); obtain ⟨Ao16, co16, eo16⟩ := Kd.R_slice HO277.out; subst eo16; obtain ⟨Ao17, co17, eo17⟩ := Kd.R_slice HO280.out; subst eo17) | (go_at_call 20; (with_reducible refine (laws_wcInts.calls k _ _ t275 _ _ t278 false _ ?side1 ?side2 ?side3 ?side4 A10.out).mono ?_); (case side1 => repeat (first | exact (Kd.R_reads' HO277.out).2.2 | (with_reducible refine Kd.C_alloc ?_ _) | (with_reducible refine Kd.C_drewN ?_ _) | (with_reducible refine Kd.C_drew ?_))); (case side2 => exact (Kd.R_reads' HO277.out).2.1); (case side3 => repeat (first | exact (Kd.R_reads' HO280.out).2.2 | (with_reducible refine Kd.C_alloc ?_ _) | (with_reducible refine Kd.C_drewN ?_ _) | (with_reducible refine Kd.C_drew ?_))); (case side4 => exact (Kd.R_reads' HO280.out).2.1); rintro e w' ⟨rfl, ⟨nd, rfl⟩⟩; (try first | exact ⟨rfl, _, World.drewN_drewN _ _ _⟩ | exact ⟨rfl, _, Eq.trans (World.drewN_drewN _ _ _) (congrArg (World.drewN _) (Nat.add_assoc _ _ _))⟩))); try go_wp2_with (first | (go_at_call 13; (with_reducible refine (spec_LevelPlain.calls k _ _ t269 t270 t271 t272 t278 _ ?side1 ?side2 A9.out).mono ?_); (case side1 => repeat (first | exact (Kd.R_reads' HO274.out).2.2 | (with_reducible refine Kd.C_alloc ?_ _) | (with_reducible refine Kd.C_drewN ?_ _) | (with_reducible refine Kd.C_drew ?_))); (case side2 => exact (Kd.R_reads' HO274.out).2.1); rintro e w15 ⟨v279, rfl, ho0, hb⟩; have n0_ := Aside0.mk (Kd.R_elder' (by (with_reducible repeat (first | apply Kd.R_alloc | apply Kd.R_drewN | apply Kd.R_drew)); exact HO274.out) (Kd.R_base ho0) hb); have n1_ := Aside0.mk (Kd.R_elder' (by (with_reducible repeat (first | apply Kd.R_alloc | apply Kd.R_drewN | apply Kd.R_drew)); exact HO277.out) (Kd.R_base ho0) hb); have n2_ := Aside0.mk (Kd.R_lower (Kd.R_new' (Kd.R_new' ho0 (Kd.R_lt (by (with_reducible repeat (first | apply Kd.R_alloc | apply Kd.R_drewN | apply Kd.R_drew)); exact HO274.out))) (Kd.R_lt (by (with_reducible repeat (first | apply Kd.R_alloc | apply Kd.R_drewN | apply Kd.R_drew)); exact HO277.out))) (below_size (by repeat (first | (with_reducible first | exact HB.out | apply below_alloc | apply pw_below_drewN | apply below_drew1) | exact HB.out)))); have n3_ := Aside0.mk (below_step (by repeat (first | (with_reducible first | exact HB.out | apply below_alloc | apply pw_below_drewN | apply below_drew1) | exact HB.out)) hb); clear HO274; clear HO277; clear HB; have HO274 := n0_; have HO277 := n1_; have HO280 := n2_; have HB := n3_; clear n0_ n1_ n2_ n3_; (try clear hb); (try clear hb2); (try clear hk); (try clear hi); (try clear ho0); obtain ⟨Ao16, co16, eo16⟩ := Kd.R_slice HO277.out; subst eo16; obtain ⟨Ao17, co17, eo17⟩ := Kd.R_slice HO280.out; subst eo17) | (go_at_call 20; (with_reducible refine (laws_wcInts.calls k _ _ t275 _ _ t278 false _ ?side1 ?side2 ?side3 ?side4 A10.out).mono ?_); (case side1 => repeat (first | exact (Kd.R_reads' HO277.out).2.2 | (with_reducible refine Kd.C_alloc ?_ _) | (with_reducible refine Kd.C_drewN ?_ _) | (with_reducible refine Kd.C_drew ?_))); (case side2 => exact (Kd.R_reads' HO277.out).2.1); (case side3 => repeat (first | exact (Kd.R_reads' HO280.out).2.2 | (with_reducible refine Kd.C_alloc ?_ _) | (with_reducible refine Kd.C_drewN ?_ _) | (with_reducible refine Kd.C_drew ?_))); (case side4 => exact (Kd.R_reads' HO280.out).2.1); rintro e w' ⟨rfl, ⟨nd, rfl⟩⟩; (try first | exact ⟨rfl, _, World.drewN_drewN _ _ _⟩ | exact ⟨rfl, _, Eq.trans (World.drewN_drewN _ _ _) (congrArg (World.drewN _) (Nat.add_assoc _ _ _))⟩))))
        go_meet
        case rel => exact ⟨_, (true), (by first | rfl | (simp; done) | (simp [*]; done)), (by first | exact H' | (simp only [hji46]; exact H') | (simp only [hji49]; exact H') | (simp only [hji46, hji49]; exact H')), ⟨by first | omega | exact Nat.le_refl _⟩, ⟨by (with_reducible repeat (first | apply Kd.R_alloc | apply Kd.R_drewN | apply Kd.R_drew)); exact Kd.R_mono HO274.out (fun _ hk => hk.1.2)⟩, ⟨by (with_reducible repeat (first | apply Kd.R_alloc | apply Kd.R_drewN | apply Kd.R_drew)); exact Kd.R_mono HO277.out (fun _ hk => hk.1.2)⟩, ⟨by repeat (first | (with_reducible first | exact HB.out | apply below_alloc | apply pw_below_drewN | apply below_drew1) | exact HB.out)⟩⟩
    case rest =>
      clear HC5
      try clear c1
      try clear c2
      try clear c2b0
      try clear c2b1
      try clear p2
      try clear c4
      try clear c11
      obtain ⟨kq, x37_4, rfl, HA, HJ4, HO_3, HO_7, HB⟩ := hcut
      cases kq with
      | zero => exact absurd HA.out (by simp [laws_FnLevelPlain.j0])
      | succ kj4 =>
        have H := HA.out
        clear HA
        simp only [laws_FnLevelPlain.j0] at H
        by_cases c18 : x37_4 = true
        · subst c18
          have H1 : ((spec_LevelPlain.f kj4 t269 t270 t271 t272).bind fun t282 => ((laws_wcInts.f kj4 t275 t282).bind fun t285 => (some t285))) = some r := by rw [if_pos rfl] at H; exact H
          clear H
          have H := H1
          clear H1
          replace H := Option.bind_eq_some_iff.mp H
          obtain ⟨t282, A190, H⟩ := H
          replace H : ((laws_wcInts.f kj4 t275 t282).bind fun t285 => (some t285)) = some r := H
          have A19 := Aside0.mk A190
          clear A190
          replace H := Option.bind_eq_some_iff.mp H
          obtain ⟨t285, A200, H⟩ := H
          replace H : (some t285) = some r := H
          have A20 := Aside0.mk A200
          clear A200
          obtain rfl := Option.some.inj H
          go_wp2_with (first | (go_at_call 13; (with_reducible refine (spec_LevelPlain.calls kj4 _ _ t269 t270 t271 t272 t282 _ ?side1 ?side2 A19.out).mono ?_); (case side1 => repeat (first | exact (Kd.R_reads' HO_3.out).2.2 | (with_reducible refine Kd.C_alloc ?_ _) | (with_reducible refine Kd.C_drewN ?_ _) | (with_reducible refine Kd.C_drew ?_))); (case side2 => exact (Kd.R_reads' HO_3.out).2.1); rintro e w21 ⟨v283, rfl, ho0, hb⟩; have n0_ := Aside0.mk (Kd.R_elder' (by (with_reducible repeat (first | apply Kd.R_alloc | apply Kd.R_drewN | apply Kd.R_drew)); exact HO_3.out) (Kd.R_base ho0) hb); have n1_ := Aside0.mk (Kd.R_elder' (by (with_reducible repeat (first | apply Kd.R_alloc | apply Kd.R_drewN | apply Kd.R_drew)); exact HO_7.out) (Kd.R_base ho0) hb); have n2_ := Aside0.mk (Kd.R_lower (Kd.R_new' (Kd.R_new' ho0 (Kd.R_lt (by (with_reducible repeat (first | apply Kd.R_alloc | apply Kd.R_drewN | apply Kd.R_drew)); exact HO_3.out))) (Kd.R_lt (by (with_reducible repeat (first | apply Kd.R_alloc | apply Kd.R_drewN | apply Kd.R_drew)); exact HO_7.out))) (below_size (by repeat (first | (with_reducible first | exact HB.out | apply below_alloc | apply pw_below_drewN | apply below_drew1) | exact HB.out)))); have n3_ := Aside0.mk (below_step (by repeat (first | (with_reducible first | exact HB.out | apply below_alloc | apply pw_below_drewN | apply below_drew1) | exact HB.out)) hb); clear HO_3; clear HO_7; clear HB; have HO_3 := n0_; have HO_7 := n1_; have HO284 := n2_; have HB := n3_; clear n0_ n1_ n2_ n3_; (try clear hb); (try clear hb2); (try clear hk); (try clear hi); (try clear ho0); obtain ⟨Ao22, co22, eo22⟩ := Kd.R_slice HO_7.out; subst eo22; obtain ⟨Ao23, co23, eo23⟩ := Kd.R_slice HO284.out; subst eo23) | (go_at_call 20; (with_reducible refine (laws_wcInts.calls kj4 _ _ t275 _ _ t282 t285 _ ?side1 ?side2 ?side3 ?side4 A20.out).mono ?_); (case side1 => repeat (first | exact (Kd.R_reads' HO_7.out).2.2 | (with_reducible refine Kd.C_alloc ?_ _) | (with_reducible refine Kd.C_drewN ?_ _) | (with_reducible refine Kd.C_drew ?_))); (case side2 => exact (Kd.R_reads' HO_7.out).2.1); (case side3 => repeat (first | exact (Kd.R_reads' HO284.out).2.2 | (with_reducible refine Kd.C_alloc ?_ _) | (with_reducible refine Kd.C_drewN ?_ _) | (with_reducible refine Kd.C_drew ?_))); (case side4 => exact (Kd.R_reads' HO284.out).2.1); rintro e w' ⟨rfl, ⟨nd, rfl⟩⟩; (try first | exact ⟨rfl, _, World.drewN_drewN _ _ _⟩ | exact ⟨rfl, _, Eq.trans (World.drewN_drewN _ _ _) (congrArg (World.drewN _) (Nat.add_assoc _ _ _))⟩)))
          repeat (go_quiet (first | (go_at_call 13; (with_reducible refine (spec_LevelPlain.calls kj4 _ _ t269 t270 t271 t272 t282 _ ?side1 ?side2 A19.out).mono ?_); (case side1 => repeat (first | exact (Kd.R_reads' HO_3.out).2.2 | (with_reducible refine Kd.C_alloc ?_ _) | (with_reducible refine Kd.C_drewN ?_ _) | (with_reducible refine Kd.C_drew ?_))); (case side2 => exact (Kd.R_reads' HO_3.out).2.1); rintro e w21 ⟨v283, rfl, ho0, hb⟩; have n0_ := Aside0.mk (Kd.R_elder' (by (with_reducible repeat (first | apply Kd.R_alloc | apply Kd.R_drewN | apply Kd.R_drew)); exact HO_3.out) (Kd.R_base ho0) hb); have n1_ := Aside0.mk (Kd.R_elder' (by (with_reducible repeat (first | apply Kd.R_alloc | apply Kd.R_drewN | apply Kd.R_drew)); exact HO_7.out) (Kd.R_base ho0) hb); have n2_ := Aside0.mk (Kd.R_lower (Kd.R_new' (Kd.R_new' ho0 (Kd.R_lt (by (with_reducible repeat (first | apply Kd.R_alloc | apply Kd.R_drewN | apply Kd.R_drew)); exact HO_3.out))) (Kd.R_lt (by (with_reducible repeat (first | apply Kd.R_alloc | apply Kd.R_drewN | apply Kd.R_drew)); exact HO_7.out))) (below_size (by repeat (first | (with_reducible first | exact HB.out | apply below_alloc | apply pw_below_drewN | apply below_drew1) | exact HB.out)))); have n3_ := Aside0.mk (below_step (by repeat (first | (with_reducible first | exact HB.out | apply below_alloc | apply pw_below_drewN | apply below_drew1) | exact HB.out)) hb); clear HO_3; clear HO_7; clear HB; have HO_3 := n0_; have HO_7 := n1_; have HO284 := n2_; have HB := n3_; clear n0_ n1_ n2_ n3_; (try clear hb); (try clear hb2); (try clear hk); (try clear hi); (try clear ho0); obtain ⟨Ao22, co22, eo22⟩ := Kd.R_slice HO_7.out; subst eo22; obtain ⟨Ao23, co23, eo23⟩ := Kd.R_slice HO284.out; subst eo23) | (go_at_call 20; (with_reducible refine (laws_wcInts.calls kj4 _ _ t275 _ _ t282 t285 _ ?side1 ?side2 ?side3 ?side4 A20.out).mono ?_); (case side1 => repeat (first | exact (Kd.R_reads' HO_7.out).2.2 | (with_reducible refine Kd.C_alloc ?_ _) | (with_reducible refine Kd.C_drewN ?_ _) | (with_reducible refine Kd.C_drew ?_))); (case side2 => exact (Kd.R_reads' HO_7.out).2.1); (case side3 => repeat (first | exact (Kd.R_reads' HO284.out).2.2 | (with_reducible refine Kd.C_alloc ?_ _) | (with_reducible refine Kd.C_drewN ?_ _) | (with_reducible refine Kd.C_drew ?_))); (case side4 => exact (Kd.R_reads' HO284.out).2.1); rintro e w' ⟨rfl, ⟨nd, rfl⟩⟩; (try first | exact ⟨rfl, _, World.drewN_drewN _ _ _⟩ | exact ⟨rfl, _, Eq.trans (World.drewN_drewN _ _ _) (congrArg (World.drewN _) (Nat.add_assoc _ _ _))⟩))); try go_wp2_with (first | (go_at_call 13; (with_reducible refine (spec_LevelPlain.calls kj4 _ _ t269 t270 t271 t272 t282 _ ?side1 ?side2 A19.out).mono ?_); (case side1 => repeat (first | exact (Kd.R_reads' HO_3.out).2.2 | (with_reducible refine Kd.C_alloc ?_ _) | (with_reducible refine Kd.C_drewN ?_ _) | (with_reducible refine Kd.C_drew ?_))); (case side2 => exact (Kd.R_reads' HO_3.out).2.1); rintro e w21 ⟨v283, rfl, ho0, hb⟩; have n0_ := Aside0.mk (Kd.R_elder' (by (with_reducible repeat (first | apply Kd.R_alloc | apply Kd.R_drewN | apply Kd.R_drew)); exact HO_3.out) (Kd.R_base ho0) hb); have n1_ := Aside0.mk (Kd.R_elder' (by (with_reducible repeat (first | apply Kd.R_alloc | apply Kd.R_drewN | apply Kd.R_drew)); exact HO_7.out) (Kd.R_base ho0) hb); have n2_ := Aside0.mk (Kd.R_lower (Kd.R_new' (Kd.R_new' ho0 (Kd.R_lt (by (with_reducible repeat (first | apply Kd.R_alloc | apply Kd.R_drewN | apply Kd.R_drew)); exact HO_3.out))) (Kd.R_lt (by (with_reducible repeat (first | apply Kd.R_alloc | apply Kd.R_drewN | apply Kd.R_drew)); exact HO_7.out))) (below_size (by repeat (first | (with_reducible first | exact HB.out | apply below_alloc | apply pw_below_drewN | apply below_drew1) | exact HB.out)))); have n3_ := Aside0.mk (below_step (by repeat (first | (with_reducible first | exact HB.out | apply below_alloc | apply pw_below_drewN | apply below_drew1) | exact HB.out)) hb); clear HO_3; clear HO_7; clear HB; have HO_3 := n0_; have HO_7 := n1_; have HO284 := n2_; have HB := n3_; clear n0_ n1_ n2_ n3_; (try clear hb); (try clear hb2); (try clear hk); (try clear hi); (try clear ho0); obtain ⟨Ao22, co22, eo22⟩ := Kd.R_slice HO_7.out; subst eo22; obtain ⟨Ao23, co23, eo23⟩ := Kd.R_slice HO284.out; subst eo23) | (go_at_call 20; (with_reducible refine (laws_wcInts.calls kj4 _ _ t275 _ _ t282 t285 _ ?side1 ?side2 ?side3 ?side4 A20.out).mono ?_); (case side1 => repeat (first | exact (Kd.R_reads' HO_7.out).2.2 | (with_reducible refine Kd.C_alloc ?_ _) | (with_reducible refine Kd.C_drewN ?_ _) | (with_reducible refine Kd.C_drew ?_))); (case side2 => exact (Kd.R_reads' HO_7.out).2.1); (case side3 => repeat (first | exact (Kd.R_reads' HO284.out).2.2 | (with_reducible refine Kd.C_alloc ?_ _) | (with_reducible refine Kd.C_drewN ?_ _) | (with_reducible refine Kd.C_drew ?_))); (case side4 => exact (Kd.R_reads' HO284.out).2.1); rintro e w' ⟨rfl, ⟨nd, rfl⟩⟩; (try first | exact ⟨rfl, _, World.drewN_drewN _ _ _⟩ | exact ⟨rfl, _, Eq.trans (World.drewN_drewN _ _ _) (congrArg (World.drewN _) (Nat.add_assoc _ _ _))⟩))))
          go_ret
          exact ⟨by first | rfl | (simp [errW_none, errW_some] <;> rfl) | (simp [*, errW_none, errW_some] <;> rfl), by repeat (first | (with_reducible first | exact HB.out | apply below_alloc | apply pw_below_drewN | apply below_drew1) | exact HB.out)⟩
        · replace c18 := Bool.eq_false_iff.mpr c18
          subst c18
          have H1 : (laws_FnLevelPlain.l0 kj4 t269 t270 t271 t272 t275 0) = some r := by rw [if_neg (show ¬ (false = true) by decide)] at H; exact H
          clear H
          have H := H1
          clear H1
          have H' := Aside0.mk H
          clear H
          go_wp2
          repeat (go_quiet (fail); try go_wp2)
          go_loopg [8] kj4 (fun kq v8 w' => ∃ (x8_2 : Int), v8 = .int .i64 x8_2 ∧ Aside0 (laws_FnLevelPlain.l0 kq t269 t270 t271 t272 t275 x8_2 = some r) ∧ Aside0 (kq ≤ kj4) ∧ Aside0 (Kd.R (Kd.int .i64) 3 w' w.heap.size (fun k_ => some k_ ≠ (v276 : Value).ownBlock) (.slice Ao7 t269.length co7) t269) ∧ Aside0 (Kd.R (Kd.int .i64) 3 w' w.heap.size (fun k_ => some k_ ≠ ((.slice Ao7 t269.length co7) : Value).ownBlock) v276 t275) ∧ Aside0 (Below w.heap.size w w'))
          case atStart => exact ⟨(0), (by first | rfl | (simp; done) | (simp [*]; done)), H', ⟨Nat.le_refl _⟩, ⟨by (with_reducible repeat (first | apply Kd.R_alloc | apply Kd.R_drewN | apply Kd.R_drew)); exact HO_3.out⟩, ⟨by (with_reducible repeat (first | apply Kd.R_alloc | apply Kd.R_drewN | apply Kd.R_drew)); exact HO_7.out⟩, ⟨by repeat (first | (with_reducible first | exact HB.out | apply below_alloc | apply pw_below_drewN | apply below_drew1) | exact HB.out)⟩⟩
          case round =>
            clear H'
            try clear c1
            try clear c2
            try clear c2b0
            try clear c2b1
            try clear p2
            try clear c4
            try clear c11
            try clear c18
            try clear p2
            obtain ⟨x8_2, rfl, HA, HK2, HO_3, HO_7, HB⟩ := hrel
            cases gk with
            | zero => exact absurd HA.out (by simp [laws_FnLevelPlain.l0])
            | succ k2 =>
              have H := HA.out
              clear HA
              simp only [laws_FnLevelPlain.l0] at H
              by_cases c24 : x8_2 < (t269.length : Int)
              · rw [if_pos c24] at H
                have c24b0 : decide (x8_2 < (t269.length : Int)) = true := decide_eq_true c24
                clear c24
                have HC25 := Aside0.mk H
                clear H
                go_upto_region 10 with (fail)
                repeat (go_quiet (fail); go_upto_region 10 with (fail))
                go_cut [9] (fun v9 wc => ∃ (kq : Nat) (x9_24 : Bool), v9 = .bool x9_24 ∧ Aside0 (laws_FnLevelPlain.j2 kq t269 t270 t271 t272 t275 x8_2 x9_24 = some r) ∧ Aside0 (kq ≤ k2) ∧ Aside0 (Kd.R (Kd.int .i64) 3 wc w.heap.size (fun k_ => some k_ ≠ (v276 : Value).ownBlock) (.slice Ao7 t269.length co7) t269) ∧ Aside0 (Kd.R (Kd.int .i64) 3 wc w.heap.size (fun k_ => some k_ ≠ ((.slice Ao7 t269.length co7) : Value).ownBlock) v276 t275) ∧ Aside0 (Below w.heap.size w wc))
                case first =>
                  have H := HC25.out
                  clear HC25
                  by_cases c26 : 0 ≤ x8_2
                  · rw [if_pos c26] at H
                    have c26b0 : decide (0 ≤ x8_2) = true := decide_eq_true c26
                    clear c26
                    (first | rw [c26b0] | (simp only [i64_w, i32_w]; rw [c26b0]) | skip)
                    replace H := Option.bind_eq_some_iff.mp H
                    obtain ⟨t291, A270, H⟩ := H
                    replace H : (if t291 = true then (laws_FnLevelPlain.j2 k2 t269 t270 t271 t272 t275 x8_2 true) else (laws_FnLevelPlain.j2 k2 t269 t270 t271 t272 t275 x8_2 (decide ((rd t269 x8_2) ≥ 19)))) = some r := H
                    have A27 := Aside0.mk A270
                    clear A270
                    by_cases c28 : t291 = true
                    · subst c28
                      have H1 : (laws_FnLevelPlain.j2 k2 t269 t270 t271 t272 t275 x8_2 true) = some r := by rw [if_pos rfl] at H; exact H
                      clear H
                      have H := H1
                      clear H1
                      have H' := Aside0.mk H
                      clear H
                      have p290 : 0 ≤ (x8_2 : Int) := of_decide_eq_true (by first | (with_reducible assumption) | assumption)
                      have q290 : x8_2 < (t269.length : Int) := of_decide_eq_true (by first | (with_reducible assumption) | assumption)
                      obtain ⟨ad290, e290, hx290_0⟩ := Kd.at_int (Kd.R_reads' HO_3.out).2.2 x8_2 p290 q290
                      cases e290
                      replace p290 := eq_true p290
                      replace q290 := eq_true q290
                      go_wp2_with (first | (go_at_call 21; (with_reducible refine (laws_wcIn.calls (rd t269 x8_2) 11 13 true _ A27.out).mono ?_); rintro e w' ⟨rfl, ⟨nd, rfl⟩⟩; (try first | exact ⟨rfl, _, World.drewN_drewN _ _ _⟩ | exact ⟨rfl, _, Eq.trans (World.drewN_drewN _ _ _) (congrArg (World.drewN _) (Nat.add_assoc _ _ _))⟩)))
                      repeat (go_quiet (first | (go_at_call 21; (with_reducible refine (laws_wcIn.calls (rd t269 x8_2) 11 13 true _ A27.out).mono ?_); rintro e w' ⟨rfl, ⟨nd, rfl⟩⟩; (try first | exact ⟨rfl, _, World.drewN_drewN _ _ _⟩ | exact ⟨rfl, _, Eq.trans (World.drewN_drewN _ _ _) (congrArg (World.drewN _) (Nat.add_assoc _ _ _))⟩))); try go_wp2_with (first | (go_at_call 21; (with_reducible refine (laws_wcIn.calls (rd t269 x8_2) 11 13 true _ A27.out).mono ?_); rintro e w' ⟨rfl, ⟨nd, rfl⟩⟩; (try first | exact ⟨rfl, _, World.drewN_drewN _ _ _⟩ | exact ⟨rfl, _, Eq.trans (World.drewN_drewN _ _ _) (congrArg (World.drewN _) (Nat.add_assoc _ _ _))⟩))))
                      go_meet
                      case rel => exact ⟨_, (true), (by first | rfl | (simp; done) | (simp [*]; done)), (by first | exact H' | (simp only [hji46]; exact H') | (simp only [hji49]; exact H') | (simp only [hji46, hji49]; exact H')), ⟨by have := HJ4.out; have := HK2.out; first | omega | exact Nat.le_refl _⟩, ⟨by (with_reducible repeat (first | apply Kd.R_alloc | apply Kd.R_drewN | apply Kd.R_drew)); exact HO_3.out⟩, ⟨by (with_reducible repeat (first | apply Kd.R_alloc | apply Kd.R_drewN | apply Kd.R_drew)); exact HO_7.out⟩, ⟨by repeat (first | (with_reducible first | exact HB.out | apply below_alloc | apply pw_below_drewN | apply below_drew1) | exact HB.out)⟩⟩
                    · replace c28 := Bool.eq_false_iff.mpr c28
                      subst c28
                      have H1 : (laws_FnLevelPlain.j2 k2 t269 t270 t271 t272 t275 x8_2 (decide ((rd t269 x8_2) ≥ 19))) = some r := by rw [if_neg (show ¬ (false = true) by decide)] at H; exact H
                      clear H
                      have H := H1
                      clear H1
                      have H' := Aside0.mk H
                      clear H
                      have p290 : 0 ≤ (x8_2 : Int) := of_decide_eq_true (by first | (with_reducible assumption) | assumption)
                      have q290 : x8_2 < (t269.length : Int) := of_decide_eq_true (by first | (with_reducible assumption) | assumption)
                      obtain ⟨ad290, e290, hx290_0⟩ := Kd.at_int (Kd.R_reads' HO_3.out).2.2 x8_2 p290 q290
                      cases e290
                      replace p290 := eq_true p290
                      replace q290 := eq_true q290
                      go_wp2_with (first | (go_at_call 21; (with_reducible refine (laws_wcIn.calls (rd t269 x8_2) 11 13 false _ A27.out).mono ?_); rintro e w' ⟨rfl, ⟨nd, rfl⟩⟩; (try first | exact ⟨rfl, _, World.drewN_drewN _ _ _⟩ | exact ⟨rfl, _, Eq.trans (World.drewN_drewN _ _ _) (congrArg (World.drewN _) (Nat.add_assoc _ _ _))⟩); have p292 : 0 ≤ (x8_2 : Int) := of_decide_eq_true (by first | (with_reducible assumption) | assumption); have q292 : x8_2 < (t269.length : Int) := of_decide_eq_true (by first | (with_reducible assumption) | assumption); obtain ⟨ad292, e292, hx292_0⟩ := Kd.at_int (Kd.R_reads' HO_3.out).2.2 x8_2 p292 q292; obtain rfl : ad290 = ad292 := (by injection e292); replace p292 := eq_true p292; replace q292 := eq_true q292))
                      repeat (go_quiet (first | (go_at_call 21; (with_reducible refine (laws_wcIn.calls (rd t269 x8_2) 11 13 false _ A27.out).mono ?_); rintro e w' ⟨rfl, ⟨nd, rfl⟩⟩; (try first | exact ⟨rfl, _, World.drewN_drewN _ _ _⟩ | exact ⟨rfl, _, Eq.trans (World.drewN_drewN _ _ _) (congrArg (World.drewN _) (Nat.add_assoc _ _ _))⟩))); try go_wp2_with (first | (go_at_call 21; (with_reducible refine (laws_wcIn.calls (rd t269 x8_2) 11 13 false _ A27.out).mono ?_); rintro e w' ⟨rfl, ⟨nd, rfl⟩⟩; (try first | exact ⟨rfl, _, World.drewN_drewN _ _ _⟩ | exact ⟨rfl, _, Eq.trans (World.drewN_drewN _ _ _) (congrArg (World.drewN _) (Nat.add_assoc _ _ _))⟩))))
                      go_meet
                      case rel => exact ⟨_, (decide ((rd t269 x8_2) ≥ 19)), (by first | rfl | (simp; done) | (simp [*]; done)), (by first | exact H' | (simp only [hji46]; exact H') | (simp only [hji49]; exact H') | (simp only [hji46, hji49]; exact H')), ⟨by have := HJ4.out; have := HK2.out; first | omega | exact Nat.le_refl _⟩, ⟨by (with_reducible repeat (first | apply Kd.R_alloc | apply Kd.R_drewN | apply Kd.R_drew)); exact HO_3.out⟩, ⟨by (with_reducible repeat (first | apply Kd.R_alloc | apply Kd.R_drewN | apply Kd.R_drew)); exact HO_7.out⟩, ⟨by repeat (first | (with_reducible first | exact HB.out | apply below_alloc | apply pw_below_drewN | apply below_drew1) | exact HB.out)⟩⟩
                  · rw [if_neg c26] at H
                    exact absurd H (by simp)
                case rest =>
                  clear HC25
                  try clear c1
                  try clear c2
                  try clear c2b0
                  try clear c2b1
                  try clear p2
                  try clear q2
                  try clear hx2
                  try clear c4
                  try clear c11
                  try clear c18
                  try clear c24
                  try clear c24b0
                  try clear c26
                  try clear c26b0
                  try clear c28
                  try clear hx290_0
                  try clear hx292_0
                  try clear p2
                  try clear p290
                  try clear p292
                  try clear q290
                  try clear q292
                  obtain ⟨kq, x9_24, rfl, HA, HJ24, HO_3, HO_7, HB⟩ := hcut
                  cases kq with
                  | zero => exact absurd HA.out (by simp [laws_FnLevelPlain.j2])
                  | succ kj24 =>
                    have H := HA.out
                    clear HA
                    simp only [laws_FnLevelPlain.j2] at H
                    have HC29 := Aside0.mk H
                    clear H
                    go_upto_region 11 with (fail)
                    repeat (go_quiet (fail); go_upto_region 11 with (fail))
                    go_cut [92] (fun v92 wc => ∃ (kq : Nat) (x92_28 : Bool), v92 = .bool x92_28 ∧ Aside0 (laws_FnLevelPlain.j3 kq t269 t270 t271 t272 t275 x8_2 x9_24 x92_28 = some r) ∧ Aside0 (kq ≤ kj24) ∧ Aside0 (Kd.R (Kd.int .i64) 3 wc w.heap.size (fun k_ => some k_ ≠ (v276 : Value).ownBlock) (.slice Ao7 t269.length co7) t269) ∧ Aside0 (Kd.R (Kd.int .i64) 3 wc w.heap.size (fun k_ => some k_ ≠ ((.slice Ao7 t269.length co7) : Value).ownBlock) v276 t275) ∧ Aside0 (Below w.heap.size w wc))
                    case first =>
                      have H := HC29.out
                      clear HC29
                      by_cases c30 : x9_24 = true
                      · subst c30
                        have H1 : (if 0 ≤ x8_2 then (if x8_2 < (t275.length : Int) then (if (rd t275 x8_2) = 1 then (laws_FnLevelPlain.j3 kj24 t269 t270 t271 t272 t275 x8_2 true false) else (if (rd t275 x8_2) = 2 then (laws_FnLevelPlain.j3 kj24 t269 t270 t271 t272 t275 x8_2 true false) else (laws_FnLevelPlain.j3 kj24 t269 t270 t271 t272 t275 x8_2 true true))) else (none)) else (none)) = some r := by rw [if_pos rfl] at H; exact H
                        clear H
                        have H := H1
                        clear H1
                        by_cases c31 : 0 ≤ x8_2
                        · rw [if_pos c31] at H
                          have c31b0 : decide (0 ≤ x8_2) = true := decide_eq_true c31
                          clear c31
                          (first | rw [c31b0] | (simp only [i64_w, i32_w]; rw [c31b0]) | skip)
                          by_cases c32 : x8_2 < (t275.length : Int)
                          · rw [if_pos c32] at H
                            have c32b0 : decide (x8_2 < (t275.length : Int)) = true := decide_eq_true c32
                            clear c32
                            by_cases c33 : (rd t275 x8_2) = 1
                            · rw [if_pos c33] at H
                              have c33b0 : ((rd t275 x8_2) == 1) = true := beq_iff_eq.mpr c33
                              have c33b1 : ((rd t275 x8_2) != 1) = false := bne_eq_false_iff_eq.mpr c33
                              clear c33
                              have H' := Aside0.mk H
                              clear H
                              obtain ⟨Ao34, co34, eo34⟩ := Kd.R_slice HO_7.out
                              subst eo34
                              have p293 : 0 ≤ (x8_2 : Int) := of_decide_eq_true (by first | (with_reducible assumption) | assumption)
                              have q293 : x8_2 < (t275.length : Int) := of_decide_eq_true (by first | (with_reducible assumption) | assumption)
                              obtain ⟨ad293, e293, hx293_0⟩ := Kd.at_int (Kd.R_reads' HO_7.out).2.2 x8_2 p293 q293
                              cases e293
                              replace p293 := eq_true p293
                              replace q293 := eq_true q293
                              go_wp2
                              repeat (go_quiet (fail); try go_wp2)
                              go_meet
                              case rel => exact ⟨_, (false), (by first | rfl | (simp; done) | (simp [*]; done)), (by first | exact H' | (simp only [hji46]; exact H') | (simp only [hji49]; exact H') | (simp only [hji46, hji49]; exact H')), ⟨by have := HJ4.out; have := HK2.out; have := HJ24.out; first | omega | exact Nat.le_refl _⟩, ⟨by (with_reducible repeat (first | apply Kd.R_alloc | apply Kd.R_drewN | apply Kd.R_drew)); exact HO_3.out⟩, ⟨by (with_reducible repeat (first | apply Kd.R_alloc | apply Kd.R_drewN | apply Kd.R_drew)); exact HO_7.out⟩, ⟨by repeat (first | (with_reducible first | exact HB.out | apply below_alloc | apply pw_below_drewN | apply below_drew1) | exact HB.out)⟩⟩
                            · rw [if_neg c33] at H
                              have c33b0 : ((rd t275 x8_2) == 1) = false := beq_eq_false_iff_ne.mpr c33
                              have c33b1 : ((rd t275 x8_2) != 1) = true := bne_iff_ne.mpr c33
                              by_cases c35 : (rd t275 x8_2) = 2
                              · rw [if_pos c35] at H
                                have c35b0 : ((rd t275 x8_2) == 2) = true := beq_iff_eq.mpr c35
                                have c35b1 : ((rd t275 x8_2) != 2) = false := bne_eq_false_iff_eq.mpr c35
                                clear c35
                                have H' := Aside0.mk H
                                clear H
                                obtain ⟨Ao36, co36, eo36⟩ := Kd.R_slice HO_7.out
                                subst eo36
                                have p293 : 0 ≤ (x8_2 : Int) := of_decide_eq_true (by first | (with_reducible assumption) | assumption)
                                have q293 : x8_2 < (t275.length : Int) := of_decide_eq_true (by first | (with_reducible assumption) | assumption)
                                obtain ⟨ad293, e293, hx293_0⟩ := Kd.at_int (Kd.R_reads' HO_7.out).2.2 x8_2 p293 q293
                                cases e293
                                replace p293 := eq_true p293
                                replace q293 := eq_true q293
                                have p294 : 0 ≤ (x8_2 : Int) := of_decide_eq_true (by first | (with_reducible assumption) | assumption)
                                have q294 : x8_2 < (t275.length : Int) := of_decide_eq_true (by first | (with_reducible assumption) | assumption)
                                obtain ⟨ad294, e294, hx294_0⟩ := Kd.at_int (Kd.R_reads' HO_7.out).2.2 x8_2 p294 q294
                                obtain rfl : ad293 = ad294 := (by injection e294)
                                replace p294 := eq_true p294
                                replace q294 := eq_true q294
                                go_wp2
                                repeat (go_quiet (fail); try go_wp2)
                                go_meet
                                case rel => exact ⟨_, (false), (by first | rfl | (simp; done) | (simp [*]; done)), (by first | exact H' | (simp only [hji46]; exact H') | (simp only [hji49]; exact H') | (simp only [hji46, hji49]; exact H')), ⟨by have := HJ4.out; have := HK2.out; have := HJ24.out; first | omega | exact Nat.le_refl _⟩, ⟨by (with_reducible repeat (first | apply Kd.R_alloc | apply Kd.R_drewN | apply Kd.R_drew)); exact HO_3.out⟩, ⟨by (with_reducible repeat (first | apply Kd.R_alloc | apply Kd.R_drewN | apply Kd.R_drew)); exact HO_7.out⟩, ⟨by repeat (first | (with_reducible first | exact HB.out | apply below_alloc | apply pw_below_drewN | apply below_drew1) | exact HB.out)⟩⟩
                              · rw [if_neg c35] at H
                                have c35b0 : ((rd t275 x8_2) == 2) = false := beq_eq_false_iff_ne.mpr c35
                                have c35b1 : ((rd t275 x8_2) != 2) = true := bne_iff_ne.mpr c35
                                have H' := Aside0.mk H
                                clear H
                                obtain ⟨Ao37, co37, eo37⟩ := Kd.R_slice HO_7.out
                                subst eo37
                                have p293 : 0 ≤ (x8_2 : Int) := of_decide_eq_true (by first | (with_reducible assumption) | assumption)
                                have q293 : x8_2 < (t275.length : Int) := of_decide_eq_true (by first | (with_reducible assumption) | assumption)
                                obtain ⟨ad293, e293, hx293_0⟩ := Kd.at_int (Kd.R_reads' HO_7.out).2.2 x8_2 p293 q293
                                cases e293
                                replace p293 := eq_true p293
                                replace q293 := eq_true q293
                                have p294 : 0 ≤ (x8_2 : Int) := of_decide_eq_true (by first | (with_reducible assumption) | assumption)
                                have q294 : x8_2 < (t275.length : Int) := of_decide_eq_true (by first | (with_reducible assumption) | assumption)
                                obtain ⟨ad294, e294, hx294_0⟩ := Kd.at_int (Kd.R_reads' HO_7.out).2.2 x8_2 p294 q294
                                obtain rfl : ad293 = ad294 := (by injection e294)
                                replace p294 := eq_true p294
                                replace q294 := eq_true q294
                                go_wp2
                                repeat (go_quiet (fail); try go_wp2)
                                go_meet
                                case rel => exact ⟨_, (true), (by first | rfl | (simp; done) | (simp [*]; done)), (by first | exact H' | (simp only [hji46]; exact H') | (simp only [hji49]; exact H') | (simp only [hji46, hji49]; exact H')), ⟨by have := HJ4.out; have := HK2.out; have := HJ24.out; first | omega | exact Nat.le_refl _⟩, ⟨by (with_reducible repeat (first | apply Kd.R_alloc | apply Kd.R_drewN | apply Kd.R_drew)); exact HO_3.out⟩, ⟨by (with_reducible repeat (first | apply Kd.R_alloc | apply Kd.R_drewN | apply Kd.R_drew)); exact HO_7.out⟩, ⟨by repeat (first | (with_reducible first | exact HB.out | apply below_alloc | apply pw_below_drewN | apply below_drew1) | exact HB.out)⟩⟩
                          · rw [if_neg c32] at H
                            exact absurd H (by simp)
                        · rw [if_neg c31] at H
                          exact absurd H (by simp)
                      · replace c30 := Bool.eq_false_iff.mpr c30
                        subst c30
                        have H1 : (if 0 ≤ x8_2 then (if x8_2 < (t275.length : Int) then (if x8_2 < (t269.length : Int) then (laws_FnLevelPlain.j3 kj24 t269 t270 t271 t272 t275 x8_2 false ((rd t275 x8_2) != (rd t269 x8_2))) else (none)) else (none)) else (none)) = some r := by rw [if_neg (show ¬ (false = true) by decide)] at H; exact H
                        clear H
                        have H := H1
                        clear H1
                        by_cases c38 : 0 ≤ x8_2
                        · rw [if_pos c38] at H
                          have c38b0 : decide (0 ≤ x8_2) = true := decide_eq_true c38
                          clear c38
                          by_cases c39 : x8_2 < (t275.length : Int)
                          · rw [if_pos c39] at H
                            have c39b0 : decide (x8_2 < (t275.length : Int)) = true := decide_eq_true c39
                            clear c39
                            by_cases c40 : x8_2 < (t269.length : Int)
                            · rw [if_pos c40] at H
                              have c40b0 : decide (x8_2 < (t269.length : Int)) = true := decide_eq_true c40
                              clear c40
                              have H' := Aside0.mk H
                              clear H
                              obtain ⟨Ao41, co41, eo41⟩ := Kd.R_slice HO_7.out
                              subst eo41
                              have p295 : 0 ≤ (x8_2 : Int) := of_decide_eq_true (by first | (with_reducible assumption) | assumption)
                              have q295 : x8_2 < (t275.length : Int) := of_decide_eq_true (by first | (with_reducible assumption) | assumption)
                              obtain ⟨ad295, e295, hx295_0⟩ := Kd.at_int (Kd.R_reads' HO_7.out).2.2 x8_2 p295 q295
                              cases e295
                              replace p295 := eq_true p295
                              replace q295 := eq_true q295
                              have p296 : 0 ≤ (x8_2 : Int) := of_decide_eq_true (by first | (with_reducible assumption) | assumption)
                              have q296 : x8_2 < (t269.length : Int) := of_decide_eq_true (by first | (with_reducible assumption) | assumption)
                              obtain ⟨ad296, e296, hx296_0⟩ := Kd.at_int (Kd.R_reads' HO_3.out).2.2 x8_2 p296 q296
                              cases e296
                              replace p296 := eq_true p296
                              replace q296 := eq_true q296
                              go_wp2
                              repeat (go_quiet (fail); try go_wp2)
                              go_meet
                              case rel => exact ⟨_, (((rd t275 x8_2) != (rd t269 x8_2))), (by first | rfl | (simp; done) | (simp [*]; done)), (by first | exact H' | (simp only [hji46]; exact H') | (simp only [hji49]; exact H') | (simp only [hji46, hji49]; exact H')), ⟨by have := HJ4.out; have := HK2.out; have := HJ24.out; first | omega | exact Nat.le_refl _⟩, ⟨by (with_reducible repeat (first | apply Kd.R_alloc | apply Kd.R_drewN | apply Kd.R_drew)); exact HO_3.out⟩, ⟨by (with_reducible repeat (first | apply Kd.R_alloc | apply Kd.R_drewN | apply Kd.R_drew)); exact HO_7.out⟩, ⟨by repeat (first | (with_reducible first | exact HB.out | apply below_alloc | apply pw_below_drewN | apply below_drew1) | exact HB.out)⟩⟩
                            · rw [if_neg c40] at H
                              exact absurd H (by simp)
                          · rw [if_neg c39] at H
                            exact absurd H (by simp)
                        · rw [if_neg c38] at H
                          exact absurd H (by simp)
                    case rest =>
                      clear HC29
                      try clear c1
                      try clear c2
                      try clear c2b0
                      try clear c2b1
                      try clear p2
                      try clear q2
                      try clear hx2
                      try clear c3
                      try clear c4
                      try clear c11
                      try clear c18
                      try clear c24
                      try clear c24b0
                      try clear c26
                      try clear c26b0
                      try clear c28
                      try clear p29
                      try clear q29
                      try clear hx29
                      try clear c30
                      try clear c31
                      try clear c31b0
                      try clear c32
                      try clear c32b0
                      try clear c33
                      try clear c33b0
                      try clear c33b1
                      try clear c35
                      try clear c35b0
                      try clear c35b1
                      try clear c38
                      try clear c38b0
                      try clear c39
                      try clear c39b0
                      try clear c40
                      try clear c40b0
                      try clear hx290_0
                      try clear hx292_0
                      try clear hx293_0
                      try clear hx294_0
                      try clear hx295_0
                      try clear hx296_0
                      try clear p2
                      try clear p290
                      try clear p292
                      try clear p293
                      try clear p294
                      try clear p295
                      try clear p296
                      try clear q2
                      try clear q290
                      try clear q292
                      try clear q293
                      try clear q294
                      try clear q295
                      try clear q296
                      obtain ⟨kq, x92_28, rfl, HA, HJ28, HO_3, HO_7, HB⟩ := hcut
                      cases kq with
                      | zero => exact absurd HA.out (by simp [laws_FnLevelPlain.j3])
                      | succ kj28 =>
                        have H := HA.out
                        clear HA
                        simp only [laws_FnLevelPlain.j3] at H
                        by_cases c42 : x92_28 = true
                        · subst c42
                          have H1 : (some false) = some r := by rw [if_pos rfl] at H; exact H
                          clear H
                          have H := H1
                          clear H1
                          obtain rfl := Option.some.inj H
                          go_wp2
                          repeat (go_quiet (fail); try go_wp2)
                          go_ret
                          exact ⟨by first | rfl | (simp [errW_none, errW_some] <;> rfl) | (simp [*, errW_none, errW_some] <;> rfl), by repeat (first | (with_reducible first | exact HB.out | apply below_alloc | apply pw_below_drewN | apply below_drew1) | exact HB.out)⟩
                        · replace c42 := Bool.eq_false_iff.mpr c42
                          subst c42
                          have H1 : (if x9_24 = true then (if x8_2 > 0 then (if (wrap64 (x8_2 + 1)) < (t269.length : Int) then (if 0 ≤ (wrap64 (x8_2 - 1)) then (if (wrap64 (x8_2 - 1)) < (t269.length : Int) then (if 0 ≤ (wrap64 (x8_2 + 1)) then (if (rd t269 (wrap64 (x8_2 - 1))) = (rd t269 (wrap64 (x8_2 + 1))) then (if (rd t269 (wrap64 (x8_2 - 1))) = 1 then (if 0 ≤ x8_2 then (if x8_2 < (t275.length : Int) then (if (rd t275 x8_2) = (rd t269 (wrap64 (x8_2 - 1))) then (laws_FnLevelPlain.l0 kj28 t269 t270 t271 t272 t275 (wrap64 (x8_2 + 1))) else (some false)) else (none)) else (none)) else (if (rd t269 (wrap64 (x8_2 - 1))) = 2 then (if 0 ≤ x8_2 then (if x8_2 < (t275.length : Int) then (if (rd t275 x8_2) = (rd t269 (wrap64 (x8_2 - 1))) then (laws_FnLevelPlain.l0 kj28 t269 t270 t271 t272 t275 (wrap64 (x8_2 + 1))) else (some false)) else (none)) else (none)) else (laws_FnLevelPlain.l0 kj28 t269 t270 t271 t272 t275 (wrap64 (x8_2 + 1))))) else (laws_FnLevelPlain.l0 kj28 t269 t270 t271 t272 t275 (wrap64 (x8_2 + 1)))) else (none)) else (none)) else (none)) else (laws_FnLevelPlain.l0 kj28 t269 t270 t271 t272 t275 (wrap64 (x8_2 + 1)))) else (laws_FnLevelPlain.l0 kj28 t269 t270 t271 t272 t275 (wrap64 (x8_2 + 1)))) else (laws_FnLevelPlain.l0 kj28 t269 t270 t271 t272 t275 (wrap64 (x8_2 + 1)))) = some r := by rw [if_neg (show ¬ (false = true) by decide)] at H; exact H
                          clear H
                          have H := H1
                          clear H1
                          by_cases c43 : x9_24 = true
                          · subst c43
                            have H1 : (if x8_2 > 0 then (if (wrap64 (x8_2 + 1)) < (t269.length : Int) then (if 0 ≤ (wrap64 (x8_2 - 1)) then (if (wrap64 (x8_2 - 1)) < (t269.length : Int) then (if 0 ≤ (wrap64 (x8_2 + 1)) then (if (rd t269 (wrap64 (x8_2 - 1))) = (rd t269 (wrap64 (x8_2 + 1))) then (if (rd t269 (wrap64 (x8_2 - 1))) = 1 then (if 0 ≤ x8_2 then (if x8_2 < (t275.length : Int) then (if (rd t275 x8_2) = (rd t269 (wrap64 (x8_2 - 1))) then (laws_FnLevelPlain.l0 kj28 t269 t270 t271 t272 t275 (wrap64 (x8_2 + 1))) else (some false)) else (none)) else (none)) else (if (rd t269 (wrap64 (x8_2 - 1))) = 2 then (if 0 ≤ x8_2 then (if x8_2 < (t275.length : Int) then (if (rd t275 x8_2) = (rd t269 (wrap64 (x8_2 - 1))) then (laws_FnLevelPlain.l0 kj28 t269 t270 t271 t272 t275 (wrap64 (x8_2 + 1))) else (some false)) else (none)) else (none)) else (laws_FnLevelPlain.l0 kj28 t269 t270 t271 t272 t275 (wrap64 (x8_2 + 1))))) else (laws_FnLevelPlain.l0 kj28 t269 t270 t271 t272 t275 (wrap64 (x8_2 + 1)))) else (none)) else (none)) else (none)) else (laws_FnLevelPlain.l0 kj28 t269 t270 t271 t272 t275 (wrap64 (x8_2 + 1)))) else (laws_FnLevelPlain.l0 kj28 t269 t270 t271 t272 t275 (wrap64 (x8_2 + 1)))) = some r := by rw [if_pos rfl] at H; exact H
                            clear H
                            have H := H1
                            clear H1
                            by_cases c44 : x8_2 > 0
                            · rw [if_pos c44] at H
                              have c44b0 : decide (0 < x8_2) = true := decide_eq_true c44
                              clear c44
                              by_cases c45 : (wrap64 (x8_2 + 1)) < (t269.length : Int)
                              · rw [if_pos c45] at H
                                have c45b0 : decide ((wrap64 (x8_2 + 1)) < (t269.length : Int)) = true := decide_eq_true c45
                                clear c45
                                obtain ⟨ji46, hji46⟩ : ∃ j_ : Int, (wrap64 (x8_2 - 1)) = j_ := ⟨_, rfl⟩
                                replace H : (if 0 ≤ (ji46) then (if (ji46) < (t269.length : Int) then (if 0 ≤ (wrap64 (x8_2 + 1)) then (if (rd t269 (ji46)) = (rd t269 (wrap64 (x8_2 + 1))) then (if (rd t269 (ji46)) = 1 then (if 0 ≤ x8_2 then (if x8_2 < (t275.length : Int) then (if (rd t275 x8_2) = (rd t269 (ji46)) then (laws_FnLevelPlain.l0 kj28 t269 t270 t271 t272 t275 (wrap64 (x8_2 + 1))) else (some false)) else (none)) else (none)) else (if (rd t269 (ji46)) = 2 then (if 0 ≤ x8_2 then (if x8_2 < (t275.length : Int) then (if (rd t275 x8_2) = (rd t269 (ji46)) then (laws_FnLevelPlain.l0 kj28 t269 t270 t271 t272 t275 (wrap64 (x8_2 + 1))) else (some false)) else (none)) else (none)) else (laws_FnLevelPlain.l0 kj28 t269 t270 t271 t272 t275 (wrap64 (x8_2 + 1))))) else (laws_FnLevelPlain.l0 kj28 t269 t270 t271 t272 t275 (wrap64 (x8_2 + 1)))) else (none)) else (none)) else (none)) = some r := by first | (rw [hji46] at H; exact H) | (simp only [hji46] at H ⊢; exact H)
                                have hji46w : (IntKind.i64.wrap (x8_2 - 1)) = ji46 := (i64_w _).trans hji46
                                by_cases c47 : 0 ≤ (ji46)
                                · rw [if_pos c47] at H
                                  have c47b0 : decide (0 ≤ (ji46)) = true := decide_eq_true c47
                                  clear c47
                                  by_cases c48 : (ji46) < (t269.length : Int)
                                  · rw [if_pos c48] at H
                                    have c48b0 : decide ((ji46) < (t269.length : Int)) = true := decide_eq_true c48
                                    clear c48
                                    obtain ⟨ji49, hji49⟩ : ∃ j_ : Int, (wrap64 (x8_2 + 1)) = j_ := ⟨_, rfl⟩
                                    replace H : (if 0 ≤ (ji49) then (if (rd t269 (ji46)) = (rd t269 (ji49)) then (if (rd t269 (ji46)) = 1 then (if 0 ≤ x8_2 then (if x8_2 < (t275.length : Int) then (if (rd t275 x8_2) = (rd t269 (ji46)) then (laws_FnLevelPlain.l0 kj28 t269 t270 t271 t272 t275 ji49) else (some false)) else (none)) else (none)) else (if (rd t269 (ji46)) = 2 then (if 0 ≤ x8_2 then (if x8_2 < (t275.length : Int) then (if (rd t275 x8_2) = (rd t269 (ji46)) then (laws_FnLevelPlain.l0 kj28 t269 t270 t271 t272 t275 ji49) else (some false)) else (none)) else (none)) else (laws_FnLevelPlain.l0 kj28 t269 t270 t271 t272 t275 ji49))) else (laws_FnLevelPlain.l0 kj28 t269 t270 t271 t272 t275 ji49)) else (none)) = some r := by first | (rw [hji49] at H; exact H) | (simp only [hji49] at H ⊢; exact H)
                                    (try rw [hji49] at c45b0)
                                    have hji49w : (IntKind.i64.wrap (x8_2 + 1)) = ji49 := (i64_w _).trans hji49
                                    by_cases c50 : 0 ≤ (ji49)
                                    · rw [if_pos c50] at H
                                      have c50b0 : decide (0 ≤ (ji49)) = true := decide_eq_true c50
                                      clear c50
                                      by_cases c51 : (rd t269 (ji46)) = (rd t269 (ji49))
                                      · rw [if_pos c51] at H
                                        have c51b0 : ((rd t269 (ji46)) == (rd t269 (ji49))) = true := beq_iff_eq.mpr c51
                                        have c51b1 : ((rd t269 (ji46)) != (rd t269 (ji49))) = false := bne_eq_false_iff_eq.mpr c51
                                        clear c51
                                        by_cases c52 : (rd t269 (ji46)) = 1
                                        · rw [if_pos c52] at H
                                          have c52b0 : ((rd t269 (ji46)) == 1) = true := beq_iff_eq.mpr c52
                                          have c52b1 : ((rd t269 (ji46)) != 1) = false := bne_eq_false_iff_eq.mpr c52
                                          clear c52
                                          by_cases c53 : 0 ≤ x8_2
                                          · rw [if_pos c53] at H
                                            have c53b0 : decide (0 ≤ x8_2) = true := decide_eq_true c53
                                            clear c53
                                            by_cases c54 : x8_2 < (t275.length : Int)
                                            · rw [if_pos c54] at H
                                              have c54b0 : decide (x8_2 < (t275.length : Int)) = true := decide_eq_true c54
                                              clear c54
                                              by_cases c55 : (rd t275 x8_2) = (rd t269 (ji46))
                                              · rw [if_pos c55] at H
                                                have c55b0 : ((rd t275 x8_2) == (rd t269 (ji46))) = true := beq_iff_eq.mpr c55
                                                have c55b1 : ((rd t275 x8_2) != (rd t269 (ji46))) = false := bne_eq_false_iff_eq.mpr c55
                                                clear c55
                                                have H' := Aside0.mk H
                                                clear H
                                                have p297 : 0 ≤ ((ji46) : Int) := of_decide_eq_true (by first | (with_reducible assumption) | assumption)
                                                have q297 : (ji46) < (t269.length : Int) := of_decide_eq_true (by first | (with_reducible assumption) | assumption)
                                                obtain ⟨ad297, e297, hx297_0⟩ := Kd.at_int (Kd.R_reads' HO_3.out).2.2 (ji46) p297 q297
                                                cases e297
                                                replace p297 := eq_true p297
                                                replace q297 := eq_true q297
                                                have p298 : 0 ≤ ((ji49) : Int) := of_decide_eq_true (by first | (with_reducible assumption) | assumption)
                                                have q298 : (ji49) < (t269.length : Int) := of_decide_eq_true (by first | (with_reducible assumption) | assumption)
                                                obtain ⟨ad298, e298, hx298_0⟩ := Kd.at_int (Kd.R_reads' HO_3.out).2.2 (ji49) p298 q298
                                                obtain rfl : ad297 = ad298 := (by injection e298)
                                                replace p298 := eq_true p298
                                                replace q298 := eq_true q298
                                                have p299 : 0 ≤ ((ji46) : Int) := of_decide_eq_true (by first | (with_reducible assumption) | assumption)
                                                have q299 : (ji46) < (t269.length : Int) := of_decide_eq_true (by first | (with_reducible assumption) | assumption)
                                                obtain ⟨ad299, e299, hx299_0⟩ := Kd.at_int (Kd.R_reads' HO_3.out).2.2 (ji46) p299 q299
                                                obtain rfl : ad297 = ad299 := (by injection e299)
                                                replace p299 := eq_true p299
                                                replace q299 := eq_true q299
                                                obtain ⟨Ao56, co56, eo56⟩ := Kd.R_slice HO_7.out
                                                subst eo56
                                                have p300 : 0 ≤ (x8_2 : Int) := of_decide_eq_true (by first | (with_reducible assumption) | assumption)
                                                have q300 : x8_2 < (t275.length : Int) := of_decide_eq_true (by first | (with_reducible assumption) | assumption)
                                                obtain ⟨ad300, e300, hx300_0⟩ := Kd.at_int (Kd.R_reads' HO_7.out).2.2 x8_2 p300 q300
                                                cases e300
                                                replace p300 := eq_true p300
                                                replace q300 := eq_true q300
                                                have p301 : 0 ≤ ((ji46) : Int) := of_decide_eq_true (by first | (with_reducible assumption) | assumption)
                                                have q301 : (ji46) < (t269.length : Int) := of_decide_eq_true (by first | (with_reducible assumption) | assumption)
                                                obtain ⟨ad301, e301, hx301_0⟩ := Kd.at_int (Kd.R_reads' HO_3.out).2.2 (ji46) p301 q301
                                                obtain rfl : ad297 = ad301 := (by injection e301)
                                                replace p301 := eq_true p301
                                                replace q301 := eq_true q301
                                                go_wp2
                                                repeat (go_quiet (fail); try go_wp2)
                                                go_roundg kj28
                                                case measure => have := HJ4.out; have := HK2.out; have := HJ24.out; have := HJ28.out; omega
                                                case rel => exact ⟨(ji49), (by first | rfl | (simp; done) | (simp only [← hji49] <;> (first | rfl | simp)) | (simp [*]; done)), (by first | exact H' | (simp only [hji46]; exact H') | (simp only [hji49]; exact H') | (simp only [hji46, hji49]; exact H')), ⟨by have := HJ4.out; have := HK2.out; have := HJ24.out; have := HJ28.out; omega⟩, ⟨by (with_reducible repeat (first | apply Kd.R_alloc | apply Kd.R_drewN | apply Kd.R_drew)); exact HO_3.out⟩, ⟨by (with_reducible repeat (first | apply Kd.R_alloc | apply Kd.R_drewN | apply Kd.R_drew)); exact HO_7.out⟩, ⟨by repeat (first | (with_reducible first | exact HB.out | apply below_alloc | apply pw_below_drewN | apply below_drew1) | exact HB.out)⟩⟩
                                              · rw [if_neg c55] at H
                                                have c55b0 : ((rd t275 x8_2) == (rd t269 (ji46))) = false := beq_eq_false_iff_ne.mpr c55
                                                have c55b1 : ((rd t275 x8_2) != (rd t269 (ji46))) = true := bne_iff_ne.mpr c55
                                                obtain rfl := Option.some.inj H
                                                have p297 : 0 ≤ ((ji46) : Int) := of_decide_eq_true (by first | (with_reducible assumption) | assumption)
                                                have q297 : (ji46) < (t269.length : Int) := of_decide_eq_true (by first | (with_reducible assumption) | assumption)
                                                obtain ⟨ad297, e297, hx297_0⟩ := Kd.at_int (Kd.R_reads' HO_3.out).2.2 (ji46) p297 q297
                                                cases e297
                                                replace p297 := eq_true p297
                                                replace q297 := eq_true q297
                                                have p298 : 0 ≤ ((ji49) : Int) := of_decide_eq_true (by first | (with_reducible assumption) | assumption)
                                                have q298 : (ji49) < (t269.length : Int) := of_decide_eq_true (by first | (with_reducible assumption) | assumption)
                                                obtain ⟨ad298, e298, hx298_0⟩ := Kd.at_int (Kd.R_reads' HO_3.out).2.2 (ji49) p298 q298
                                                obtain rfl : ad297 = ad298 := (by injection e298)
                                                replace p298 := eq_true p298
                                                replace q298 := eq_true q298
                                                have p299 : 0 ≤ ((ji46) : Int) := of_decide_eq_true (by first | (with_reducible assumption) | assumption)
                                                have q299 : (ji46) < (t269.length : Int) := of_decide_eq_true (by first | (with_reducible assumption) | assumption)
                                                obtain ⟨ad299, e299, hx299_0⟩ := Kd.at_int (Kd.R_reads' HO_3.out).2.2 (ji46) p299 q299
                                                obtain rfl : ad297 = ad299 := (by injection e299)
                                                replace p299 := eq_true p299
                                                replace q299 := eq_true q299
                                                obtain ⟨Ao57, co57, eo57⟩ := Kd.R_slice HO_7.out
                                                subst eo57
                                                have p300 : 0 ≤ (x8_2 : Int) := of_decide_eq_true (by first | (with_reducible assumption) | assumption)
                                                have q300 : x8_2 < (t275.length : Int) := of_decide_eq_true (by first | (with_reducible assumption) | assumption)
                                                obtain ⟨ad300, e300, hx300_0⟩ := Kd.at_int (Kd.R_reads' HO_7.out).2.2 x8_2 p300 q300
                                                cases e300
                                                replace p300 := eq_true p300
                                                replace q300 := eq_true q300
                                                have p301 : 0 ≤ ((ji46) : Int) := of_decide_eq_true (by first | (with_reducible assumption) | assumption)
                                                have q301 : (ji46) < (t269.length : Int) := of_decide_eq_true (by first | (with_reducible assumption) | assumption)
                                                obtain ⟨ad301, e301, hx301_0⟩ := Kd.at_int (Kd.R_reads' HO_3.out).2.2 (ji46) p301 q301
                                                obtain rfl : ad297 = ad301 := (by injection e301)
                                                replace p301 := eq_true p301
                                                replace q301 := eq_true q301
                                                go_wp2
                                                repeat (go_quiet (fail); try go_wp2)
                                                go_ret
                                                exact ⟨by first | rfl | (simp [errW_none, errW_some] <;> rfl) | (simp only [← hji46, ← hji49]; first | rfl | (simp [errW_none, errW_some] <;> rfl)) | (simp [*, errW_none, errW_some] <;> rfl), by repeat (first | (with_reducible first | exact HB.out | apply below_alloc | apply pw_below_drewN | apply below_drew1) | exact HB.out)⟩
                                            · rw [if_neg c54] at H
                                              exact absurd H (by simp)
                                          · rw [if_neg c53] at H
                                            exact absurd H (by simp)
                                        · rw [if_neg c52] at H
                                          have c52b0 : ((rd t269 (ji46)) == 1) = false := beq_eq_false_iff_ne.mpr c52
                                          have c52b1 : ((rd t269 (ji46)) != 1) = true := bne_iff_ne.mpr c52
                                          by_cases c58 : (rd t269 (ji46)) = 2
                                          · rw [if_pos c58] at H
                                            have c58b0 : ((rd t269 (ji46)) == 2) = true := beq_iff_eq.mpr c58
                                            have c58b1 : ((rd t269 (ji46)) != 2) = false := bne_eq_false_iff_eq.mpr c58
                                            clear c58
                                            by_cases c59 : 0 ≤ x8_2
                                            · rw [if_pos c59] at H
                                              have c59b0 : decide (0 ≤ x8_2) = true := decide_eq_true c59
                                              clear c59
                                              by_cases c60 : x8_2 < (t275.length : Int)
                                              · rw [if_pos c60] at H
                                                have c60b0 : decide (x8_2 < (t275.length : Int)) = true := decide_eq_true c60
                                                clear c60
                                                by_cases c61 : (rd t275 x8_2) = (rd t269 (ji46))
                                                · rw [if_pos c61] at H
                                                  have c61b0 : ((rd t275 x8_2) == (rd t269 (ji46))) = true := beq_iff_eq.mpr c61
                                                  have c61b1 : ((rd t275 x8_2) != (rd t269 (ji46))) = false := bne_eq_false_iff_eq.mpr c61
                                                  clear c61
                                                  have H' := Aside0.mk H
                                                  clear H
                                                  have p297 : 0 ≤ ((ji46) : Int) := of_decide_eq_true (by first | (with_reducible assumption) | assumption)
                                                  have q297 : (ji46) < (t269.length : Int) := of_decide_eq_true (by first | (with_reducible assumption) | assumption)
                                                  obtain ⟨ad297, e297, hx297_0⟩ := Kd.at_int (Kd.R_reads' HO_3.out).2.2 (ji46) p297 q297
                                                  cases e297
                                                  replace p297 := eq_true p297
                                                  replace q297 := eq_true q297
                                                  have p298 : 0 ≤ ((ji49) : Int) := of_decide_eq_true (by first | (with_reducible assumption) | assumption)
                                                  have q298 : (ji49) < (t269.length : Int) := of_decide_eq_true (by first | (with_reducible assumption) | assumption)
                                                  obtain ⟨ad298, e298, hx298_0⟩ := Kd.at_int (Kd.R_reads' HO_3.out).2.2 (ji49) p298 q298
                                                  obtain rfl : ad297 = ad298 := (by injection e298)
                                                  replace p298 := eq_true p298
                                                  replace q298 := eq_true q298
                                                  have p299 : 0 ≤ ((ji46) : Int) := of_decide_eq_true (by first | (with_reducible assumption) | assumption)
                                                  have q299 : (ji46) < (t269.length : Int) := of_decide_eq_true (by first | (with_reducible assumption) | assumption)
                                                  obtain ⟨ad299, e299, hx299_0⟩ := Kd.at_int (Kd.R_reads' HO_3.out).2.2 (ji46) p299 q299
                                                  obtain rfl : ad297 = ad299 := (by injection e299)
                                                  replace p299 := eq_true p299
                                                  replace q299 := eq_true q299
                                                  have p302 : 0 ≤ ((ji46) : Int) := of_decide_eq_true (by first | (with_reducible assumption) | assumption)
                                                  have q302 : (ji46) < (t269.length : Int) := of_decide_eq_true (by first | (with_reducible assumption) | assumption)
                                                  obtain ⟨ad302, e302, hx302_0⟩ := Kd.at_int (Kd.R_reads' HO_3.out).2.2 (ji46) p302 q302
                                                  obtain rfl : ad297 = ad302 := (by injection e302)
                                                  replace p302 := eq_true p302
                                                  replace q302 := eq_true q302
                                                  obtain ⟨Ao62, co62, eo62⟩ := Kd.R_slice HO_7.out
                                                  subst eo62
                                                  have p303 : 0 ≤ (x8_2 : Int) := of_decide_eq_true (by first | (with_reducible assumption) | assumption)
                                                  have q303 : x8_2 < (t275.length : Int) := of_decide_eq_true (by first | (with_reducible assumption) | assumption)
                                                  obtain ⟨ad303, e303, hx303_0⟩ := Kd.at_int (Kd.R_reads' HO_7.out).2.2 x8_2 p303 q303
                                                  cases e303
                                                  replace p303 := eq_true p303
                                                  replace q303 := eq_true q303
                                                  have p304 : 0 ≤ ((ji46) : Int) := of_decide_eq_true (by first | (with_reducible assumption) | assumption)
                                                  have q304 : (ji46) < (t269.length : Int) := of_decide_eq_true (by first | (with_reducible assumption) | assumption)
                                                  obtain ⟨ad304, e304, hx304_0⟩ := Kd.at_int (Kd.R_reads' HO_3.out).2.2 (ji46) p304 q304
                                                  obtain rfl : ad297 = ad304 := (by injection e304)
                                                  replace p304 := eq_true p304
                                                  replace q304 := eq_true q304
                                                  go_wp2
                                                  repeat (go_quiet (fail); try go_wp2)
                                                  go_roundg kj28
                                                  case measure => have := HJ4.out; have := HK2.out; have := HJ24.out; have := HJ28.out; omega
                                                  case rel => exact ⟨(ji49), (by first | rfl | (simp; done) | (simp only [← hji49] <;> (first | rfl | simp)) | (simp [*]; done)), (by first | exact H' | (simp only [hji46]; exact H') | (simp only [hji49]; exact H') | (simp only [hji46, hji49]; exact H')), ⟨by have := HJ4.out; have := HK2.out; have := HJ24.out; have := HJ28.out; omega⟩, ⟨by (with_reducible repeat (first | apply Kd.R_alloc | apply Kd.R_drewN | apply Kd.R_drew)); exact HO_3.out⟩, ⟨by (with_reducible repeat (first | apply Kd.R_alloc | apply Kd.R_drewN | apply Kd.R_drew)); exact HO_7.out⟩, ⟨by repeat (first | (with_reducible first | exact HB.out | apply below_alloc | apply pw_below_drewN | apply below_drew1) | exact HB.out)⟩⟩
                                                · rw [if_neg c61] at H
                                                  have c61b0 : ((rd t275 x8_2) == (rd t269 (ji46))) = false := beq_eq_false_iff_ne.mpr c61
                                                  have c61b1 : ((rd t275 x8_2) != (rd t269 (ji46))) = true := bne_iff_ne.mpr c61
                                                  obtain rfl := Option.some.inj H
                                                  have p297 : 0 ≤ ((ji46) : Int) := of_decide_eq_true (by first | (with_reducible assumption) | assumption)
                                                  have q297 : (ji46) < (t269.length : Int) := of_decide_eq_true (by first | (with_reducible assumption) | assumption)
                                                  obtain ⟨ad297, e297, hx297_0⟩ := Kd.at_int (Kd.R_reads' HO_3.out).2.2 (ji46) p297 q297
                                                  cases e297
                                                  replace p297 := eq_true p297
                                                  replace q297 := eq_true q297
                                                  have p298 : 0 ≤ ((ji49) : Int) := of_decide_eq_true (by first | (with_reducible assumption) | assumption)
                                                  have q298 : (ji49) < (t269.length : Int) := of_decide_eq_true (by first | (with_reducible assumption) | assumption)
                                                  obtain ⟨ad298, e298, hx298_0⟩ := Kd.at_int (Kd.R_reads' HO_3.out).2.2 (ji49) p298 q298
                                                  obtain rfl : ad297 = ad298 := (by injection e298)
                                                  replace p298 := eq_true p298
                                                  replace q298 := eq_true q298
                                                  have p299 : 0 ≤ ((ji46) : Int) := of_decide_eq_true (by first | (with_reducible assumption) | assumption)
                                                  have q299 : (ji46) < (t269.length : Int) := of_decide_eq_true (by first | (with_reducible assumption) | assumption)
                                                  obtain ⟨ad299, e299, hx299_0⟩ := Kd.at_int (Kd.R_reads' HO_3.out).2.2 (ji46) p299 q299
                                                  obtain rfl : ad297 = ad299 := (by injection e299)
                                                  replace p299 := eq_true p299
                                                  replace q299 := eq_true q299
                                                  have p302 : 0 ≤ ((ji46) : Int) := of_decide_eq_true (by first | (with_reducible assumption) | assumption)
                                                  have q302 : (ji46) < (t269.length : Int) := of_decide_eq_true (by first | (with_reducible assumption) | assumption)
                                                  obtain ⟨ad302, e302, hx302_0⟩ := Kd.at_int (Kd.R_reads' HO_3.out).2.2 (ji46) p302 q302
                                                  obtain rfl : ad297 = ad302 := (by injection e302)
                                                  replace p302 := eq_true p302
                                                  replace q302 := eq_true q302
                                                  obtain ⟨Ao63, co63, eo63⟩ := Kd.R_slice HO_7.out
                                                  subst eo63
                                                  have p303 : 0 ≤ (x8_2 : Int) := of_decide_eq_true (by first | (with_reducible assumption) | assumption)
                                                  have q303 : x8_2 < (t275.length : Int) := of_decide_eq_true (by first | (with_reducible assumption) | assumption)
                                                  obtain ⟨ad303, e303, hx303_0⟩ := Kd.at_int (Kd.R_reads' HO_7.out).2.2 x8_2 p303 q303
                                                  cases e303
                                                  replace p303 := eq_true p303
                                                  replace q303 := eq_true q303
                                                  have p304 : 0 ≤ ((ji46) : Int) := of_decide_eq_true (by first | (with_reducible assumption) | assumption)
                                                  have q304 : (ji46) < (t269.length : Int) := of_decide_eq_true (by first | (with_reducible assumption) | assumption)
                                                  obtain ⟨ad304, e304, hx304_0⟩ := Kd.at_int (Kd.R_reads' HO_3.out).2.2 (ji46) p304 q304
                                                  obtain rfl : ad297 = ad304 := (by injection e304)
                                                  replace p304 := eq_true p304
                                                  replace q304 := eq_true q304
                                                  go_wp2
                                                  repeat (go_quiet (fail); try go_wp2)
                                                  go_ret
                                                  exact ⟨by first | rfl | (simp [errW_none, errW_some] <;> rfl) | (simp only [← hji46, ← hji49]; first | rfl | (simp [errW_none, errW_some] <;> rfl)) | (simp [*, errW_none, errW_some] <;> rfl), by repeat (first | (with_reducible first | exact HB.out | apply below_alloc | apply pw_below_drewN | apply below_drew1) | exact HB.out)⟩
                                              · rw [if_neg c60] at H
                                                exact absurd H (by simp)
                                            · rw [if_neg c59] at H
                                              exact absurd H (by simp)
                                          · rw [if_neg c58] at H
                                            have c58b0 : ((rd t269 (ji46)) == 2) = false := beq_eq_false_iff_ne.mpr c58
                                            have c58b1 : ((rd t269 (ji46)) != 2) = true := bne_iff_ne.mpr c58
                                            have H' := Aside0.mk H
                                            clear H
                                            have p297 : 0 ≤ ((ji46) : Int) := of_decide_eq_true (by first | (with_reducible assumption) | assumption)
                                            have q297 : (ji46) < (t269.length : Int) := of_decide_eq_true (by first | (with_reducible assumption) | assumption)
                                            obtain ⟨ad297, e297, hx297_0⟩ := Kd.at_int (Kd.R_reads' HO_3.out).2.2 (ji46) p297 q297
                                            cases e297
                                            replace p297 := eq_true p297
                                            replace q297 := eq_true q297
                                            have p298 : 0 ≤ ((ji49) : Int) := of_decide_eq_true (by first | (with_reducible assumption) | assumption)
                                            have q298 : (ji49) < (t269.length : Int) := of_decide_eq_true (by first | (with_reducible assumption) | assumption)
                                            obtain ⟨ad298, e298, hx298_0⟩ := Kd.at_int (Kd.R_reads' HO_3.out).2.2 (ji49) p298 q298
                                            obtain rfl : ad297 = ad298 := (by injection e298)
                                            replace p298 := eq_true p298
                                            replace q298 := eq_true q298
                                            have p299 : 0 ≤ ((ji46) : Int) := of_decide_eq_true (by first | (with_reducible assumption) | assumption)
                                            have q299 : (ji46) < (t269.length : Int) := of_decide_eq_true (by first | (with_reducible assumption) | assumption)
                                            obtain ⟨ad299, e299, hx299_0⟩ := Kd.at_int (Kd.R_reads' HO_3.out).2.2 (ji46) p299 q299
                                            obtain rfl : ad297 = ad299 := (by injection e299)
                                            replace p299 := eq_true p299
                                            replace q299 := eq_true q299
                                            have p302 : 0 ≤ ((ji46) : Int) := of_decide_eq_true (by first | (with_reducible assumption) | assumption)
                                            have q302 : (ji46) < (t269.length : Int) := of_decide_eq_true (by first | (with_reducible assumption) | assumption)
                                            obtain ⟨ad302, e302, hx302_0⟩ := Kd.at_int (Kd.R_reads' HO_3.out).2.2 (ji46) p302 q302
                                            obtain rfl : ad297 = ad302 := (by injection e302)
                                            replace p302 := eq_true p302
                                            replace q302 := eq_true q302
                                            go_wp2
                                            repeat (go_quiet (fail); try go_wp2)
                                            go_roundg kj28
                                            case measure => have := HJ4.out; have := HK2.out; have := HJ24.out; have := HJ28.out; omega
                                            case rel => exact ⟨(ji49), (by first | rfl | (simp; done) | (simp only [← hji49] <;> (first | rfl | simp)) | (simp [*]; done)), (by first | exact H' | (simp only [hji46]; exact H') | (simp only [hji49]; exact H') | (simp only [hji46, hji49]; exact H')), ⟨by have := HJ4.out; have := HK2.out; have := HJ24.out; have := HJ28.out; omega⟩, ⟨by (with_reducible repeat (first | apply Kd.R_alloc | apply Kd.R_drewN | apply Kd.R_drew)); exact HO_3.out⟩, ⟨by (with_reducible repeat (first | apply Kd.R_alloc | apply Kd.R_drewN | apply Kd.R_drew)); exact HO_7.out⟩, ⟨by repeat (first | (with_reducible first | exact HB.out | apply below_alloc | apply pw_below_drewN | apply below_drew1) | exact HB.out)⟩⟩
                                      · rw [if_neg c51] at H
                                        have c51b0 : ((rd t269 (ji46)) == (rd t269 (ji49))) = false := beq_eq_false_iff_ne.mpr c51
                                        have c51b1 : ((rd t269 (ji46)) != (rd t269 (ji49))) = true := bne_iff_ne.mpr c51
                                        have H' := Aside0.mk H
                                        clear H
                                        have p297 : 0 ≤ ((ji46) : Int) := of_decide_eq_true (by first | (with_reducible assumption) | assumption)
                                        have q297 : (ji46) < (t269.length : Int) := of_decide_eq_true (by first | (with_reducible assumption) | assumption)
                                        obtain ⟨ad297, e297, hx297_0⟩ := Kd.at_int (Kd.R_reads' HO_3.out).2.2 (ji46) p297 q297
                                        cases e297
                                        replace p297 := eq_true p297
                                        replace q297 := eq_true q297
                                        have p298 : 0 ≤ ((ji49) : Int) := of_decide_eq_true (by first | (with_reducible assumption) | assumption)
                                        have q298 : (ji49) < (t269.length : Int) := of_decide_eq_true (by first | (with_reducible assumption) | assumption)
                                        obtain ⟨ad298, e298, hx298_0⟩ := Kd.at_int (Kd.R_reads' HO_3.out).2.2 (ji49) p298 q298
                                        obtain rfl : ad297 = ad298 := (by injection e298)
                                        replace p298 := eq_true p298
                                        replace q298 := eq_true q298
                                        go_wp2
                                        repeat (go_quiet (fail); try go_wp2)
                                        go_roundg kj28
                                        case measure => have := HJ4.out; have := HK2.out; have := HJ24.out; have := HJ28.out; omega
                                        case rel => exact ⟨(ji49), (by first | rfl | (simp; done) | (simp only [← hji49] <;> (first | rfl | simp)) | (simp [*]; done)), (by first | exact H' | (simp only [hji46]; exact H') | (simp only [hji49]; exact H') | (simp only [hji46, hji49]; exact H')), ⟨by have := HJ4.out; have := HK2.out; have := HJ24.out; have := HJ28.out; omega⟩, ⟨by (with_reducible repeat (first | apply Kd.R_alloc | apply Kd.R_drewN | apply Kd.R_drew)); exact HO_3.out⟩, ⟨by (with_reducible repeat (first | apply Kd.R_alloc | apply Kd.R_drewN | apply Kd.R_drew)); exact HO_7.out⟩, ⟨by repeat (first | (with_reducible first | exact HB.out | apply below_alloc | apply pw_below_drewN | apply below_drew1) | exact HB.out)⟩⟩
                                    · rw [if_neg c50] at H
                                      exact absurd H (by simp)
                                  · rw [if_neg c48] at H
                                    exact absurd H (by simp)
                                · rw [if_neg c47] at H
                                  exact absurd H (by simp)
                              · rw [if_neg c45] at H
                                have c45b0 : decide ((wrap64 (x8_2 + 1)) < (t269.length : Int)) = false := decide_eq_false c45
                                clear c45
                                have H' := Aside0.mk H
                                clear H
                                go_wp2
                                repeat (go_quiet (fail); try go_wp2)
                                go_roundg kj28
                                case measure => have := HJ4.out; have := HK2.out; have := HJ24.out; have := HJ28.out; omega
                                case rel => exact ⟨(wrap64 (x8_2 + 1)), (by first | rfl | (simp; done) | (simp [*]; done)), (by first | exact H' | (simp only [hji46]; exact H') | (simp only [hji49]; exact H') | (simp only [hji46, hji49]; exact H')), ⟨by have := HJ4.out; have := HK2.out; have := HJ24.out; have := HJ28.out; omega⟩, ⟨by (with_reducible repeat (first | apply Kd.R_alloc | apply Kd.R_drewN | apply Kd.R_drew)); exact HO_3.out⟩, ⟨by (with_reducible repeat (first | apply Kd.R_alloc | apply Kd.R_drewN | apply Kd.R_drew)); exact HO_7.out⟩, ⟨by repeat (first | (with_reducible first | exact HB.out | apply below_alloc | apply pw_below_drewN | apply below_drew1) | exact HB.out)⟩⟩
                            · rw [if_neg c44] at H
                              have c44b0 : decide (0 < x8_2) = false := decide_eq_false c44
                              clear c44
                              have H' := Aside0.mk H
                              clear H
                              go_wp2
                              repeat (go_quiet (fail); try go_wp2)
                              go_roundg kj28
                              case measure => have := HJ4.out; have := HK2.out; have := HJ24.out; have := HJ28.out; omega
                              case rel => exact ⟨(wrap64 (x8_2 + 1)), (by first | rfl | (simp; done) | (simp [*]; done)), (by first | exact H' | (simp only [hji46]; exact H') | (simp only [hji49]; exact H') | (simp only [hji46, hji49]; exact H')), ⟨by have := HJ4.out; have := HK2.out; have := HJ24.out; have := HJ28.out; omega⟩, ⟨by (with_reducible repeat (first | apply Kd.R_alloc | apply Kd.R_drewN | apply Kd.R_drew)); exact HO_3.out⟩, ⟨by (with_reducible repeat (first | apply Kd.R_alloc | apply Kd.R_drewN | apply Kd.R_drew)); exact HO_7.out⟩, ⟨by repeat (first | (with_reducible first | exact HB.out | apply below_alloc | apply pw_below_drewN | apply below_drew1) | exact HB.out)⟩⟩
                          · replace c43 := Bool.eq_false_iff.mpr c43
                            subst c43
                            have H1 : (laws_FnLevelPlain.l0 kj28 t269 t270 t271 t272 t275 (wrap64 (x8_2 + 1))) = some r := by rw [if_neg (show ¬ (false = true) by decide)] at H; exact H
                            clear H
                            have H := H1
                            clear H1
                            have H' := Aside0.mk H
                            clear H
                            go_wp2
                            repeat (go_quiet (fail); try go_wp2)
                            go_roundg kj28
                            case measure => have := HJ4.out; have := HK2.out; have := HJ24.out; have := HJ28.out; omega
                            case rel => exact ⟨(wrap64 (x8_2 + 1)), (by first | rfl | (simp; done) | (simp [*]; done)), (by first | exact H' | (simp only [hji46]; exact H') | (simp only [hji49]; exact H') | (simp only [hji46, hji49]; exact H')), ⟨by have := HJ4.out; have := HK2.out; have := HJ24.out; have := HJ28.out; omega⟩, ⟨by (with_reducible repeat (first | apply Kd.R_alloc | apply Kd.R_drewN | apply Kd.R_drew)); exact HO_3.out⟩, ⟨by (with_reducible repeat (first | apply Kd.R_alloc | apply Kd.R_drewN | apply Kd.R_drew)); exact HO_7.out⟩, ⟨by repeat (first | (with_reducible first | exact HB.out | apply below_alloc | apply pw_below_drewN | apply below_drew1) | exact HB.out)⟩⟩
              · rw [if_neg c24] at H
                have c24b0 : decide (x8_2 < (t269.length : Int)) = false := decide_eq_false c24
                clear c24
                replace H := Option.bind_eq_some_iff.mp H
                obtain ⟨t286, A640, H⟩ := H
                replace H : ((laws_wcInts.f k2 t286 t275).bind fun t289 => (some t289)) = some r := H
                have A64 := Aside0.mk A640
                clear A640
                replace H := Option.bind_eq_some_iff.mp H
                obtain ⟨t289, A650, H⟩ := H
                replace H : (some t289) = some r := H
                have A65 := Aside0.mk A650
                clear A650
                obtain rfl := Option.some.inj H
                obtain ⟨Ao66, co66, eo66⟩ := Kd.R_slice HO_7.out
                subst eo66
                go_wp2_with (first | (go_at_call 15; (with_reducible refine (impl_LevelPlain.calls _ _ t275 t270 t271 t272 t286 _ ?side1 ?side2 A64.out).mono ?_); (case side1 => repeat (first | exact (Kd.R_reads' HO_7.out).2.2 | (with_reducible refine Kd.C_alloc ?_ _) | (with_reducible refine Kd.C_drewN ?_ _) | (with_reducible refine Kd.C_drew ?_))); (case side2 => exact (Kd.R_reads' HO_7.out).2.1); rintro e w67 ⟨v287, rfl, ho0, hb⟩; have n0_ := Aside0.mk (Kd.R_elder' (by (with_reducible repeat (first | apply Kd.R_alloc | apply Kd.R_drewN | apply Kd.R_drew)); exact HO_3.out) (Kd.R_base ho0) hb); have n1_ := Aside0.mk (Kd.R_elder' (by (with_reducible repeat (first | apply Kd.R_alloc | apply Kd.R_drewN | apply Kd.R_drew)); exact HO_7.out) (Kd.R_base ho0) hb); have n2_ := Aside0.mk (Kd.R_lower (Kd.R_new' (Kd.R_new' ho0 (Kd.R_lt (by (with_reducible repeat (first | apply Kd.R_alloc | apply Kd.R_drewN | apply Kd.R_drew)); exact HO_3.out))) (Kd.R_lt (by (with_reducible repeat (first | apply Kd.R_alloc | apply Kd.R_drewN | apply Kd.R_drew)); exact HO_7.out))) (below_size (by repeat (first | (with_reducible first | exact HB.out | apply below_alloc | apply pw_below_drewN | apply below_drew1) | exact HB.out)))); have n3_ := Aside0.mk (below_step (by repeat (first | (with_reducible first | exact HB.out | apply below_alloc | apply pw_below_drewN | apply below_drew1) | exact HB.out)) hb); clear HO_3; clear HO_7; clear HB; have HO_3 := n0_; have HO_7 := n1_; have HO288 := n2_; have HB := n3_; clear n0_ n1_ n2_ n3_; (try clear hb); (try clear hb2); (try clear hk); (try clear hi); (try clear ho0); obtain ⟨Ao68, co68, eo68⟩ := Kd.R_slice HO288.out; subst eo68) | (go_at_call 20; (with_reducible refine (laws_wcInts.calls k2 _ _ t286 _ _ t275 t289 _ ?side1 ?side2 ?side3 ?side4 A65.out).mono ?_); (case side1 => repeat (first | exact (Kd.R_reads' HO288.out).2.2 | (with_reducible refine Kd.C_alloc ?_ _) | (with_reducible refine Kd.C_drewN ?_ _) | (with_reducible refine Kd.C_drew ?_))); (case side2 => exact (Kd.R_reads' HO288.out).2.1); (case side3 => repeat (first | exact (Kd.R_reads' HO_7.out).2.2 | (with_reducible refine Kd.C_alloc ?_ _) | (with_reducible refine Kd.C_drewN ?_ _) | (with_reducible refine Kd.C_drew ?_))); (case side4 => exact (Kd.R_reads' HO_7.out).2.1); rintro e w' ⟨rfl, ⟨nd, rfl⟩⟩; (try first | exact ⟨rfl, _, World.drewN_drewN _ _ _⟩ | exact ⟨rfl, _, Eq.trans (World.drewN_drewN _ _ _) (congrArg (World.drewN _) (Nat.add_assoc _ _ _))⟩)))
                repeat (go_quiet (first | (go_at_call 15; (with_reducible refine (impl_LevelPlain.calls _ _ t275 t270 t271 t272 t286 _ ?side1 ?side2 A64.out).mono ?_); (case side1 => repeat (first | exact (Kd.R_reads' HO_7.out).2.2 | (with_reducible refine Kd.C_alloc ?_ _) | (with_reducible refine Kd.C_drewN ?_ _) | (with_reducible refine Kd.C_drew ?_))); (case side2 => exact (Kd.R_reads' HO_7.out).2.1); rintro e w67 ⟨v287, rfl, ho0, hb⟩; have n0_ := Aside0.mk (Kd.R_elder' (by (with_reducible repeat (first | apply Kd.R_alloc | apply Kd.R_drewN | apply Kd.R_drew)); exact HO_3.out) (Kd.R_base ho0) hb); have n1_ := Aside0.mk (Kd.R_elder' (by (with_reducible repeat (first | apply Kd.R_alloc | apply Kd.R_drewN | apply Kd.R_drew)); exact HO_7.out) (Kd.R_base ho0) hb); have n2_ := Aside0.mk (Kd.R_lower (Kd.R_new' (Kd.R_new' ho0 (Kd.R_lt (by (with_reducible repeat (first | apply Kd.R_alloc | apply Kd.R_drewN | apply Kd.R_drew)); exact HO_3.out))) (Kd.R_lt (by (with_reducible repeat (first | apply Kd.R_alloc | apply Kd.R_drewN | apply Kd.R_drew)); exact HO_7.out))) (below_size (by repeat (first | (with_reducible first | exact HB.out | apply below_alloc | apply pw_below_drewN | apply below_drew1) | exact HB.out)))); have n3_ := Aside0.mk (below_step (by repeat (first | (with_reducible first | exact HB.out | apply below_alloc | apply pw_below_drewN | apply below_drew1) | exact HB.out)) hb); clear HO_3; clear HO_7; clear HB; have HO_3 := n0_; have HO_7 := n1_; have HO288 := n2_; have HB := n3_; clear n0_ n1_ n2_ n3_; (try clear hb); (try clear hb2); (try clear hk); (try clear hi); (try clear ho0); obtain ⟨Ao68, co68, eo68⟩ := Kd.R_slice HO288.out; subst eo68) | (go_at_call 20; (with_reducible refine (laws_wcInts.calls k2 _ _ t286 _ _ t275 t289 _ ?side1 ?side2 ?side3 ?side4 A65.out).mono ?_); (case side1 => repeat (first | exact (Kd.R_reads' HO288.out).2.2 | (with_reducible refine Kd.C_alloc ?_ _) | (with_reducible refine Kd.C_drewN ?_ _) | (with_reducible refine Kd.C_drew ?_))); (case side2 => exact (Kd.R_reads' HO288.out).2.1); (case side3 => repeat (first | exact (Kd.R_reads' HO_7.out).2.2 | (with_reducible refine Kd.C_alloc ?_ _) | (with_reducible refine Kd.C_drewN ?_ _) | (with_reducible refine Kd.C_drew ?_))); (case side4 => exact (Kd.R_reads' HO_7.out).2.1); rintro e w' ⟨rfl, ⟨nd, rfl⟩⟩; (try first | exact ⟨rfl, _, World.drewN_drewN _ _ _⟩ | exact ⟨rfl, _, Eq.trans (World.drewN_drewN _ _ _) (congrArg (World.drewN _) (Nat.add_assoc _ _ _))⟩))); try go_wp2_with (first | (go_at_call 15; (with_reducible refine (impl_LevelPlain.calls _ _ t275 t270 t271 t272 t286 _ ?side1 ?side2 A64.out).mono ?_); (case side1 => repeat (first | exact (Kd.R_reads' HO_7.out).2.2 | (with_reducible refine Kd.C_alloc ?_ _) | (with_reducible refine Kd.C_drewN ?_ _) | (with_reducible refine Kd.C_drew ?_))); (case side2 => exact (Kd.R_reads' HO_7.out).2.1); rintro e w67 ⟨v287, rfl, ho0, hb⟩; have n0_ := Aside0.mk (Kd.R_elder' (by (with_reducible repeat (first | apply Kd.R_alloc | apply Kd.R_drewN | apply Kd.R_drew)); exact HO_3.out) (Kd.R_base ho0) hb); have n1_ := Aside0.mk (Kd.R_elder' (by (with_reducible repeat (first | apply Kd.R_alloc | apply Kd.R_drewN | apply Kd.R_drew)); exact HO_7.out) (Kd.R_base ho0) hb); have n2_ := Aside0.mk (Kd.R_lower (Kd.R_new' (Kd.R_new' ho0 (Kd.R_lt (by (with_reducible repeat (first | apply Kd.R_alloc | apply Kd.R_drewN | apply Kd.R_drew)); exact HO_3.out))) (Kd.R_lt (by (with_reducible repeat (first | apply Kd.R_alloc | apply Kd.R_drewN | apply Kd.R_drew)); exact HO_7.out))) (below_size (by repeat (first | (with_reducible first | exact HB.out | apply below_alloc | apply pw_below_drewN | apply below_drew1) | exact HB.out)))); have n3_ := Aside0.mk (below_step (by repeat (first | (with_reducible first | exact HB.out | apply below_alloc | apply pw_below_drewN | apply below_drew1) | exact HB.out)) hb); clear HO_3; clear HO_7; clear HB; have HO_3 := n0_; have HO_7 := n1_; have HO288 := n2_; have HB := n3_; clear n0_ n1_ n2_ n3_; (try clear hb); (try clear hb2); (try clear hk); (try clear hi); (try clear ho0); obtain ⟨Ao68, co68, eo68⟩ := Kd.R_slice HO288.out; subst eo68) | (go_at_call 20; (with_reducible refine (laws_wcInts.calls k2 _ _ t286 _ _ t275 t289 _ ?side1 ?side2 ?side3 ?side4 A65.out).mono ?_); (case side1 => repeat (first | exact (Kd.R_reads' HO288.out).2.2 | (with_reducible refine Kd.C_alloc ?_ _) | (with_reducible refine Kd.C_drewN ?_ _) | (with_reducible refine Kd.C_drew ?_))); (case side2 => exact (Kd.R_reads' HO288.out).2.1); (case side3 => repeat (first | exact (Kd.R_reads' HO_7.out).2.2 | (with_reducible refine Kd.C_alloc ?_ _) | (with_reducible refine Kd.C_drewN ?_ _) | (with_reducible refine Kd.C_drew ?_))); (case side4 => exact (Kd.R_reads' HO_7.out).2.1); rintro e w' ⟨rfl, ⟨nd, rfl⟩⟩; (try first | exact ⟨rfl, _, World.drewN_drewN _ _ _⟩ | exact ⟨rfl, _, Eq.trans (World.drewN_drewN _ _ _) (congrArg (World.drewN _) (Nat.add_assoc _ _ _))⟩))))
                go_ret
                exact ⟨by first | rfl | (simp [errW_none, errW_some] <;> rfl) | (simp [*, errW_none, errW_some] <;> rfl), by repeat (first | (with_reducible first | exact HB.out | apply below_alloc | apply pw_below_drewN | apply below_drew1) | exact HB.out)⟩

/-- THE ONE PURE STATEMENT of laws_FnLevelPlain: yours. -/
def laws_FnLevelPlain.Pure : Prop := ∀ (l0 : List Int), l0.length ≤ maxLen → l0.length * 1 ≤ 140737488351232 → (∀ x ∈ l0, (Lit.int .u8 x).wf = true) → ∃ k, laws_FnLevelPlain.f k l0 = some true
theorem laws_FnLevelPlain.walk (P : laws_FnLevelPlain.Pure) (a0 : Option Addr) (len0 cap0 : Nat) (z0 : List Int) (w : World) (w0 : (a0 = none ∧ len0 = 0 ∧ cap0 = 0 ∧ z0 = []) ∨ ∃ x, a0 = some x ∧ len0 ≤ cap0 ∧ cap0 ≤ maxLen ∧ z0.length = cap0 ∧ (∀ i, i < z0.length → w.cell? (x.add i) = some (.int .u8 (z0.getD i 0))) ∧ ∀ n ∈ z0, (Lit.int .u8 n).wf = true) (y0 : len0 * 1 ≤ 140737488351232) :
    Calls Try.prog 4 #[.slice a0 len0 cap0] w fun e w' => e = .returned (.bool true) ∧ Below w.heap.size w w' := by
  obtain ⟨l0, rfl, hr0, hm0, hw0, hc0⟩ := ReadsInt.ofRowC w0
  obtain ⟨k, h⟩ := P l0 hm0 y0 hw0
  refine (laws_FnLevelPlain.calls k _ _ l0 true w (Kd.C_of_reads (d := (0 : Int)) (h1 := fun _ => rfl) hr0) hc0 h).mono ?_
  rintro e w' ⟨rfl, hd⟩
  exact ⟨rfl, hd⟩

end Go.Proofs.Ytkapjhlcmicpnaa.PFnLevelPlain
